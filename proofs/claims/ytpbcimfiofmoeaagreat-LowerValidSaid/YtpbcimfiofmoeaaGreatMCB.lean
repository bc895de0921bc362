/- Parts: AbRel, AbMem, AbOps, AbOps2. -/
import Derived.Test.YtpbcimfiofmoeaaGreatMCA
import Derived.WalkKit
set_option linter.unusedSimpArgs false
set_option linter.unusedVariables false
set_option linter.unusedSectionVars false
set_option linter.defProp false
set_option maxHeartbeats 32000000
namespace Go.Ab
set_option maxRecDepth 20000
open Go
theorem ax{P:Prop}(h:P:=by simp):P:=h
theorem BD{P:Prop}(h:P:=by simpa using hc):P:=h
theorem su{P:Prop}(h:P:=by simpa using Z):P:=h
theorem ac{P:Prop}(h:P:=by omega):P:=h
theorem mA{P:Prop}(h:P:=by rw[<- k r _ hr];exact hc):P:=h
theorem b9{P:Prop}(h:P:=by simp;omega):P:=h
theorem J7{P:Prop}(h:P:=by rw[World.frozen?_alloc_old _ _ _ (by have:=qE h1;simp;omega)];exact h2):P:=h
theorem gH{P:Prop}(h:P:=by rw[zkZ,if_pos rfl]):P:=h
theorem Fc{P:Prop}(h:P:=by rw[Hp.get_set,if_neg hk]):P:=h
theorem gQ{P:Prop}(h:P:=by rw[Hp.get_set,if_pos rfl]):P:=h
theorem yJ{P:Prop}(h:P:=by simp only[zmJ];omega):P:=h
theorem BE{P:Prop}(h:P:=by rw[Hp.get_set,if_neg Y]):P:=h
theorem J8{P:Prop}(h:P:=by simpa [Instr.loadAt,Instr.sureAddr]using m):P:=h
theorem yK{P:Prop}(h:P:=by simpa using J):P:=h
theorem Fe{P:Prop}(h:P:=by rw[Nat.add_assoc];exact .ptr hr):P:=h
theorem sw{P:Prop}(h:P:=by simpa using Y):P:=h
theorem sy{P:Prop}(h:P:=by constructor):P:=h
theorem wM{P:Prop}(h:P:=by simp[binOp,Op.stringOp,ByteArray.toList_eq]):P:=h
theorem jF{P:Prop}(h:P:=by assumption):P:=h
theorem gk{P:Prop}(h:P:=by rw[zkZ,if_neg ac]):P:=h
def jG:=@List.getElem?_append_left
def nK:=@List.getElem?_append_right
def rD:=@List.getElem?_take
def am:=@if_pos
def aB:=@Nat.le_refl
def dc:=@Nat.le_trans
def mB:=@Nat.lt_of_lt_of_le
def jk:=@Nat.eq_of_beq_eq_true
def yL:=@Nat.ne_of_beq_eq_false
def j0:=@decide_true
def ip:=@decide_false
def af:=@if_neg
def aL:=@Option.some.injEq
def jH:=@Nat.blt_eq
def j5:=@Array.getD_eq_getD_getElem?
def wN:=@Array.getElem?_setIfInBounds
def gR:=@Prod.mk.injEq
def fw:=@List.getElem?_eq_some_iff
def aT:=@List.getElem?_eq_getElem
def bL:=@Nat.zero_add
def BF:=@Go.RowKit.Below.heap_alloc
def dQ:=@Nat.le_succ
def BG:=@List.take_append_of_le_length
def gl:=@List.take_of_length_le
def BH:=@List.drop_of_length_le
def fj:=@List.length_append
def j6:=@List.length_take
def eK:=@List.length_cons
def eW:=@List.length_nil
def Fh:=@List.drop_drop
def ly:=@List.nil_append
def i8:=@List.append_assoc
def tX:=@List.getElem?_drop
def fA:=@Go.Sem.run_bind
def iE:=@Nat.add_assoc
def lA:=@List.length_drop
def jl:=@Option.bind_eq_some_iff
def sA:=@Option.map_eq_some_iff
def fF:=@Go.Result.andThen_ok
def dB:=@if_true
def lB:=@Go.Sem.run_pure
def pJ:=@Array.ext'
def yM:=@List.getElem_of_mem
def iP:=@List.all_eq_true
def cR:=@List.getElem_mem
def BI:=@Bool.eq_iff_iff
def pK:=@beq_iff_eq
def sB:=@Bool.true_eq_false
def dL:=@if_false
def i9:=@Bool.or_eq_false_iff
def cZ:=And.intro @aL.{0} @gR.{0,0}
def mU:=And.intro @eK.{0} @eW.{0}
end Go.Ab
namespace Go.Ab
set_option maxRecDepth 20000
open Go Go.RowKit
structure Gh where
 β:Nat->Option (Nat×Nat×Nat)
 F:Nat->Nat->Option Value
 ρ:Nat->Int
structure Bs where
 at':Nat
 ρ:Nat->Int
 cfg:Cfg
def oE(D:BinOp->Sx->Sx->Option Bool)(ρ:Nat->Int):Prop:=∀V k a b r,D V a b=some r->znx V k (a.eval ρ) (b.eval ρ)=some (.bool r)
inductive VR (G:Gh):AV->Value->Prop
 |int (k:IntKind) (n:Int):VR G (.int k n) (.int k n)
 |sx (k:IntKind) (e:Sx):VR G (.sx k e) (.int k (e.eval G.ρ))
 |bool (b:Bool):VR G (.bool b) (.bool b)
 |str (s:ByteArray) (l:List UInt8) (h:s.data.toList=l):VR G (.str l) (.string s)
 |nilP:VR G .nilP (.pointer none)
 |nilM:VR G .nilM (.map none)
 |nilF:VR G .nilF .nilFunc
 |nilS:VR G .nilS (.slice none 0 0)
 |ptr {r off b o x:Nat} (h:G.β r=some (b,o,x)):VR G (.ptr r off) (.pointer (some ⟨b,o+off,none⟩))
 |iptr {cs:List AV}{b o:Nat} (vs:Nat->Value) (hF:∀j,j<cs.length->G.F b (o+j)=some (vs j))
  (hv:∀(j:Nat) (c:AV),cs[j]?=some c->VR G c (vs j)):VR G (.iptr cs) (.pointer (some ⟨b,o,none⟩))
 |sl {r off len z b o x cap:Nat} (h:G.β r=some (b,o,x)) (hl:len<=cap) (hc:off+cap*z<=x) :
  VR G (.sl r off len z) (.slice (some ⟨b,o+off,none⟩) len cap)
 |lst {xs:List (List AV)}{b o cap z:Nat} (vs:Nat->Nat->Value) (hz:∀(i:Nat) (row:List AV),xs[i]?=some row->row.length=z)
  (hF:∀i j,i<xs.length->j<z->G.F b (o+i*z+j)=some (vs i j))
  (hv:∀(i j:Nat) (row:List AV) (c:AV),xs[i]?=some row->row[j]?=some c->VR G c (vs i j)) (hc:xs.length<=cap) :
  VR G (.lst xs) (.slice (some ⟨b,o,none⟩) xs.length cap)
 |lst0 (a:Option Addr) (cap:Nat):VR G (.lst []) (.slice a 0 cap)
 |map {r b o x:Nat} (h:G.β r=some (b,o,x)):VR G (.map r) (.map (some b))
 |clo {f:Nat}{cs:List AV}{vs:List Value} (hl:cs.length=vs.length) (hv:∀(i:Nat) c v,cs[i]?=some c->vs[i]?=some v->VR G c v) :
  VR G (.clo f cs) (.func (.func f) #[] vs.toArray)
 |agg {cs:List AV}{vs:List Value} (hl:cs.length=vs.length) (hv:∀(i:Nat) c v,cs[i]?=some c->vs[i]?=some v->VR G c v) :
  VR G (.agg cs) (.agg vs.toArray)
 |tup {cs:List AV}{vs:List Value} (hl:cs.length=vs.length) (hv:∀(i:Nat) c v,cs[i]?=some c->vs[i]?=some v->VR G c v) :
  VR G (.tup cs) (.tuple vs.toArray)
def cm(G:Gh)(cs:List AV)(vs:List Value):Prop:=cs.length=vs.length/\∀(i:Nat) c v,cs[i]?=some c->vs[i]?=some v->VR G c v
theorem cm.nil(G:Gh):cm G [] []:=⟨rfl,ax⟩
def qD:=@cm.nil
theorem cm.cons{G:Gh}{c:AV}{v:Value}{cs:List AV}{vs:List Value}(h:VR G c v)(U:cm G cs vs):cm G (c::cs) (v::vs):=by
 refine⟨by simp[U.1],fun i Y o hc Z=>?_⟩;cases i with
 |zero=>simp at hc Z;subst hc Z;exact h
 |succ i=>exact U.2 i Y o BD su
def mV:=@cm.cons
theorem cm.of_cons{G:Gh}{c:AV}{v:Value}{cs:List AV}{vs:List Value}(h:cm G (c::cs) (v::vs)):VR G c v/\cm G cs vs:=
 ⟨h.2 0 c v rfl rfl,by simpa using h.1,fun i Y o hc Z=>h.2 (i+1) Y o BD su⟩
theorem cm.append{G:Gh}{cs Y:List AV}{vs us:List Value}(h:cm G cs vs)(V:cm G Y us):cm G (cs++Y) (vs++us):=by
 refine⟨by simp[h.1,V.1],fun i c v hc Z=>?_⟩;have M:=h.1;by_cases I:i<cs.length
 .rw[jG I]at hc;rw[jG ac]at Z;exact h.2 i c v hc Z
 .rw[nK ac]at hc;rw[nK ac]at Z;rw[<-M]at Z;exact V.2 _ c v hc Z
theorem cm.drop{G:Gh}{cs:List AV}{vs:List Value}(h:cm G cs vs)(n:Nat):cm G (cs.drop n) (vs.drop n):=
 ⟨by simp[h.1],fun i c v hc Z=>h.2 (n+i) c v BD su⟩
theorem cm.take{G:Gh}{cs:List AV}{vs:List Value}(h:cm G cs vs)(n:Nat):cm G (cs.take n) (vs.take n):=by
 refine⟨by simp[h.1],fun i c v hc Z=>?_⟩;rw[rD]at hc Z;split at hc
 .rename_i I;rw[am I]at Z;exact h.2 i c v hc Z
 .simp at hc
structure Ext (G G':Gh):Prop where
 β:∀r p,G.β r=some p->G'.β r=some p
 F:∀b o v,G.F b o=some v->G'.F b o=some v
 ρ:G'.ρ=G.ρ
theorem Ext.refl(G:Gh):Ext G G:=⟨fun _ _ h=>h,fun _ _ _ h=>h,rfl⟩
def wO:=@Ext.refl
theorem Ext.trans{a b c:Gh}(h:Ext a b)(k:Ext b c):Ext a c:=⟨fun r p hp=>k.β r p (h.β r p hp),fun x y v Z=>k.F x y v (h.F x y v Z),k.ρ.trans h.ρ⟩
theorem VR.mono{G O:Gh}(e:Ext G O){c:AV}{v:Value}(h:VR G c v):VR O c v:=by
 induction h with
 |int k n=>exact .int k n
 |sx k x=>rw[<-e.ρ];exact .sx k x
 |bool b=>exact .bool b
 |str s l h=>exact .str s l h
 |nilP=>exact .nilP
 |nilM=>exact .nilM
 |nilF=>exact .nilF
 |nilS=>exact .nilS
 |ptr h=>exact .ptr (e.β _ _ h)
 |iptr vs Y _ ih=>exact .iptr vs (fun j o=>e.F _ _ _ (Y j o)) ih
 |sl h M hc=>exact .sl (e.β _ _ h) M hc
 |lst vs J Y _ hc ih=>exact .lst vs J (fun i j I o=>e.F _ _ _ (Y i j I o)) ih hc
 |lst0 a z=>exact .lst0 a z
 |map h=>exact .map (e.β _ _ h)
 |clo M _ ih=>exact .clo M ih
 |agg M _ ih=>exact .agg M ih
 |tup M _ ih=>exact .tup M ih
theorem cm.mono{G O:Gh}(e:Ext G O){c:List AV}{v:List Value}(h:cm G c v):cm O c v:=⟨h.1,fun i a b Z C=>(h.2 i a b Z C).mono e⟩
theorem VR.oneCell{G:Gh}{c:AV}{v:Value}(h:VR G c v):v.oneCell'=c.one:=by cases h<;>rfl
theorem VR.cells{G:Gh}{c:AV}{v:Value}(h:VR G c v):cm G c.cells v.cells.toList:=by
 cases h with
 |agg M Z=>exact⟨by simpa [AV.cells,Value.cells]using M,by simpa [AV.cells,Value.cells]using Z⟩
 |_=>exact mV (by constructor<;>assumption) (qD _)
def jI(G:Gh)(w:World)(b o:Nat)(cs:List AV):Prop:=∀(j:Nat) (c:AV),cs[j]?=some c->∃v,w.cell? ⟨b,o+j,none⟩=some v/\VR G c v
def zmJ(x:Nat)(cs:List AV):Bool->Nat
 |true=>x
 |false=>cs.length
def sC(G:Gh)(I:List (AV×AV))(ms:List MapEntry):Prop:=
 I.length=ms.length/\∀(i:Nat) e m,I[i]?=some e->ms[i]?=some m->VR G e.1 m.key/\VR G e.2 m.val
structure R (B:Bs) (H:Hp) (w:World) (G:Gh):Prop where
 base:B.at'<=w.heap.size
 dom:∀r p,G.β r=some p->r<H.next
 lt:∀r b o x,G.β r=some (b,o,x)->B.at'<=b/\b<w.heap.size
 cells:∀r b o x cs imm tip,G.β r=some (b,o,x)->H.get r=some (.cells cs imm tip)->jI G w b o cs
 imm:∀r b o x cs imm tip,G.β r=some (b,o,x)->H.get r=some (.cells cs imm tip)->∀j,j<imm->j<cs.length->∃v,G.F b (o+j)=some v
 ext:∀r b o x cs imm tip,G.β r=some (b,o,x)->H.get r=some (.cells cs imm tip)->cs.length<=zmJ x cs tip
 room:∀r b o x cs imm tip,G.β r=some (b,o,x)->H.get r=some (.cells cs imm tip)->∀j,imm<=j->j<zmJ x cs tip ->
  (∃v,w.cell? ⟨b,o+j,none⟩=some v)/\w.frozen? ⟨b,o+j,none⟩=false/\G.F b (o+j)=none
 apart:∀r b o x cs imm tip r' b' o' x' cs' imm' tip',G.β r=some (b,o,x)->H.get r=some (.cells cs imm tip) ->
  G.β r'=some (b',o',x')->H.get r'=some (.cells cs' imm' tip')->r≠r' ->
  ∀j j',imm<=j->j<zmJ x cs tip->imm'<=j'->j'<zmJ x' cs' tip'->b=b'->o+j≠o'+j'
 map:∀r b o x es,G.β r=some (b,o,x)->H.get r=some (.map es)->∃ms clock,w.heap[b]?=some (.map ms clock)/\sC G es ms.toList
 mapApart:∀r b o x es r' b' o' x',G.β r=some (b,o,x)->H.get r=some (.map es)->G.β r'=some (b',o',x')->(H.get r').isSome->r≠r'->b≠b'
 frz:∀b o v,G.F b o=some v->w.cell? ⟨b,o,none⟩=some v
 val:G.ρ=B.ρ
 sym:oE B.cfg.dec B.ρ
 fits:∀r b o x cs imm tip,G.β r=some (b,o,x)->H.get r=some (.cells cs imm tip)->cs.length<=x
structure Fr (G:Gh) (w w':World):Prop where
 os:w'.os=w.os
 tape:w'.tape=w.tape
 output:w'.output=w.output
 size:w.heap.size<=w'.heap.size
 block:∀k,k<w.heap.size->(∀r b o x,G.β r=some (b,o,x)->b≠k)->w'.heap[k]?=w.heap[k]?
theorem Fr.refl(G:Gh)(w:World):Fr G w w:=⟨rfl,rfl,rfl,aB _,fun _ _ _=>rfl⟩
def yN:=@Fr.refl
def sD(G O:Gh)(w:World):Prop:=∀r b o x,O.β r=some (b,o,x)->G.β r=some (b,o,x)\/w.heap.size<=b\/∃C Z z,G.β C=some (b,Z,z)
theorem Fr.trans{G O:Gh}{a b c:World}(h:Fr G a b)(k:Fr O b c)(n:sD G O a):Fr G a c:=
 ⟨k.os.trans h.os,k.tape.trans h.tape,k.output.trans h.output,dc h.size k.size,fun i I J=>
  (k.block i (mB I h.size) (fun r b o x hr Z=>by
    rcases n r b o x hr with m|m|⟨C,Y,z,m⟩
    .exact J r b o x m Z
    .omega
    .exact J C b Y z m Z)).trans (h.block i I J)⟩
theorem sD.refl(G:Gh)(w:World):sD G G w:=fun _ _ _ _ h=>.inl h
def vi:=@sD.refl
theorem sD.trans{G O U:Gh}{w w':World}(h:sD G O w)(k:sD O U w')(Y:w.heap.size<=w'.heap.size):sD G U w:=fun r b o x hr=>by
 rcases k r b o x hr with m|m|⟨C,Z,z,m⟩
 .exact h r b o x m
 .exact .inr (.inl ac)
 .rcases h C b Z z m with j|j|j
  .exact .inr (.inr ⟨C,Z,z,j⟩)
  .exact .inr (.inl j)
  .exact .inr (.inr j)
structure Step (B:Bs) (nx:Nat) (G:Gh) (w:World) (H':Hp) (w':World) (G':Gh):Prop where
 r:R B H' w' G'
 ext:Ext G G'
 fr:Fr G w w'
 new:sD G G' w
 low:∀r p,G'.β r=some p->G.β r=some p\/nx<=r
 mono:nx<=H'.next
 icy:∀b o v,G'.F b o=some v->G.F b o=some v\/B.at'<=b
theorem Step.refl{B:Bs}{H:Hp}{G:Gh}{w:World}(h:R B H w G):Step B H.next G w H w G:=⟨h,wO _,yN _ _,vi _ _,fun _ _ h=>.inl h,aB _,fun _ _ _ h=>.inl h⟩
def mC:=@Step.refl
theorem Step.trans{B:Bs}{K:Nat}{H' M:Hp}{G O U:Gh}{w w' V:World}(h:Step B K G w H' w' O)(k:Step B H'.next O w' M V U):Step B K G w M V U:=
 ⟨k.r,h.ext.trans k.ext,h.fr.trans k.fr h.new,h.new.trans k.new h.fr.size,fun r p hr=>by
  rcases k.low r p hr with m|m
  .exact h.low r p m
  .exact .inr (dc h.mono m),dc h.mono k.mono,fun b o v Z=>by
  rcases k.icy b o v Z with m|m
  .exact h.icy b o v m
  .exact .inr m⟩
structure TR (N:Nat) (G:Gh) (E:aw) (a:Act):Prop where
 size:a.tmps.size=N
 slots:∀t,VR G (E.at t) (a.tmps.getD t undef)
theorem TR.mono{N:Nat}{G O:Gh}{E:aw}{a:Act}(e:Ext G O)(h:TR N G E a):TR N O E a:=⟨h.size,fun t=>(h.slots t).mono e⟩
theorem VR.undef(G:Gh):VR G zmx Go.undef:=.tup (cs:=[]) (vs:=[]) rfl ax
def yO:=@VR.undef
@[simp] theorem sE {α:Type} (x y:α):jR true x y=x:=rfl
@[simp] theorem znF {α:Type} (x y:α):jR false x y=y:=rfl
theorem yP{Z:Type}(k:Nat):(T.e:T Z).get k=none:=rfl
theorem vj{Z:Type}(v:Option Z)(l r:T Z)(k:Nat):
 (T.n v l r).get k=jR (Nat.beq k 0) v (jR (Nat.beq (Nat.mod k 2) 1) (l.get (Nat.div k 2)) (r.get (Nat.sub (Nat.div k 2) 1))):=rfl
theorem BJ{Z:Type}(v:Option Z)(f:Nat)(t:T Z)(k:Nat):jS v (f+1) t k=T.casesOn t
 (jR (Nat.beq k 0) (.n v .e .e) (jR (Nat.beq (Nat.mod k 2) 1) (.n none (jS v f .e (Nat.div k 2)) .e) (.n none .e (jS v f .e (Nat.sub (Nat.div k 2) 1)))))
 (fun u l r=>jR (Nat.beq k 0) (.n v l r) (jR (Nat.beq (Nat.mod k 2) 1) (.n u (jS v f l (Nat.div k 2)) r) (.n u l (jS v f r (Nat.sub (Nat.div k 2) 1))))):=rfl
theorem Ue{K:Type}(v:Option K):∀(f:Nat) (t:T K) (k j:Nat),k<f->(jS v f t k).get j=if j=k then v else t.get j:=by
 intro f;induction f with
 |zero=>intro t k j h;omega
 |succ f ih=>
  intro t k j h;have hd:∀n:Nat,Nat.div n 2=n/2:=fun _=>rfl;have M:∀n:Nat,Nat.mod n 2=n%2:=fun _=>rfl;have O:∀n:Nat,Nat.sub n 1=n-1:=fun _=>rfl;have V:∀n m:Nat,Nat.beq n m=decide (n=m):=fun n m=>by
   cases h:Nat.beq n m with
   |true=>have e:=jk h;simp[e]
   |false=>have e:=yL h;simp[e]
  rw[BJ];cases t with
  |e=>
   simp only[];by_cases U:k=0
   .subst U;simp only[V,j0,sE,vj,yP];by_cases o:j=0<;>simp[o] ;cases decide (j.mod 2=1)<;>rfl
   .simp only[V,U,ip,znF];by_cases I:Nat.mod k 2=1
    .simp only[I,j0,sE,vj,V];by_cases Y:j=0
     .subst Y;simp[yP];omega
     .simp only[Y,ip,znF];by_cases Z:Nat.mod j 2=1
      .simp only[Z,j0,sE];rw[ih _ _ _ (by rw[hd];omega)];rw[hd,hd,M]at *;by_cases e:j=k
       .subst e;simp
       .rw[af ac,af e];rfl
      .simp only[Z,ip,znF,yP];rw[af (by rintro rfl;exact Z I)]
    .simp only[I,ip,znF,vj,V];by_cases Y:j=0
     .subst Y;simp[yP];omega
     .simp only[Y,ip,znF];by_cases Z:Nat.mod j 2=1
      .simp only[Z,j0,sE,yP];rw[af (by rintro rfl;exact I Z)]
      .simp only[Z,ip,znF];rw[ih _ _ _ (by rw[hd,O];omega)];rw[hd,hd,O,O];rw[M]at I Z;by_cases e:j=k
       .subst e;simp
       .rw[af ac,af e];rfl
  |n u l r=>
   simp only[];by_cases U:k=0
   .subst U;simp only[V,j0,sE,vj];by_cases o:j=0<;>simp[o]
   .simp only[V,U,ip,znF];by_cases I:Nat.mod k 2=1
    .simp only[I,j0,sE,vj,V];by_cases Y:j=0
     .subst Y;simp;omega
     .simp only[Y,ip,znF];by_cases Z:Nat.mod j 2=1
      .simp only[Z,j0,sE];rw[ih _ _ _ (by rw[hd];omega)];rw[M]at I Z;rw[hd,hd];by_cases e:j=k
       .subst e;simp
       .rw[af ac,af e]
      .simp only[Z,ip,znF];rw[af (by rintro rfl;exact Z I)]
    .simp only[I,ip,znF,vj,V];by_cases Y:j=0
     .subst Y;simp;omega
     .simp only[Y,ip,znF];by_cases Z:Nat.mod j 2=1
      .simp only[Z,j0,sE];rw[af (by rintro rfl;exact I Z)]
      .simp only[Z,ip,znF];rw[ih _ _ _ (by rw[hd,O];omega)];rw[M]at I Z;rw[hd,hd,O,O];by_cases e:j=k
       .subst e;simp
       .rw[af ac,af e]
theorem T.get_set{Z:Type}(t:T Z)(k j:Nat)(v:Option Z):(t.set k v).get j=if j=k then v else t.get j:=Ue v (k+1) t k j ac
def BK:=@T.get_set
theorem Hp.get_set(h:Hp)(r j:Nat)(b:HB):(h.set r b).get j=if j=r then some b else h.get j:=BK _ _ _ _
def aJ:=@Hp.get_set
theorem znf(h:Hp)(r j:Nat):(h.kill r).get j=if j=r then none else h.get j:=BK _ _ _ _
theorem zkZ(h:Hp)(j:Nat)(b:HB):(h.alloc b).get j=if j=h.next then some b else h.get j:=BK _ _ _ _
@[simp] theorem zli (h:Hp) (r:Nat) (b:HB):(h.set r b).next=h.next:=rfl
@[simp] theorem zn0 (h:Hp) (r:Nat):(h.kill r).next=h.next:=rfl
@[simp] theorem zk9 (h:Hp) (b:HB):(h.alloc b).next=h.next+1:=rfl
theorem wP(E:aw)(d t:Nat)(v:AV):aw.at (T.set E d (some v)) t=if t=d then v else E.at t:=by
 unfold aw.at;rw[BK];split<;>rfl
theorem TR.put{N:Nat}{G:Gh}{E Z:aw}{a:Act}(h:TR N G E a){J:Option Tmp}{c:AV}{v:Value}(Y:VR G c v)(C:fQ N E J c=some Z):TR N G Z (a.put J v):=by
 cases J with
 |none=>simp[fQ]at C;subst C;exact h
 |some d=>
  simp only[fQ]at C;split at C
  .rename_i hd;simp only[aL]at C;subst C;have j:d<N:=by simpa [jH]using hd
   refine⟨by simp[Act.put,h.size],fun t=>?_⟩;rw[wP];simp only[Act.put];by_cases e:t=d
   .subst e;rw[am rfl];simpa [Array.getD,h.size,j]using Y
   .rw[af e];have:=h.slots t;simpa [j5,wN,Ne.symm e]using this
  .simp at C
theorem qE{w:World}{b o:Nat}{v:Value}(h:w.cell? ⟨b,o,none⟩=some v):b<w.heap.size:=World.block_lt_of_cell? w ⟨b,o,none⟩ h
theorem R.congr{B:Bs}{H H':Hp}{w:World}{G:Gh}(h:R B H w G)(m:H'.next=H.next)(j:∀r,(G.β r).isSome->H'.get r=H.get r):R B H' w G:=by
 have k:∀r p,G.β r=some p->H'.get r=H.get r:=fun r p hr=>j r (by simp[hr]);exact{
  base:=h.base
  dom:=fun r p hr=>by rw[m];exact h.dom r p hr
  lt:=h.lt
  cells:=fun r b o x z imm Y hr hc=>h.cells r b o x z imm Y hr mA
  imm:=fun r b o x z imm Y hr hc=>h.imm r b o x z imm Y hr mA
  ext:=fun r b o x z imm Y hr hc=>h.ext r b o x z imm Y hr mA
  fits:=fun r b o x z imm Y hr hc=>h.fits r b o x z imm Y hr mA
  room:=fun r b o x z imm Y hr hc=>h.room r b o x z imm Y hr mA
  apart:=fun r b o x z imm Y C b' V U K Z O hr hc J M=>h.apart r b o x z imm Y C b' V U K Z O hr mA J (by rw[<-k C _ J];exact M)
  map:=fun r b o x I hr hc=>h.map r b o x I hr mA
  mapApart:=fun r b o x I C b' V U hr hc J hs=>h.mapApart r b o x I C b' V U hr mA J (by rw[<-k C _ J];exact hs)
  frz:=h.frz
  val:=h.val
  sym:=h.sym}
theorem R.kill{B:Bs}{H:Hp}{w:World}{G:Gh}(h:R B H w G)(zlE:Nat):R B (H.kill zlE) w G:=by
 have k:∀j b,(H.kill zlE).get j=some b->H.get j=some b:=fun j b V=>by
  rw[znf]at V;split at V
  .simp at V
  .exact V
 exact{
  base:=h.base
  dom:=h.dom
  lt:=h.lt
  cells:=fun r b o x z imm Y hr hc=>h.cells r b o x z imm Y hr (k _ _ hc)
  imm:=fun r b o x z imm Y hr hc=>h.imm r b o x z imm Y hr (k _ _ hc)
  ext:=fun r b o x z imm Y hr hc=>h.ext r b o x z imm Y hr (k _ _ hc)
  fits:=fun r b o x z imm Y hr hc=>h.fits r b o x z imm Y hr (k _ _ hc)
  room:=fun r b o x z imm Y hr hc=>h.room r b o x z imm Y hr (k _ _ hc)
  apart:=fun r b o x z imm Y C b' U M K Z O hr hc J I=>h.apart r b o x z imm Y C b' U M K Z O hr (k _ _ hc) J (k _ _ I)
  map:=fun r b o x m hr hc=>h.map r b o x m hr (k _ _ hc)
  mapApart:=fun r b o x m C b' U M hr hc J hs=>h.mapApart r b o x m C b' U M hr (k _ _ hc) J (by
   cases hh:(H.kill zlE).get C with
   |none=>simp[hh]at hs
   |some b=>rw[k _ _ hh];rfl)
  frz:=h.frz
  val:=h.val
  sym:=h.sym}
def Gh.add(G:Gh)(r:Nat)(p:Nat×Nat×Nat):Gh:={β:=fun k=>if k=r then some p else G.β k,F:=G.F,ρ:=G.ρ}
theorem sF(G:Gh)(r:Nat)(p:Nat×Nat×Nat):(G.add r p).β r=some p:=by simp[Gh.add]
theorem Fk{G:Gh}{r:Nat}{p:Nat×Nat×Nat}(h:∀q,G.β r=some q->False):Ext G (G.add r p):=
 ⟨fun k q o=>by
  simp only[Gh.add];split
  .rename_i e;subst e;exact(h q o).elim
  .exact o,fun _ _ _ h=>h,rfl⟩
theorem jI.mono{G O:Gh}{w:World}{b o:Nat}{cs:List AV}(e:Ext G O)(h:jI G w b o cs):jI O w b o cs:=
 fun j c Z=>let ⟨v,m,Y⟩:=h j c Z;⟨v,m,Y.mono e⟩
theorem sC.mono{G O:Gh}{I:List (AV×AV)}{ms:List MapEntry}(e:Ext G O)(h:sC G I ms):sC O I ms:=
 ⟨h.1,fun i a b Z C=>⟨(h.2 i a b Z C).1.mono e,(h.2 i a b Z C).2.mono e⟩⟩
theorem J9{B:Bs}{nx zlE:Nat}{X:Hp}{w:World}{G:Gh}(h:R B X w G){cs:List AV}{vs:List Value}(hno:∀q,G.β zlE=some q->False)(hlt0:zlE<X.next)(Z:X.get zlE=some (.cells cs 0 true))(hnx:nx<=zlE)
 (hv:cm G cs vs) (z:List Value) (e:TypeId) :
 Step B nx G w X (w.alloc (.cells (vs++z).toArray e)) (G.add zlE (w.heap.size,0,vs.length+z.length)):=by
 have O:Ext G (G.add zlE (w.heap.size,0,vs.length+z.length)):=Fk hno;have m:∀k b' o',k<w.heap.size->b'=k->(w.alloc (.cells (vs++z).toArray e)).cell? ⟨b',o',none⟩=w.cell? ⟨b',o',none⟩:=fun k b' o' hk hb=>World.cell?_alloc_lt _ _ _ (by simpa [hb]using hk);have hnew:∀j,(w.alloc (.cells (vs++z).toArray e)).cell? ⟨w.heap.size,j,none⟩=(vs++z)[j]?:=fun j=>by
  rw[World.cell?_alloc_new];simp
 have Y:∀r p,(G.add zlE (w.heap.size,0,vs.length+z.length)).β r=some p->(r=zlE/\p=(w.heap.size,0,vs.length+z.length))\/(r≠zlE/\G.β r=some p):=fun r p hr=>by
  simp only[Gh.add]at hr;split at hr
  .rename_i e;exact .inl ⟨e,by simpa using hr.symm⟩
  .rename_i e;exact .inr ⟨e,hr⟩
 refine⟨?_,O,⟨rfl,rfl,rfl,ax,fun k hk _=>?_⟩,fun r b o x hr=>?_,fun r p hr=>(Y r p hr).elim (fun e=>.inr (by rw[e.1];exact hnx)) (fun e=>.inl e.2),ac,fun _ _ _ h=>.inl h⟩
 .exact{
   base:=by have:=h.base;simp;omega
   dom:=fun r p hr=>by
    rcases Y r p hr with⟨rfl,_⟩|⟨_,J⟩
    .exact hlt0
    .exact h.dom r p J
   lt:=fun r b o x hr=>by
    rcases Y r _ hr with⟨rfl,hp⟩|⟨_,J⟩
    .simp only[gR]at hp;obtain⟨rfl,rfl,rfl⟩:=hp;exact⟨h.base,ax⟩
    .have:=h.lt r b o x J;exact⟨this.1,b9⟩
   cells:=fun r b o x K imm V hr hc=>by
    rcases Y r _ hr with⟨rfl,hp⟩|⟨U,J⟩
    .simp only[gR]at hp;obtain⟨rfl,rfl,rfl⟩:=hp;rw[Z]at hc;simp only[aL,HB.cells.injEq]at hc;obtain⟨rfl,rfl,rfl⟩:=hc;intro j c hj;have M:j<cs.length:=(fw.1 hj).1;have hjv:j<vs.length:=by have:=hv.1;omega
     refine⟨vs[j],?_,(hv.2 j c _ hj (aT hjv)).mono O⟩;rw[bL,hnew,jG hjv,aT hjv]
    .intro j c hj;obtain⟨v,h1,h2⟩:=h.cells r b o x K imm V J hc j c hj;exact⟨v,by rw[m _ _ _ (qE h1) rfl];exact h1,h2.mono O⟩
   imm:=fun r b o x K imm V hr hc j hj M=>by
    rcases Y r _ hr with⟨rfl,hp⟩|⟨U,J⟩
    .rw[Z]at hc;simp only[aL,HB.cells.injEq]at hc;obtain⟨rfl,rfl,rfl⟩:=hc;omega
    .exact h.imm r b o x K imm V J hc j hj M
   ext:=fun r b o x K imm V hr hc=>by
    rcases Y r _ hr with⟨rfl,hp⟩|⟨U,J⟩
    .simp only[gR]at hp;obtain⟨rfl,rfl,rfl⟩:=hp;rw[Z]at hc;simp only[aL,HB.cells.injEq]at hc;obtain⟨rfl,rfl,rfl⟩:=hc;have:=hv.1;simp only[zmJ];omega
    .exact h.ext r b o x K imm V J hc
   fits:=fun r b o x K imm V hr hc=>by
    rcases Y r _ hr with⟨rfl,hp⟩|⟨U,J⟩
    .simp only[gR]at hp;obtain⟨rfl,rfl,rfl⟩:=hp;rw[Z]at hc;simp only[aL,HB.cells.injEq]at hc;obtain⟨rfl,rfl,rfl⟩:=hc;have:=hv.1;omega
    .exact h.fits r b o x K imm V J hc
   room:=fun r b o x K imm V hr hc j hj M=>by
    rcases Y r _ hr with⟨rfl,hp⟩|⟨U,J⟩
    .simp only[gR]at hp;obtain⟨rfl,rfl,rfl⟩:=hp;rw[Z]at hc;simp only[aL,HB.cells.injEq]at hc;obtain⟨rfl,rfl,rfl⟩:=hc;simp only[zmJ]at M;refine⟨⟨(vs++z)[j]' b9,?_⟩,?_,?_⟩
     .rw[bL,hnew,aT]
     .simp
     .cases hf:G.F w.heap.size (0+j)with
      |none=>exact hf
      |some v=>have:=qE (h.frz _ _ _ hf);omega
    .obtain⟨⟨v,h1⟩,h2,h3⟩:=h.room r b o x K imm V J hc j hj M;exact⟨⟨v,by rw[m _ _ _ (qE h1) rfl];exact h1⟩,J7,h3⟩
   apart:=fun r b o x cs1 imm V r' b' o' x' cs2 imm' tip' hr hc J hc' U j j' hj M hj' hjl' he=>by
    rcases Y r _ hr with⟨rfl,hp⟩|⟨hn1,I⟩
    .simp only[gR]at hp;obtain⟨rfl,rfl,rfl⟩:=hp;rcases Y r' _ J with⟨rfl,hp⟩|⟨hn2,C⟩
     .exact(U rfl).elim
     .have:=(h.lt r' b' o' x' C).2;omega
    .rcases Y r' _ J with⟨rfl,hp⟩|⟨hn2,C⟩
     .simp only[gR]at hp;obtain⟨rfl,rfl,rfl⟩:=hp;have:=(h.lt r b o x I).2;omega
     .exact h.apart r b o x cs1 imm V r' b' o' x' cs2 imm' tip' I hc C hc' U j j' hj M hj' hjl' he
   map:=fun r b o x es hr hc=>by
    rcases Y r _ hr with⟨rfl,hp⟩|⟨U,J⟩
    .rw[Z]at hc;simp at hc
    .obtain⟨ms,clock,h1,h2⟩:=h.map r b o x es J hc;refine⟨ms,clock,?_,h2.mono O⟩;rw[BF _ _ _ (h.lt r b o x J).2];exact h1
   mapApart:=fun r b o x es r' b' o' x' hr hc J hs U=>by
    rcases Y r _ hr with⟨rfl,hp⟩|⟨hn1,I⟩
    .rw[Z]at hc;simp at hc
    .rcases Y r' _ J with⟨rfl,hp⟩|⟨hn2,C⟩
     .simp only[gR]at hp;obtain⟨rfl,rfl,rfl⟩:=hp;have:=(h.lt r b o x I).2;omega
     .exact h.mapApart r b o x es r' b' o' x' I hc C hs U
   frz:=fun b o v hf=>by
    have:=h.frz b o v hf;rw[m _ _ _ (qE this) rfl];exact this
   val:=h.val
   sym:=h.sym}
 .exact BF _ _ _ hk
 .rcases Y r _ hr with⟨rfl,hp⟩|⟨_,J⟩
  .simp only[gR]at hp;obtain⟨rfl,rfl,rfl⟩:=hp;exact .inr (.inl (aB _))
  .exact .inl J
theorem Ka{B:Bs}{nx zlE:Nat}{X:Hp}{w:World}{G:Gh}(h:R B X w G)(hno:∀q,G.β zlE=some q->False)(hlt0:zlE<X.next)(Z:X.get zlE=some (.map []))(hnx:nx<=zlE):
 Step B nx G w X (w.alloc (.map #[] 0)) (G.add zlE (w.heap.size,0,0)):=by
 have O:Ext G (G.add zlE (w.heap.size,0,0)):=Fk hno;have I:∀k b' m,k<w.heap.size->b'=k->(w.alloc (.map #[] 0)).cell? ⟨b',m,none⟩=w.cell? ⟨b',m,none⟩:=fun k b' m hk hb=>World.cell?_alloc_lt _ _ _ (by simpa [hb]using hk);have z:∀r p,(G.add zlE (w.heap.size,0,0)).β r=some p->(r=zlE/\p=(w.heap.size,0,0))\/(r≠zlE/\G.β r=some p):=fun r p hr=>by
  simp only[Gh.add]at hr;split at hr
  .rename_i e;exact .inl ⟨e,by simpa using hr.symm⟩
  .rename_i e;exact .inr ⟨e,hr⟩
 refine⟨?_,O,⟨rfl,rfl,rfl,ax,fun k hk _=>?_⟩,fun r b o x hr=>?_,fun r p hr=>(z r p hr).elim (fun e=>.inr (by rw[e.1];exact hnx)) (fun e=>.inl e.2),ac,fun _ _ _ h=>.inl h⟩
 .exact{
   base:=by have:=h.base;simp;omega
   dom:=fun r p hr=>by
    rcases z r p hr with⟨rfl,_⟩|⟨_,J⟩
    .exact hlt0
    .exact h.dom r p J
   lt:=fun r b o x hr=>by
    rcases z r _ hr with⟨rfl,hp⟩|⟨_,J⟩
    .simp only[gR]at hp;obtain⟨rfl,rfl,rfl⟩:=hp;exact⟨h.base,ax⟩
    .have:=h.lt r b o x J;exact⟨this.1,b9⟩
   cells:=fun r b o x K imm Y hr hc=>by
    rcases z r _ hr with⟨rfl,hp⟩|⟨V,J⟩
    .rw[Z]at hc;simp at hc
    .intro j c hj;obtain⟨v,h1,h2⟩:=h.cells r b o x K imm Y J hc j c hj;exact⟨v,by rw[I _ _ _ (qE h1) rfl];exact h1,h2.mono O⟩
   imm:=fun r b o x K imm Y hr hc j hj M=>by
    rcases z r _ hr with⟨rfl,hp⟩|⟨V,J⟩
    .rw[Z]at hc;simp at hc
    .exact h.imm r b o x K imm Y J hc j hj M
   ext:=fun r b o x K imm Y hr hc=>by
    rcases z r _ hr with⟨rfl,hp⟩|⟨V,J⟩
    .rw[Z]at hc;simp at hc
    .exact h.ext r b o x K imm Y J hc
   fits:=fun r b o x K imm Y hr hc=>by
    rcases z r _ hr with⟨rfl,hp⟩|⟨V,J⟩
    .rw[Z]at hc;simp at hc
    .exact h.fits r b o x K imm Y J hc
   room:=fun r b o x K imm Y hr hc j hj M=>by
    rcases z r _ hr with⟨rfl,hp⟩|⟨V,J⟩
    .rw[Z]at hc;simp at hc
    .obtain⟨⟨v,h1⟩,h2,h3⟩:=h.room r b o x K imm Y J hc j hj M;exact⟨⟨v,by rw[I _ _ _ (qE h1) rfl];exact h1⟩,J7,h3⟩
   apart:=fun r b o x cs1 imm Y r' b' m x' cs2 imm' tip' hr hc J hc' V j j' hj M hj' hjl' he=>by
    rcases z r _ hr with⟨rfl,hp⟩|⟨hn1,C⟩
    .rw[Z]at hc;simp at hc
    .rcases z r' _ J with⟨rfl,hp⟩|⟨hn2,U⟩
     .rw[Z]at hc';simp at hc'
     .exact h.apart r b o x cs1 imm Y r' b' m x' cs2 imm' tip' C hc U hc' V j j' hj M hj' hjl' he
   map:=fun r b o x es hr hc=>by
    rcases z r _ hr with⟨rfl,hp⟩|⟨V,J⟩
    .simp only[gR]at hp;obtain⟨rfl,rfl,rfl⟩:=hp;rw[Z]at hc;simp only[aL,HB.map.injEq]at hc;subst hc;exact⟨#[],0,by show(w.heap.push _)[w.heap.size]?=_;simp,rfl,ax⟩
    .obtain⟨ms,clock,h1,h2⟩:=h.map r b o x es J hc;refine⟨ms,clock,?_,h2.mono O⟩;rw[BF _ _ _ (h.lt r b o x J).2];exact h1
   mapApart:=fun r b o x es r' b' m x' hr hc J hs V=>by
    rcases z r _ hr with⟨rfl,hp⟩|⟨hn1,C⟩
    .simp only[gR]at hp;obtain⟨rfl,rfl,rfl⟩:=hp;rcases z r' _ J with⟨rfl,hp⟩|⟨hn2,U⟩
     .exact(V rfl).elim
     .have:=(h.lt r' b' m x' U).2;omega
    .rcases z r' _ J with⟨rfl,hp⟩|⟨hn2,U⟩
     .simp only[gR]at hp;obtain⟨rfl,rfl,rfl⟩:=hp;have:=(h.lt r b o x C).2;omega
     .exact h.mapApart r b o x es r' b' m x' C hc U hs V
   frz:=fun b o v hf=>by
    have:=h.frz b o v hf;rw[I _ _ _ (qE this) rfl];exact this
   val:=h.val
   sym:=h.sym}
 .exact BF _ _ _ hk
 .rcases z r _ hr with⟨rfl,hp⟩|⟨_,J⟩
  .simp only[gR]at hp;obtain⟨rfl,rfl,rfl⟩:=hp;exact .inr (.inl (aB _))
  .exact .inl J
theorem R.more{B:Bs}{H X:Hp}{w:World}{G:Gh}(h:R B H w G)(m:H.next<=X.next)(j:∀r,r<H.next->X.get r=H.get r):R B X w G:=by
 have k:∀r p,G.β r=some p->X.get r=H.get r:=fun r p hr=>j r (h.dom r p hr);exact{
  base:=h.base
  dom:=fun r p hr=>mB (h.dom r p hr) m
  lt:=h.lt
  cells:=fun r b o x z imm Y hr hc=>h.cells r b o x z imm Y hr mA
  imm:=fun r b o x z imm Y hr hc=>h.imm r b o x z imm Y hr mA
  ext:=fun r b o x z imm Y hr hc=>h.ext r b o x z imm Y hr mA
  fits:=fun r b o x z imm Y hr hc=>h.fits r b o x z imm Y hr mA
  room:=fun r b o x z imm Y hr hc=>h.room r b o x z imm Y hr mA
  apart:=fun r b o x z imm Y C b' V U K Z O hr hc J M=>h.apart r b o x z imm Y C b' V U K Z O hr mA J (by rw[<-k C _ J];exact M)
  map:=fun r b o x I hr hc=>h.map r b o x I hr mA
  mapApart:=fun r b o x I C b' V U hr hc J hs=>h.mapApart r b o x I C b' V U hr mA J (by rw[<-k C _ J];exact hs)
  frz:=h.frz
  val:=h.val
  sym:=h.sym}
theorem R.alloc{B:Bs}{H:Hp}{w:World}{G:Gh}(h:R B H w G)(J:HB):R B (H.alloc J) w G:=
 h.more (dQ _) (fun r hr=>gk)
theorem BL{B:Bs}{H:Hp}{w:World}{G:Gh}(h:R B H w G){cs:List AV}{vs:List Value}(Z:cm G cs vs)(z:List Value)(e:TypeId):
 Step B H.next G w (H.alloc (.cells cs 0 true)) (w.alloc (.cells (vs++z).toArray e)) (G.add H.next (w.heap.size,0,vs.length+z.length)):=
 J9 (h.alloc _) (fun q V=>by have:=h.dom _ _ V;omega) ax gH (aB _) Z z e
theorem Uf{B:Bs}{H:Hp}{w:World}{G:Gh}(h:R B H w G):
 Step B H.next G w (H.alloc (.map [])) (w.alloc (.map #[] 0)) (G.add H.next (w.heap.size,0,0)):=
 Ka (h.alloc _) (fun q V=>by have:=h.dom _ _ V;omega) ax gH (aB _)
inductive Made (G:Gh):HB->Obj->Nat->Prop
 |cells (cs:List AV) (vs spare:List Value) (e:TypeId) (hv:cm G cs vs):Made G (.cells cs 0 true) (.cells (vs++spare).toArray e) (vs.length+spare.length)
 |map:Made G (.map []) (.map #[] 0) 0
theorem Kb{B:Bs}{K zlE:Nat}{X:Hp}{w:World}{G:Gh}{J:HB}{O:Obj}{ext:Nat}(h:R B X w G)(j:∀q,G.β zlE=some q->False)(m:zlE<X.next)(Z:X.get zlE=some J)(o:K<=zlE)(V:Made G J O ext):
 Step B K G w X (w.alloc O) (G.add zlE (w.heap.size,0,ext)):=by
 cases V with
 |cells U vs z e Y=>exact J9 h j m Z o Y z e
 |map=>exact Ka h j m Z o
def qF(P:Program)(G:Gh)(w:World){Z:Type}(s:Sem Z)(f:Value->Z)(c:AV)(H H':Hp):Prop:=
 ∃J O ext v,H'=H.alloc J/\s.run P w=.ok (f v) (w.alloc O)/\Made G J O ext/\∀Y:Gh,Y.β H.next=some (w.heap.size,0,ext)->VR Y c v
theorem qF.sim{P:Program}{B:Bs}{H H':Hp}{w:World}{G:Gh}(h:R B H w G){s:Sem Value}{c:AV}(V:qF P G w s id c H H'):∃v J O,s.run P w=.ok v J/\VR O c v/\Step B H.next G w H' J O:=by
 obtain⟨Y,U,ext,v,rfl,m,j,z⟩:=V;exact⟨v,_,_,m,z _ (sF _ _ _),Kb (h.alloc _) (fun q Z=>by have:=h.dom _ _ Z;omega) ax gH (aB _) j⟩
theorem qF.next{P:Program}{H H':Hp}{w:World}{G:Gh}{s:Sem Value}{c:AV}(V:qF P G w s id c H H'):qF P G w (do pure (.value (<-s)):Sem Next) Next.value c H H':=by
 obtain⟨J,O,ext,v,Z,m,j,z⟩:=V;exact⟨J,O,ext,v,Z,by simp[m],j,z⟩
theorem Ug{b o U Z:Nat}(h:b=U->o≠Z):(⟨b,o,none⟩:Addr)≠⟨U,Z,none⟩:=fun e=>by
 simp only[Addr.mk.injEq]at e;exact h e.1 e.2.1
theorem Uh{B:Bs}{H:Hp}{w:World}{G:Gh}(h:R B H w G){r b o x:Nat}{cs cs':List AV}{imm:Nat}{tip:Bool}(hr:G.β r=some (b,o,x))(hc:H.get r=some (.cells cs imm tip))
 {j:Nat} (hj:imm<=j) (hjl:j<zmJ x cs tip) {v:Value}
 (hcs:∀(i:Nat) c,cs'[i]?=some c->(i=j/\VR G c v)\/(i≠j/\cs[i]?=some c)) (hl:cs'.length<=zmJ x cs tip) (hl':tip=false->cs'.length=cs.length) :
 Step B H.next G w (H.set r (.cells cs' imm tip)) (w.setCell ⟨b,o+j,none⟩ v) G:=by
 obtain⟨⟨u,hu⟩,hfz,hF⟩:=h.room r b o x cs imm tip hr hc j hj hjl;have hsame:(w.setCell ⟨b,o+j,none⟩ v).cell? ⟨b,o+j,none⟩=some v:=World.cell?_setCell_same _ _ _ hu;have C:∀b' o',(b'=b->o'≠o+j)->(w.setCell ⟨b,o+j,none⟩ v).cell? ⟨b',o',none⟩=w.cell? ⟨b',o',none⟩:=fun b' o' hne=>
  World.cell?_setCell_other _ _ _ _ (Ug fun e e'=>hne e.symm e'.symm)
 have hreach:zmJ x cs' tip=zmJ x cs tip:=by
  cases tip with
  |true=>rfl
  |false=>exact hl' rfl
 have Z:∀k,k≠r->(H.set r (.cells cs' imm tip)).get k=H.get k:=fun k hk=>Fc;have I:(H.set r (.cells cs' imm tip)).get r=some (.cells cs' imm tip):=gQ;have hkeep:∀b' o' v',G.F b' o'=some v'->(b'=b->o'≠o+j):=fun b' o' v' hf e e'=>by subst e;subst e';rw[hF]at hf;simp at hf
 have hcell:∀b' o',(∃v',w.cell? ⟨b',o',none⟩=some v')->∃v',(w.setCell ⟨b,o+j,none⟩ v).cell? ⟨b',o',none⟩=some v':=fun b' o' ⟨v',hv'⟩=>by
  by_cases e:b'=b/\o'=o+j
  .obtain⟨rfl,rfl⟩:=e;exact⟨v,hsame⟩
  .exact⟨v',by rw[C b' o' (fun e1 e2=>e ⟨e1,e2⟩)];exact hv'⟩
 refine⟨?_,wO _,⟨rfl,rfl,rfl,ax,fun k hk hn=>?_⟩,vi _ _,fun _ _ h=>.inl h,aB _,fun _ _ _ h=>.inl h⟩
 .exact{
   base:=by have:=h.base;simpa using this
   dom:=h.dom
   lt:=fun r b o x hr=>by have:=h.lt r b o x hr;simpa using this
   cells:=fun M U O z K V Y J m=>by
    by_cases e:M=r
    .subst e;rw[hr]at J;simp only[cZ]at J;obtain⟨rfl,rfl,rfl⟩:=J;rw[I]at m;simp only[aL,HB.cells.injEq]at m;obtain⟨rfl,rfl,rfl⟩:=m;intro i c hi;rcases hcs i c hi with⟨rfl,hv⟩|⟨hne,hi'⟩
     .exact⟨v,hsame,hv⟩
     .obtain⟨v',h1,h2⟩:=h.cells M b o x cs imm tip hr hc i c hi';exact⟨v',by rw[C _ _ (fun _=>ac)];exact h1,h2⟩
    .rw[Z M e]at m;intro i c hi;obtain⟨v',h1,h2⟩:=h.cells M U O z K V Y J m i c hi;refine⟨v',?_,h2⟩;rw[C]
     .exact h1
     .have hil:i<K.length:=(fw.1 hi).1;have hex:=h.ext M U O z K V Y J m;by_cases hi1:V<=i
      .exact h.apart M U O z K V Y r b o x cs imm tip J m hr hc e i j hi1 ac hj hjl
      .obtain⟨u',hu'⟩:=h.imm M U O z K V Y J m i ac hil;exact hkeep _ _ _ hu'
   imm:=fun M U O z K V Y J m i hi hil=>by
    by_cases e:M=r
    .subst e;rw[hr]at J;simp only[cZ]at J;obtain⟨rfl,rfl,rfl⟩:=J;rw[I]at m;simp only[aL,HB.cells.injEq]at m;obtain⟨rfl,rfl,rfl⟩:=m;rcases hcs i _ (aT hil)with⟨rfl,_⟩|⟨_,hi'⟩
     .omega
     .exact h.imm M b o x cs imm tip hr hc i hi (fw.1 hi').1
    .rw[Z M e]at m;exact h.imm M U O z K V Y J m i hi hil
   ext:=fun M U O z K V Y J m=>by
    by_cases e:M=r
    .subst e;rw[hr]at J;simp only[cZ]at J;obtain⟨rfl,rfl,rfl⟩:=J;rw[I]at m;simp only[aL,HB.cells.injEq]at m;obtain⟨rfl,rfl,rfl⟩:=m;rw[hreach];exact hl
    .rw[Z M e]at m;exact h.ext M U O z K V Y J m
   fits:=fun M U O z K V Y J m=>by
    by_cases e:M=r
    .subst e;rw[hr]at J;simp only[cZ]at J;obtain⟨rfl,rfl,rfl⟩:=J;rw[I]at m;simp only[aL,HB.cells.injEq]at m;obtain⟨rfl,rfl,rfl⟩:=m;rcases Bool.eq_false_or_eq_true tip with e1|e1
     .subst e1;exact hl
     .rw[hl' e1];exact h.fits _ _ _ _ _ _ _ hr hc
    .rw[Z M e]at m;exact h.fits M U O z K V Y J m
   room:=fun M U O z K V Y J m i hi hil=>by
    by_cases e:M=r
    .subst e;rw[hr]at J;simp only[cZ]at J;obtain⟨rfl,rfl,rfl⟩:=J;rw[I]at m;simp only[aL,HB.cells.injEq]at m;obtain⟨rfl,rfl,rfl⟩:=m;rw[hreach]at hil;obtain⟨h1,h2,h3⟩:=h.room M b o x cs imm tip hr hc i hi hil;exact⟨hcell _ _ h1,by rw[World.frozen?_setCell];exact h2,h3⟩
    .rw[Z M e]at m;obtain⟨h1,h2,h3⟩:=h.room M U O z K V Y J m i hi hil;exact⟨hcell _ _ h1,by rw[World.frozen?_setCell];exact h2,h3⟩
   apart:=fun M U O z K V Y r2 b2 o2 x2 cs2 imm2 tip2 J m hr2 hc2 hne i i' hi hil hi' hil'=>by
    have key:∀k bk ok xk csk immk tipk,G.β k=some (bk,ok,xk)->(H.set r (.cells cs' imm tip)).get k=some (.cells csk immk tipk) ->
     ∃cs0,H.get k=some (.cells cs0 immk tipk)/\zmJ xk cs0 tipk=zmJ xk csk tipk:=fun k bk ok xk csk immk tipk hk hck=>by
     by_cases e:k=r
     .subst e;rw[hr]at hk;simp only[cZ]at hk;obtain⟨rfl,rfl,rfl⟩:=hk;rw[I]at hck;simp only[aL,HB.cells.injEq]at hck;obtain⟨rfl,rfl,rfl⟩:=hck;exact⟨cs,hc,hreach.symm⟩
     .rw[Z k e]at hck;exact⟨csk,hck,rfl⟩
    obtain⟨c1,g1,e1⟩:=key M U O z K V Y J m;obtain⟨c2,g2,e2⟩:=key r2 b2 o2 x2 cs2 imm2 tip2 hr2 hc2;exact h.apart M U O z c1 V Y r2 b2 o2 x2 c2 imm2 tip2 J g1 hr2 g2 hne i i' hi ac hi' ac
   map:=fun M U O z es J m=>by
    by_cases e:M=r
    .subst e;rw[I]at m;simp at m
    .rw[Z M e]at m;obtain⟨ms,clock,h1,h2⟩:=h.map M U O z es J m;refine⟨ms,clock,?_,h2⟩;have hb:U≠b:=fun eb=>by
      subst eb;unfold World.cell? at hu;rw[h1]at hu;simp at hu
     rw[Below.heap_setCell _ _ _ _ hb];exact h1
   mapApart:=fun M U O z es r2 b2 o2 x2 J m hr2 hs hne=>by
    by_cases e:M=r
    .subst e;rw[I]at m;simp at m
    .rw[Z M e]at m;refine h.mapApart M U O z es r2 b2 o2 x2 J m hr2 ?_ hne;by_cases e2:r2=r
     .subst e2;rw[hc];rfl
     .rw[Z r2 e2]at hs;exact hs
   frz:=fun b' o' v' hf=>by rw[C _ _ (hkeep _ _ _ hf)];exact h.frz _ _ _ hf
   val:=h.val
   sym:=h.sym}
 .exact Below.heap_setCell _ _ _ _ (fun e=>hn r b o x hr e.symm)
theorem Ui{B:Bs}{H:Hp}{w:World}{G:Gh}(P:Program)(h:R B H w G){r b o x:Nat}{cs:List AV}{imm:Nat}{tip:Bool}(hr:G.β r=some (b,o,x))(z:H.get r=some (.cells cs imm tip))
 {j:Nat} (Y:imm<=j) (M:j<zmJ x cs tip) {v:Value} (U:v.oneCell'=true) :
 (store ⟨b,o+j,none⟩ v).run P w=.ok () (w.setCell ⟨b,o+j,none⟩ v):=by
 obtain⟨⟨u,J⟩,Z,_⟩:=h.room r b o x cs imm tip hr z j Y M;rw[run_store P w _ v _ U,J];simp[Z]
theorem Uj(cs:List AV)(off:Nat)(c:AV)(V:List AV)(h:off<=cs.length):splice cs off (c::V)=splice (splice cs off [c]) (off+1) V:=by
 unfold splice;have m:(List.take off cs++[c]++List.drop (off+[c].length) cs).take (off+1)=List.take off cs++[c]:=by
  rw[BG b9,gl b9]
 have j:(List.take off cs++[c]++List.drop (off+[c].length) cs).drop (off+1+V.length)=List.drop (off+(V.length+1)) cs:=by
  rw[List.drop_append,BH b9];simp only[fj,j6,mU,Fh,ly]
  congr 1
  omega
 rw[m,j];simp
theorem Uk(cs:List AV)(off:Nat):splice cs off []=cs:=by simp[splice]
theorem Ul(cs:List AV)(off:Nat)(V:List AV)(h:off+V.length<=cs.length):(splice cs off V).length=cs.length:=by simp[splice];omega
theorem Um(cs:List AV)(off:Nat)(V:List AV)(h:off<=cs.length):(splice cs off V).length=max cs.length (off+V.length):=by simp[splice];omega
theorem Kc(cs V:List AV):splice cs cs.length V=cs++V:=by simp[splice]
theorem splice_one{cs:List AV}{j:Nat}(c:AV)(o:j<=cs.length){i:Nat}{d:AV}(h:(splice cs j [c])[i]?=some d):(i=j/\d=c)\/(i≠j/\cs[i]?=some d):=by
 unfold splice at h;by_cases I:i<j
 .rw[i8,jG b9,rD,am I]at h;exact .inr ⟨ac,h⟩
 .by_cases e:i=j
  .subst e;rw[i8,nK b9]at h;have z:i-(List.take i cs).length=0:=b9;rw[z]at h;simp at h;exact .inl ⟨rfl,h.symm⟩
  .rw[nK b9]at h;rw[tX]at h;refine .inr ⟨e,?_⟩;rw[<-h]
   congr 1
   simp;omega
theorem oF(b o i:Nat):(⟨b,o,none⟩:Addr).add i=⟨b,o+i,none⟩:=by
 unfold Addr.add;split
 .rename_i e;subst e;rfl
 .rfl
theorem Step.congr{B:Bs}{K:Nat}{G O:Gh}{w w':World}{H H':Hp}(h:Step B K G w H w' O)(J:H'.next=H.next)(Z:∀r,(O.β r).isSome->H'.get r=H.get r):Step B K G w H' w' O:=
 ⟨h.r.congr J Z,h.ext,h.fr,h.new,h.low,by rw[J];exact h.mono,h.icy⟩
theorem Fl{B:Bs}(P:Program){G:Gh}{r b o x:Nat}{imm:Nat}{tip:Bool}(hr:G.β r=some (b,o,x))(off:Nat):∀(V:List AV) (vs:List Value) (z:List AV) (i:Nat) (H:Hp) (w:World),R B H w G ->
 H.get r=some (.cells z imm tip)->cm G V vs->(∀v∈vs,v.oneCell'=true)->imm<=off+i->off+i<=z.length->off+i+V.length<=zmJ x z tip->(tip=false->off+i+V.length<=z.length) ->
 ∃w',(storeCells ⟨b,o+off,none⟩ vs i).run P w=.ok () w'/\Step B H.next G w (H.set r (.cells (splice z (off+i) V) imm tip)) w' G:=by
 intro V;induction V with
 |nil=>
  intro vs z i H w M hc hv Z hi U J _;have Y:vs=[]:=by have:=hv.1;simpa using this.symm
  subst Y;refine⟨w,rfl,(mC M).congr rfl fun k _=>?_⟩;rw[aJ,Uk];split
  .rename_i e;subst e;rw[hc]
  .rfl
 |cons c V ih=>
  intro vs z i H w M hc hv Z hi U J I;cases vs with
  |nil=>have:=hv.1;simp at this
  |cons v vs=>
   obtain⟨hv1,Y⟩:=hv.of_cons;simp only[eK]at J I;have C:(splice z (off+i) [c]).length=max z.length (off+i+1):=Um _ _ _ U;have hext:=M.ext r b o x z imm tip hr hc;have K:=Uh M hr hc (j:=off+i) (cs':=splice z (off+i) [c]) (v:=v) hi ac
    (fun k d hk=>by
      rcases splice_one c U hk with⟨e1,e2⟩|h2
      .subst e2;exact .inl ⟨e1,hv1⟩
      .exact .inr h2)
    (by rw[C];cases tip with
        |true=>simp only[zmJ]at *;omega
        |false=>have:=I rfl;simp only[zmJ]at *;omega)
    (fun ht=>by have:=I ht;rw[C];omega)
   have m:=Ui P M hr hc (j:=off+i) hi ac (v:=v) (Z v ax);have hg1:(H.set r (.cells (splice z (off+i) [c]) imm tip)).get r=some (.cells (splice z (off+i) [c]) imm tip):=gQ;have O:zmJ x (splice z (off+i) [c]) tip=zmJ x z tip:=by
    cases tip with
    |true=>rfl
    |false=>have:=I rfl;simp only[zmJ];omega
   obtain⟨w',hw',hs'⟩:=ih vs (splice z (off+i) [c]) (i+1) _ _ K.r hg1 Y (fun u hu=>Z u (by simp[hu])) ac (by rw[C];omega) (by rw[O];omega) (fun ht=>by have:=I ht;rw[C];omega);refine⟨w',?_,(K.trans hs').congr rfl fun k _=>?_⟩
   .simp only[storeCells,fA];rw[oF,iE,m];exact hw'
   .rw[aJ,aJ,aJ,Uj _ _ _ _ U];split
    .rfl
    .rfl
theorem Kd{B:Bs}{H:Hp}{w:World}{G:Gh}(h:R B H w G){r b o x:Nat}{cs:List AV}{imm:Nat}(hr:G.β r=some (b,o,x))(hc:H.get r=some (.cells cs imm true)){off:Nat}(hoff:off<=cs.length):
 Step B H.next G w ((H.kill r).alloc (.cells (cs.drop off) (imm-off) true)) w (G.add H.next (b,o+off,x-off)):=by
 have hno:∀q,G.β H.next=some q->False:=fun q hq=>by have:=h.dom _ _ hq;omega
 have hext:Ext G (G.add H.next (b,o+off,x-off)):=Fk hno;have hrn:r≠H.next:=fun e=>by subst e;exact hno _ hr
 have V:∀k p,(G.add H.next (b,o+off,x-off)).β k=some p->(k=H.next/\p=(b,o+off,x-off))\/(k≠H.next/\G.β k=some p):=fun k p M=>by
  simp only[Gh.add]at M;split at M
  .rename_i e;exact .inl ⟨e,by simpa using M.symm⟩
  .rename_i e;exact .inr ⟨e,M⟩
 have Y:∀k q,k≠H.next->((H.kill r).alloc (.cells (cs.drop off) (imm-off) true)).get k=some q->k≠r/\H.get k=some q:=fun k q M hq=>by
  rw[zkZ,zn0,af M,znf]at hq;split at hq
  .simp at hq
  .rename_i e;exact⟨e,hq⟩
 have Z:((H.kill r).alloc (.cells (cs.drop off) (imm-off) true)).get H.next=some (.cells (cs.drop off) (imm-off) true):=by rw[zkZ,zn0,am rfl]
 have hlen:=h.ext r b o x cs imm true hr hc;simp only[zmJ]at hlen;refine⟨?_,hext,yN _ _,fun k b' o' x' M=>?_,fun k p M=>(V k p M).elim (fun e=>.inr (by rw[e.1];exact aB _)) (fun e=>.inl e.2),ax,fun _ _ _ h=>.inl h⟩
 .exact{
   base:=h.base
   dom:=fun k p M=>by
    rcases V k p M with⟨rfl,_⟩|⟨_,J⟩
    .simp
    .have:=h.dom k p J;simp;omega
   lt:=fun k b' o' x' M=>by
    rcases V k _ M with⟨rfl,hp⟩|⟨_,J⟩
    .simp only[gR]at hp;obtain⟨rfl,rfl,rfl⟩:=hp;exact h.lt r _ _ _ hr
    .exact h.lt k b' o' x' J
   cells:=fun k b' o' x' I U O M C=>by
    rcases V k _ M with⟨rfl,hp⟩|⟨z,J⟩
    .simp only[gR]at hp;obtain⟨rfl,rfl,rfl⟩:=hp;rw[Z]at C;simp only[aL,HB.cells.injEq]at C;obtain⟨rfl,rfl,rfl⟩:=C;intro j c hj;rw[tX]at hj;obtain⟨v,h1,h2⟩:=h.cells r _ _ _ _ _ _ hr hc (off+j) c hj;exact⟨v,by rw[iE];exact h1,h2.mono hext⟩
    .obtain⟨_,K⟩:=Y k _ z C;exact(h.cells k b' o' x' I U O J K).mono hext
   imm:=fun k b' o' x' I U O M C j hj hjl=>by
    rcases V k _ M with⟨rfl,hp⟩|⟨z,J⟩
    .simp only[gR]at hp;obtain⟨rfl,rfl,rfl⟩:=hp;rw[Z]at C;simp only[aL,HB.cells.injEq]at C;obtain⟨rfl,rfl,rfl⟩:=C;rw[lA]at hjl;rw[iE];exact h.imm r _ _ _ _ _ _ hr hc (off+j) ac ac
    .obtain⟨_,K⟩:=Y k _ z C;exact h.imm k b' o' x' I U O J K j hj hjl
   ext:=fun k b' o' x' I U O M C=>by
    rcases V k _ M with⟨rfl,hp⟩|⟨z,J⟩
    .simp only[gR]at hp;obtain⟨rfl,rfl,rfl⟩:=hp;rw[Z]at C;simp only[aL,HB.cells.injEq]at C;obtain⟨rfl,rfl,rfl⟩:=C;simp only[zmJ,lA];omega
    .obtain⟨_,K⟩:=Y k _ z C;exact h.ext k b' o' x' I U O J K
   fits:=fun k b' o' x' I U O M C=>by
    rcases V k _ M with⟨rfl,hp⟩|⟨z,J⟩
    .simp only[gR]at hp;obtain⟨rfl,rfl,rfl⟩:=hp;rw[Z]at C;simp only[aL,HB.cells.injEq]at C;obtain⟨rfl,rfl,rfl⟩:=C;simp only[lA];omega
    .obtain⟨_,K⟩:=Y k _ z C;exact h.fits k b' o' x' I U O J K
   room:=fun k b' o' x' I U O M C j hj hjl=>by
    rcases V k _ M with⟨rfl,hp⟩|⟨z,J⟩
    .simp only[gR]at hp;obtain⟨rfl,rfl,rfl⟩:=hp;rw[Z]at C;simp only[aL,HB.cells.injEq]at C;obtain⟨rfl,rfl,rfl⟩:=C;simp only[zmJ]at hjl;rw[iE];exact h.room r _ _ _ _ _ _ hr hc (off+j) ac yJ
    .obtain⟨_,K⟩:=Y k _ z C;exact h.room k b' o' x' I U O J K j hj hjl
   apart:=fun k1 b1 o1 x1 cs1 imm1 tip1 k2 b2 o2 x2 cs2 imm2 tip2 hk1 m hk2 hc2 z j1 j2 hj1 hl1 hj2 hl2 he=>by
    rcases V k1 _ hk1 with⟨rfl,hp⟩|⟨hn1,hk1'⟩
    .simp only[gR]at hp;obtain⟨rfl,rfl,rfl⟩:=hp;rw[Z]at m;simp only[aL,HB.cells.injEq]at m;obtain⟨rfl,rfl,rfl⟩:=m;simp only[zmJ]at hl1;rcases V k2 _ hk2 with⟨rfl,hp⟩|⟨hn2,hk2'⟩
     .exact(z rfl).elim
     .obtain⟨hr2,hc2'⟩:=Y k2 _ hn2 hc2;rw[iE];exact h.apart r _ _ _ _ _ _ k2 b2 o2 x2 cs2 imm2 tip2 hr hc hk2' hc2' (Ne.symm hr2) (off+j1) j2 ac yJ hj2 hl2 he
    .obtain⟨hr1,hc1'⟩:=Y k1 _ hn1 m;rcases V k2 _ hk2 with⟨rfl,hp⟩|⟨hn2,hk2'⟩
     .simp only[gR]at hp;obtain⟨rfl,rfl,rfl⟩:=hp;rw[Z]at hc2;simp only[aL,HB.cells.injEq]at hc2;obtain⟨rfl,rfl,rfl⟩:=hc2;simp only[zmJ]at hl2;rw[iE];exact h.apart k1 b1 o1 x1 cs1 imm1 tip1 r _ _ _ _ _ _ hk1' hc1' hr hc hr1 j1 (off+j2) hj1 hl1 ac yJ he
     .obtain⟨hr2,hc2'⟩:=Y k2 _ hn2 hc2;exact h.apart k1 b1 o1 x1 cs1 imm1 tip1 k2 b2 o2 x2 cs2 imm2 tip2 hk1' hc1' hk2' hc2' z j1 j2 hj1 hl1 hj2 hl2 he
   map:=fun k b' o' x' es M C=>by
    rcases V k _ M with⟨rfl,hp⟩|⟨z,J⟩
    .rw[Z]at C;simp at C
    .obtain⟨_,K⟩:=Y k _ z C;obtain⟨ms,clock,h1,h2⟩:=h.map k b' o' x' es J K;exact⟨ms,clock,h1,h2.mono hext⟩
   mapApart:=fun k1 b1 o1 x1 es k2 b2 o2 x2 hk1 m hk2 hs z=>by
    rcases V k1 _ hk1 with⟨rfl,hp⟩|⟨hn1,hk1'⟩
    .rw[Z]at m;simp at m
    .obtain⟨hr1,hc1'⟩:=Y k1 _ hn1 m;rcases V k2 _ hk2 with⟨rfl,hp⟩|⟨hn2,hk2'⟩
     .simp only[gR]at hp;obtain⟨rfl,rfl,rfl⟩:=hp;exact h.mapApart k1 b1 o1 x1 es r _ _ _ hk1' hc1' hr (by rw[hc];rfl) hr1
     .cases hh:((H.kill r).alloc (.cells (cs.drop off) (imm-off) true)).get k2 with
      |none=>simp[hh]at hs
      |some q=>
       obtain⟨_,hq⟩:=Y k2 q hn2 hh;exact h.mapApart k1 b1 o1 x1 es k2 b2 o2 x2 hk1' hc1' hk2' (by rw[hq];rfl) z
   frz:=h.frz
   val:=h.val
   sym:=h.sym}
 .rcases V k _ M with⟨rfl,hp⟩|⟨_,J⟩
  .simp only[gR]at hp;obtain⟨rfl,rfl,rfl⟩:=hp;exact .inr (.inr ⟨r,o,x,hr⟩)
  .exact .inl J
def Gh.ice(G:Gh)(w:World)(b o n:Nat):Gh:={β:=G.β,F:=fun b' Z=>match G.F b' Z with
 |some v=>some v
 |none=>if b'=b/\o<=Z/\Z<o+n then w.cell? ⟨b',Z,none⟩else none,ρ:=G.ρ}
theorem Uo(G:Gh)(w:World)(b o n:Nat):Ext G (G.ice w b o n):=⟨fun _ _ h=>h,fun b' Z v h=>by simp[Gh.ice,h],rfl⟩
theorem yQ{B:Bs}{H:Hp}{w:World}{G:Gh}(h:R B H w G){r b o x:Nat}{cs:List AV}{imm:Nat}{tip:Bool}(hr:G.β r=some (b,o,x))(hc:H.get r=some (.cells cs imm tip)){n:Nat}(himm:imm<=n)(hn:n<=cs.length)(O:Bool)(ht:O=true->tip=true):
 Step B H.next G w (H.set r (.cells cs n O)) w (G.ice w b o n):=by
 have hext:Ext G (G.ice w b o n):=Uo _ _ _ _ _;have V:∀k,k≠r->(H.set r (.cells cs n O)).get k=H.get k:=fun k U=>by rw[aJ,af U]
 have I:(H.set r (.cells cs n O)).get r=some (.cells cs n O):=gQ;have hex:=h.ext r b o x cs imm tip hr hc;have hreach:∀j,n<=j->j<zmJ x cs O->j<zmJ x cs tip:=fun j hj M=>by
  cases O with
  |true=>rw[ht rfl];exact M
  |false=>simp only[zmJ]at M;omega
 have hF:∀b' Z v,(G.ice w b o n).F b' Z=some v->w.cell? ⟨b',Z,none⟩=some v:=fun b' Z v hf=>by
  simp only[Gh.ice]at hf;split at hf
  .rename_i u hu;simp only[aL]at hf;subst hf;exact h.frz _ _ _ hu
  .split at hf
   .exact hf
   .simp at hf
 have hFin:∀j,j<n->∃v,(G.ice w b o n).F b (o+j)=some v:=fun j hj=>by
  obtain⟨v,h1,_⟩:=h.cells r b o x cs imm tip hr hc j _ (aT ac);simp only[Gh.ice];split
  .rename_i u _;exact⟨u,rfl⟩
  .rw[am ⟨by trivial,ac,ac⟩];exact⟨v,h1⟩
 have hFout:∀b' Z,G.F b' Z=none->(b'=b->Z<o\/o+n<=Z)->(G.ice w b o n).F b' Z=none:=fun b' Z hf hne=>by
  simp only[Gh.ice,hf];rw[af];rintro⟨e1,e2,e3⟩;have:=hne e1;omega
 refine⟨?_,hext,yN _ _,vi _ _,fun _ _ h=>.inl h,aB _,fun b' Z v' hv=>?_⟩;rotate_left
 .simp only[Gh.ice]at hv;split at hv
  .rename_i v'' hF';exact .inl (by rw[hF'];exact hv)
  .split at hv
   .rename_i hc';exact .inr (by rw[hc'.1];exact(h.lt r b o x hr).1)
   .simp at hv
 exact{
  base:=h.base
  dom:=h.dom
  lt:=h.lt
  cells:=fun k b' Z m K z Y U C=>by
   by_cases e:k=r
   .subst e;have J:G.β k=some (b',Z,m):=U;rw[hr]at J;simp only[cZ]at J;obtain⟨rfl,rfl,rfl⟩:=J;rw[I]at C;simp only[aL,HB.cells.injEq]at C;obtain⟨rfl,rfl,rfl⟩:=C;exact(h.cells k _ _ _ _ _ _ hr hc).mono hext
   .rw[V k e]at C;exact(h.cells k b' Z m K z Y U C).mono hext
  imm:=fun k b' Z m K z Y U C j hj M=>by
   by_cases e:k=r
   .subst e;have J:G.β k=some (b',Z,m):=U;rw[hr]at J;simp only[cZ]at J;obtain⟨rfl,rfl,rfl⟩:=J;rw[I]at C;simp only[aL,HB.cells.injEq]at C;obtain⟨rfl,rfl,rfl⟩:=C;exact hFin j hj
   .rw[V k e]at C;obtain⟨v,hv⟩:=h.imm k b' Z m K z Y U C j hj M;exact⟨v,hext.F _ _ _ hv⟩
  ext:=fun k b' Z m K z Y U C=>by
   by_cases e:k=r
   .subst e;have J:G.β k=some (b',Z,m):=U;rw[hr]at J;simp only[cZ]at J;obtain⟨rfl,rfl,rfl⟩:=J;rw[I]at C;simp only[aL,HB.cells.injEq]at C;obtain⟨rfl,rfl,rfl⟩:=C;cases O with
    |true=>rw[ht rfl]at hex;exact hex
    |false=>exact aB _
   .rw[V k e]at C;exact h.ext k b' Z m K z Y U C
  fits:=fun k b' Z m K z Y U C=>by
   by_cases e:k=r
   .subst e;have J:G.β k=some (b',Z,m):=U;rw[hr]at J;simp only[cZ]at J;obtain⟨rfl,rfl,rfl⟩:=J;rw[I]at C;simp only[aL,HB.cells.injEq]at C;obtain⟨rfl,rfl,rfl⟩:=C;exact h.fits _ _ _ _ _ _ _ hr hc
   .rw[V k e]at C;exact h.fits k b' Z m K z Y U C
  room:=fun k b' Z m K z Y U C j hj M=>by
   by_cases e:k=r
   .subst e;have J:G.β k=some (b',Z,m):=U;rw[hr]at J;simp only[cZ]at J;obtain⟨rfl,rfl,rfl⟩:=J;rw[I]at C;simp only[aL,HB.cells.injEq]at C;obtain⟨rfl,rfl,rfl⟩:=C;have h1:=hreach j hj M;obtain⟨g1,g2,g3⟩:=h.room k _ _ _ _ _ _ hr hc j ac h1;exact⟨g1,g2,hFout _ _ g3 (fun _=>ac)⟩
   .rw[V k e]at C;obtain⟨g1,g2,g3⟩:=h.room k b' Z m K z Y U C j hj M;refine⟨g1,g2,hFout _ _ g3 (fun eb=>?_)⟩;by_cases hin:o<=Z+j/\Z+j<o+n
    .exfalso;have hj0:Z+j-o<cs.length:=ac;have hj1:Z+j-o<zmJ x cs tip:=ac;by_cases hi:imm<=Z+j-o
     .exact h.apart k b' Z m K z Y r b o x cs imm tip U C hr hc e j (Z+j-o) hj M hi hj1 eb ac
     .obtain⟨v,hv⟩:=h.imm r b o x cs imm tip hr hc (Z+j-o) ac hj0;rw[show o+(Z+j-o)=Z+j by omega,<-eb,g3]at hv;simp at hv
    .omega
  apart:=fun k1 b1 o1 x1 cs1 imm1 Y k2 b2 o2 x2 cs2 imm2 tip2 hk1 hc1 hk2 hc2 hne j1 j2 hj1 hl1 hj2 hl2 he=>by
   have key:∀k bk ok xk csk immk tipk j,G.β k=some (bk,ok,xk)->(H.set r (.cells cs n O)).get k=some (.cells csk immk tipk)->immk<=j->j<zmJ xk csk tipk ->
    ∃cs0 imm0 tip0,H.get k=some (.cells cs0 imm0 tip0)/\imm0<=j/\j<zmJ xk cs0 tip0:=fun k bk ok xk csk immk tipk j U C hj M=>by
    by_cases e:k=r
    .subst e;have J:G.β k=some (bk,ok,xk):=U;rw[hr]at J;simp only[cZ]at J;obtain⟨rfl,rfl,rfl⟩:=J;rw[I]at C;simp only[aL,HB.cells.injEq]at C;obtain⟨rfl,rfl,rfl⟩:=C;exact⟨cs,imm,tip,hc,ac,hreach j hj M⟩
    .rw[V k e]at C;exact⟨csk,immk,tipk,C,hj,M⟩
   obtain⟨c1,i1,t1,g1,a1,l1⟩:=key k1 b1 o1 x1 cs1 imm1 Y j1 hk1 hc1 hj1 hl1;obtain⟨c2,i2,t2,g2,a2,l2⟩:=key k2 b2 o2 x2 cs2 imm2 tip2 j2 hk2 hc2 hj2 hl2;exact h.apart k1 b1 o1 x1 c1 i1 t1 k2 b2 o2 x2 c2 i2 t2 hk1 g1 hk2 g2 hne j1 j2 a1 l1 a2 l2 he
  map:=fun k b' Z m es U C=>by
   by_cases e:k=r
   .subst e;rw[I]at C;simp at C
   .rw[V k e]at C;obtain⟨ms,clock,h1,h2⟩:=h.map k b' Z m es U C;exact⟨ms,clock,h1,h2.mono hext⟩
  mapApart:=fun k1 b1 o1 x1 es k2 b2 o2 x2 hk1 hc1 hk2 hs hne=>by
   by_cases e:k1=r
   .subst e;rw[I]at hc1;simp at hc1
   .rw[V k1 e]at hc1;refine h.mapApart k1 b1 o1 x1 es k2 b2 o2 x2 hk1 hc1 hk2 ?_ hne;by_cases e2:k2=r
    .subst e2;rw[hc];rfl
    .rw[V k2 e2]at hs;exact hs
  frz:=hF
  val:=h.val
  sym:=h.sym}
theorem Up{B:Bs}{H:Hp}{w:World}{G:Gh}(h:R B H w G){r b o x:Nat}{cs:List AV}(hr:G.β r=some (b,o,x))(hx:cs.length<=x)(hc:jI G w b o cs)(hF:∀j,j<cs.length->∃v,G.F b (o+j)=some v)
 (hmap:∀r1 b1 o1 x1 es,G.β r1=some (b1,o1,x1)->H.get r1=some (.map es)->b1≠b) :
 Step B H.next G w (H.set r (.cells cs cs.length false)) w G:=by
 have Z:∀k,k≠r->(H.set r (.cells cs cs.length false)).get k=H.get k:=fun k Y=>BE;have I:(H.set r (.cells cs cs.length false)).get r=some (.cells cs cs.length false):=gQ;have hβ:∀k b' V U,k=r->G.β k=some (b',V,U)->b'=b/\V=o/\U=x:=fun k b' V U e Y=>by
  subst e;rw[hr]at Y;simp only[cZ]at Y;exact⟨Y.1.symm,Y.2.1.symm,Y.2.2.symm⟩
 have M:∀K z O,(H.set r (.cells cs cs.length false)).get r=some (.cells K z O)->K=cs/\z=cs.length/\O=false:=fun K z O Y=>by
  rw[I]at Y;simp only[aL,HB.cells.injEq]at Y;exact⟨Y.1.symm,Y.2.1.symm,Y.2.2.symm⟩
 refine⟨?_,wO _,yN _ _,vi _ _,fun _ _ h=>.inl h,aB _,fun _ _ _ h=>.inl h⟩;exact{
  base:=h.base
  dom:=h.dom
  lt:=h.lt
  cells:=fun k b' V U K z O Y C=>by
   by_cases e:k=r
   .obtain⟨rfl,rfl,rfl⟩:=hβ k _ _ _ e Y;subst e;obtain⟨rfl,rfl,rfl⟩:=M _ _ _ C;exact hc
   .rw[Z k e]at C;exact h.cells k b' V U K z O Y C
  imm:=fun k b' V U K z O Y C j hj J=>by
   by_cases e:k=r
   .obtain⟨rfl,rfl,rfl⟩:=hβ k _ _ _ e Y;subst e;obtain⟨rfl,rfl,rfl⟩:=M _ _ _ C;exact hF j J
   .rw[Z k e]at C;exact h.imm k b' V U K z O Y C j hj J
  ext:=fun k b' V U K z O Y C=>by
   by_cases e:k=r
   .subst e;obtain⟨rfl,rfl,rfl⟩:=M _ _ _ C;exact aB _
   .rw[Z k e]at C;exact h.ext k b' V U K z O Y C
  fits:=fun k b' V U K z O Y C=>by
   by_cases e:k=r
   .subst e;obtain⟨rfl,rfl,rfl⟩:=M _ _ _ C;obtain⟨_,_,rfl⟩:=hβ _ _ _ _ rfl Y;exact hx
   .rw[Z k e]at C;exact h.fits k b' V U K z O Y C
  room:=fun k b' V U K z O Y C j hj J=>by
   by_cases e:k=r
   .subst e;obtain⟨rfl,rfl,rfl⟩:=M _ _ _ C;simp only[zmJ]at J;omega
   .rw[Z k e]at C;exact h.room k b' V U K z O Y C j hj J
  apart:=fun k1 b1 o1 x1 cs1 imm1 tip1 k2 b2 o2 x2 cs2 imm2 tip2 hk1 m hk2 hc2 hne j1 j2 hj1 hl1 hj2 hl2 he=>by
   by_cases e1:k1=r
   .subst e1;obtain⟨rfl,rfl,rfl⟩:=M _ _ _ m;simp only[zmJ]at hl1;omega
   .by_cases e2:k2=r
    .subst e2;obtain⟨rfl,rfl,rfl⟩:=M _ _ _ hc2;simp only[zmJ]at hl2;omega
    .rw[Z k1 e1]at m;rw[Z k2 e2]at hc2;exact h.apart k1 b1 o1 x1 cs1 imm1 tip1 k2 b2 o2 x2 cs2 imm2 tip2 hk1 m hk2 hc2 hne j1 j2 hj1 hl1 hj2 hl2 he
  map:=fun k b' V U es Y C=>by
   by_cases e:k=r
   .subst e;rw[I]at C;simp at C
   .rw[Z k e]at C;exact h.map k b' V U es Y C
  mapApart:=fun k1 b1 o1 x1 es k2 b2 o2 x2 hk1 m hk2 hs hne=>by
   by_cases e:k1=r
   .subst e;rw[I]at m;simp at m
   .rw[Z k1 e]at m;by_cases e2:k2=r
    .obtain⟨rfl,rfl,rfl⟩:=hβ k2 _ _ _ e2 hk2;exact hmap k1 b1 o1 x1 es hk1 m
    .rw[Z k2 e2]at hs;exact h.mapApart k1 b1 o1 x1 es k2 b2 o2 x2 hk1 m hk2 hs hne
  frz:=h.frz
  val:=h.val
  sym:=h.sym}
def vk(P:Program)(B:Bs)(H:Hp)(G:Gh)(w:World)(s:Sem Next)(c:AV)(H':Hp):Prop:=
 ∃n J O v,s.run P w=.ok n J/\(n=.value v\/(n=.skip/\v=undef))/\VR O c v/\Step B H.next G w H' J O
theorem Ke{G:Gh}{v:Value}{c:AV}(h:yq v=some c):VR G c v:=by
 unfold yq at h;split at h<;>simp only[aL,reduceCtorEq]at h<;>subst h<;>constructor;rfl
theorem Kf{G:Gh}:∀{vs:List Value}{z:List AV},vs.mapM yq=some z->cm G z vs
 |[],z,h=>by simp at h;subst h;exact qD G
 |v::vs,z,h=>by
  rw[List.mapM_cons]at h;simp only[Option.bind_eq_bind,jl,Option.pure_def,aL]at h;obtain⟨c,hc,K,Y,rfl⟩:=h;exact mV (Ke hc) (Kf Y)
theorem wQ{G:Gh}{v:Value}{c:AV}(h:wF v=some c):VR G c v:=by
 unfold wF at h;split at h
 .rename_i z;simp only[sA]at h;obtain⟨l,M,rfl⟩:=h;have:=Kf (G:=G) M;exact .agg (vs:=z.toList) this.1 this.2
 .exact Ke h
theorem jI.list{G:Gh}{w:World}{b:Nat}:∀{cs:List AV}{o:Nat},jI G w b o cs->∃vs,cm G cs vs/\∀(j:Nat) v,vs[j]?=some v->w.cell? ⟨b,o+j,none⟩=some v
 |[],o,_=>⟨[],qD G,ax⟩
 |c::cs,o,h=>by
  obtain⟨v,m,Y⟩:=h 0 c rfl;obtain⟨vs,k1,V⟩:=jI.list (cs:=cs) (o:=o+1) (fun j d Z=>by
   obtain⟨u,U,I⟩:=h (j+1) d su;exact⟨u,by rw[show o+1+j=o+(j+1) by omega];exact U,I⟩)
  refine⟨v::vs,mV Y k1,fun j u Z=>?_⟩;cases j with
  |zero=>simp at Z;subst Z;exact m
  |succ j=>rw[show o+(j+1)=o+1+j by omega];exact V j u su
theorem jI.drop{G:Gh}{w:World}{b o:Nat}{cs:List AV}(h:jI G w b o cs)(n:Nat):jI G w b (o+n) (cs.drop n):=fun j c Z=>by
 rw[tX]at Z;rw[iE];exact h (n+j) c Z
theorem jI.take{G:Gh}{w:World}{b o:Nat}{cs:List AV}(h:jI G w b o cs)(n:Nat):jI G w b o (cs.take n):=fun j c Z=>by
 rw[rD]at Z;split at Z
 .exact h j c Z
 .simp at Z
section
variable {P:Program} {w:World} {t:TypeId}
theorem zmA{d:TypeDesc}(h:P.underlying t=some d):(underlying t).run P w=.ok d w:=by simp[underlying,h]
theorem wR{i:TypeInfo}(h:P.info? t=some i):(typeInfo t).run P w=.ok i w:=by simp[typeInfo,h]
theorem Kg{s:Nat}(h:zlq P t=some s):∃i,P.info? t=some i/\i.size=s:=by simpa [zlq,sA]using h
theorem jU{s:Nat}(h:zlq P t=some s):(sizeOf t).run P w=.ok s w:=by
 obtain⟨i,m,j⟩:=Kg h;simp[sizeOf,wR m,j]
theorem Kh{c:AV}(h:sq P t=some c):∃i v,P.info? t=some i/\i.zero=some v/\wF v=some c:=by
 unfold sq at h;split at h
 .rename_i x d s Z z hp al fa m C ms o;exact⟨_,m,o,rfl,h⟩
 .simp at h
theorem Uq{c:AV}(h:sq P t=some c):∃v,(∀w,(zeroValue t).run P w=.ok v w)/\∀G,VR G c v:=by
 obtain⟨i,v,m,j,z⟩:=Kh h;exact⟨v,fun w=>by simp[zeroValue,wR m,j],fun G=>wQ z⟩
theorem Fm{z:List AV}(h:zlV P t=some z):∃i v c,P.info? t=some i/\i.zero=some v/\wF v=some c/\c.cells=z:=by
 unfold zlV at h;split at h
 .rename_i c hc;simp only[aL]at h;obtain⟨i,v,m,j,Z⟩:=Kh hc;exact⟨i,v,c,m,j,Z,h⟩
 .simp at h
theorem yR{z:List AV}(h:zlV P t=some z):∃v,(∀w,(zeroValue t).run P w=.ok v w)/\∀G,cm G z v.cells.toList:=by
 obtain⟨i,v,c,m,j,Z,rfl⟩:=Fm h;exact⟨v,fun w=>by simp[zeroValue,wR m,j],fun G=>(wQ Z).cells⟩
def Fo:TypeDesc->Bool
 | .struct _|.array _ _=>true
 |_=>false
theorem BM{d:TypeDesc}(h:P.underlying t=some d):(isAgg t).run P w=.ok (Fo d) w:=by
 simp only[isAgg,fA,zmA h,fF];cases d<;>rfl
theorem Ki{cs:List AV}{off:Nat}{c:AV}(h:zlh P t cs off=some c):
 (∃d s,P.underlying t=some d/\Fo d=true/\zlq P t=some s/\((cs.drop off).take s).length=s/\c=.agg ((cs.drop off).take s)) \/
 (∃d,P.underlying t=some d/\Fo d=false/\cs[off]?=some c):=by
 unfold zlh at h;split at h
 .rename_i f hd;split at h
  .rename_i s U;simp only[]at h;split at h
   .rename_i M;simp only[aL]at h;exact .inl ⟨_,s,hd,rfl,U,M,h.symm⟩
   .simp at h
  .simp at h
 .rename_i n e hd;split at h
  .rename_i s U;simp only[]at h;split at h
   .rename_i M;simp only[aL]at h;exact .inl ⟨_,s,hd,rfl,U,M,h.symm⟩
   .simp at h
  .simp at h
 .rename_i d m j hd;refine .inr ⟨d,hd,?_,h⟩;cases d<;>first|rfl|exact(m _ rfl).elim|exact(j _ _ rfl).elim
 .simp at h
theorem Kk{G:Gh}{b o off:Nat}{cs:List AV}{c:AV}(Y:jI G w b o cs)(h:zlh P t cs off=some c):
 ∃v,(loadVar t ⟨b,o+off,none⟩).run P w=.ok v w/\VR G c v:=by
 rcases Ki h with⟨d,s,hd,O,U,M,rfl⟩|⟨d,hd,O,hc⟩
 .obtain⟨vs,m,Z⟩:=((Y.drop off).take s).list;refine⟨.agg vs.toArray,?_,.agg m.1 m.2⟩;simp only[loadVar,fA,BM hd,O,fF,dB,jU U];have J:vs.length=s:=by rw[<-m.1];exact M
  rw[<-J,run_loadCells_list _ _ vs (fun j v V=>by rw[oF];exact Z j v V)];rfl
 .obtain⟨v,m,Z⟩:=Y off c hc;refine⟨v,?_,Z⟩;simp[loadVar,BM hd,O,m]
theorem BN{G:Gh}{off:Nat}{cs:List AV}{vs:List Value}{c:AV}(Z:cm G cs vs)(h:zlh P t cs off=some c):
 ∃v,(part t vs.toArray off).run P w=.ok v w/\VR G c v:=by
 rcases Ki h with⟨d,s,hd,Y,U,M,rfl⟩|⟨d,hd,Y,hc⟩
 .have m:=(Z.drop off).take s;refine⟨.agg ((vs.drop off).take s).toArray,?_,.agg m.1 m.2⟩;simp only[part,fA,BM hd,Y,fF,dB,jU U,lB]
  congr 2
  apply pJ;simp
 .have C:off<cs.length:=(fw.1 hc).1;have O:off<vs.length:=by have:=Z.1;omega
  refine⟨vs[off],?_,Z.2 off c _ hc (aT O)⟩;simp[part,BM hd,Y,O]
end
theorem wS{P:Program}{B:Bs}{G:Gh}{H:Hp}{w:World}(h:R B H w G){s:Sem Next}{c:AV}{v:Value}(hr:s.run P w=.ok (.value v) w)(Z:VR G c v):vk P B H G w s c H:=
 ⟨.value v,w,G,v,hr,.inl rfl,Z,mC h⟩
theorem znC{H H':Hp}{x:Option AV}{c:AV}(h:ret H x=some (c,H')):x=some c/\H'=H:=by
 cases x with
 |none=>simp[ret]at h
 |some v=>simp[ret]at h;exact⟨by rw[h.1],h.2.symm⟩
section
variable {P:Program} {B:Bs} {G:Gh} {H H':Hp} {w:World} (h:R B H w G) {c:AV}
include h
theorem Kl{t:TypeId}{a:AV}{Y:Value}(O:VR G a Y)(M:iN P H t a=some c):∃v,(Instr.loadAt t Y).run P w=.ok v w/\VR G c v:=by
 unfold iN at M;split at M
 .rename_i r U;cases O with
  |ptr hr=>
   split at M
   .rename_i z K J hc;obtain⟨v,m,Z⟩:=Kk (h.cells _ _ _ _ _ _ _ hr hc) M;exact⟨v,J8,Z⟩
   .simp at M
 .rename_i z;cases O with
  |iptr vs C hv=>
   rename_i b o;have I:jI G w b o z:=fun j d V=>⟨vs j,h.frz _ _ _ (C j (fw.1 V).1),hv j d V⟩;obtain⟨v,m,Z⟩:=Kk I M;exact⟨v,J8,Z⟩
 .simp at M
theorem Ur{t:TypeId}{a x:AV}{av C:Value}(ha:VR G a av)(hx:VR G x C)(U:lS P H t a x=some H'):
 ∃Y,(Instr.storeAt t av C).run P w=.ok () Y/\Step B H.next G w H' Y G:=by
 unfold lS at U;split at U
 .rename_i r O;cases ha with
  |ptr hr=>
   rename_i b o ex;split at U
   .rename_i cs M K s hc z;split at U
    .rename_i V;obtain⟨h1,h2,h3,h4⟩:=V;simp only[aL]at U;subst U;have j:=hx.cells;have J:C.cells.toList.length=s:=by rw[<-j.1];exact h1
     have Z:∀v∈C.cells.toList,v.oneCell'=true:=fun v hv=>by
      obtain⟨i,hi,rfl⟩:=yM hv;have m:i<x.cells.length:=by rw[j.1];exact hi
      rw[(j.2 i _ _ (aT m) (aT hi)).oneCell];exact iP.1 h4 _ (cR m)
     have hex:=h.ext r b o ex cs M K hr hc;obtain⟨Y,hw,hst⟩:=Fl P hr O x.cells C.cells.toList cs 0 H w h hc j Z ac ac ac (fun _=>ac);refine⟨Y,?_,by simpa using hst⟩;have I:C.cells.size=s:=yK;simp only[Instr.storeAt,Instr.sureAddr,fA,lB,fF,storeVar,jU z,I];simpa using hw
    .simp at U
   .simp at U
 .simp at U
end
section
variable {P:Program} {B:Bs} {G:Gh} {H H':Hp} {w:World}
theorem Us{t:TypeId}{a c:AV}{Y:Value}{i:Nat}(O:VR G a Y)(K:zlg P t a i=some c):∃v,(Instr.fieldAt t Y i).run P w=.ok v w/\VR G c v:=by
 unfold zlg at K;split at K
 .rename_i C hd;split at K
  .rename_i f M;split at K
   .rename_i s U;have Z:∀b o,Y=.pointer (some ⟨b,o,none⟩)->(Instr.fieldAt t Y i).run P w=.ok (.pointer (some ⟨b,o+f.offset,none⟩)) w:=fun b o e=>by
     subst e;simp only[Instr.fieldAt,fA,zmA hd,fF];simp[M,Instr.sureAddr,fieldPlace,jU U,oF]
    split at K
    .rename_i r J;simp only[aL]at K;subst K;cases O with
     |ptr hr=>exact⟨_,Z _ _ rfl,Fe⟩
    .rename_i m;simp only[aL]at K;subst K;cases O with
     |iptr vs I z=>
      refine⟨_,Z _ _ rfl,.iptr (fun j=>vs (f.offset+j)) (fun j V=>?_) (fun j d V=>?_)⟩
      .rw[lA]at V;rw[iE];exact I _ ac
      .rw[tX]at V;exact z _ _ V
    .simp at K
   .simp at K
  .simp at K
 .simp at K
theorem Ut{t:TypeId}{a c:AV}{j:Value}{i:Nat}(O:VR G a j)(K:zlW P t a i=some c):∃v,(Instr.field t j i).run P w=.ok v w/\VR G c v:=by
 unfold zlW at K;split at K
 .rename_i C z hd;cases O with
  |agg Y V=>
   rename_i vs;split at K
   .rename_i f M;obtain⟨v,m,Z⟩:=BN (P:=P) (w:=w) ⟨Y,V⟩ K;refine⟨v,?_,Z⟩;simp only[Instr.field,fA,zmA hd,fF];simp only[M,fA,asAgg,lB,fF];exact m
   .simp at K
 .simp at K
theorem Uu{t:TypeId}{a i c:AV}{av iv:Value}(J:VR G a av)(hi:VR G i iv)(K:zlO P t a i=some c):∃v,(Instr.indexAt t av iv).run P w=.ok v w/\VR G c v:=by
 unfold zlO at K;split at K
 .rename_i kk k;cases hi;split at K
  .rename_i e hd;split at K
   .rename_i s M;split at K
    .rename_i r U I z;split at K
     .rename_i Y;simp only[aL]at K;subst K;cases J with
      |sl hr hl hc=>
       rename_i b o x V;refine⟨.pointer (some ⟨b,o+U+k*s,none⟩),?_,Fe⟩;simp only[Instr.indexAt,asIntOf,fA,lB,fF,zmA hd];have h1:(0:Int)<=Int.ofNat k:=Int.natCast_nonneg k;have h2:(Int.ofNat k)<(I:Int):=sw;simp[jU M,Y,oF]
     .simp at K
    .rename_i xs;split at K
     .rename_i O Z;split at K
      .rename_i C;simp only[aL]at K;subst K;have Y:k<xs.length:=(fw.1 Z).1;cases J with
       |lst vs hz hF hv hc=>
        rename_i b o V z;have m:s=z:=by rw[<-C];exact hz k O Z
        subst m;refine⟨.pointer (some ⟨b,o+k*s,none⟩),?_,.iptr (vs k) (fun j hj=>hF k j Y ac) (fun j d hj=>hv k j O d Z hj)⟩;simp only[Instr.indexAt,asIntOf,fA,lB,fF,zmA hd];simp[jU M,Y,oF]
       |lst0 a V=>simp at Y
      .simp at K
     .simp at K
    .simp at K
   .simp at K
  .rename_i n e hd;split at K
   .rename_i s M;split at K
    .rename_i r U;split at K
     .rename_i Y;simp only[aL]at K;subst K;cases J with
      |ptr hr=>
       rename_i b o x;refine⟨.pointer (some ⟨b,o+U+k*s,none⟩),?_,Fe⟩;simp only[Instr.indexAt,asIntOf,fA,lB,fF,zmA hd];simp[jU M,Y,oF,Instr.sureAddr]
     .simp at K
    .simp at K
   .simp at K
  .simp at K
 .simp at K
theorem Uv{t:TypeId}{a i c:AV}{j Z:Value}(O:VR G a j)(I:VR G i Z)(K:qC P t a i=some c):∃v,(Instr.index t j Z).run P w=.ok v w/\VR G c v:=by
 unfold qC at K;split at K
 .rename_i kk k;cases I;split at K
  .rename_i s hd;split at K
   .rename_i b C;simp only[aL]at K;subst K;cases O with
    |str Y l M=>
     subst M;refine⟨_,?_,.int .u8 b.toNat⟩;have o:k<Y.size:=by
      have:=(fw.1 C).1;simpa using this
     have J:Y[k]?=some b:=by
      rw[ByteArray.getElem?_lt' _ _ o];have:=(fw.1 C).2;simp at this;rw[<-this];rfl
     simp only[Instr.index,asIntOf,fA,lB,fF,zmA hd];simp[J]
   .simp at K
  .rename_i n e cs hd;split at K
   .rename_i o;split at K
    .rename_i s U;cases O with
     |agg M z=>
      rename_i vs;obtain⟨v,m,V⟩:=BN (P:=P) (w:=w) ⟨M,z⟩ K;refine⟨v,?_,V⟩;simp only[Instr.index,asIntOf,fA,lB,fF,zmA hd];simp[jU U,o,m]
    .simp at K
   .simp at K
  .simp at K
 .simp at K
theorem Uw{a c:AV}{j:Value}{i:Nat}(O:VR G a j)(K:extract a i=some c):∃v,(Instr.extract j i).run P w=.ok v w/\VR G c v:=by
 unfold extract at K;split at K
 .rename_i z;cases O with
  |tup M Z=>
   rename_i vs;have I:i<z.length:=(fw.1 K).1;have m:i<vs.length:=ac;exact⟨vs[i],by simp[Instr.extract,m],Z i c _ K (aT m)⟩
 .simp at K
theorem Fp{op:BinOp}{k:IntKind}{a b:Int}{c:AV}(C:op≠.shl/\op≠.shr)(h:znx op k a b=some c)(M:TypeId):∃v,(binOp op M (.int k a) (.int k b)).run P w=.ok v w/\VR G c v:=by
 cases op<;>simp only[znx,aL,reduceCtorEq]at h<;>first
  |(subst h;exact⟨_,by simp[binOp,Op.intArith,Op.intBits,Op.intCmp];rfl,sy⟩)
  |(subst h;exact⟨.int k (k.wrap (BitVec.ofInt k.bits a &&& ~~~ BitVec.ofInt k.bits b).toNat),by simp[binOp,Op.intBits],sy⟩)
  |(split at h
    ·simp at h
    .rename_i Z;simp only[aL]at h;subst h;exact⟨_,by simp[binOp,Op.intDiv,Z];rfl,sy⟩)
  |simp at C
theorem Ux{op:BinOp}{a b:ByteArray}{c:AV}(h:wG op a.data.toList b.data.toList=some c)(M:TypeId):∃v,(binOp op M (.string a) (.string b)).run P w=.ok v w/\VR G c v:=by
 have C:∀x y,tN x y=Op.bytesLess x y:=fun x=>by
  induction x with
  |nil=>intro y;cases y<;>rfl
  |cons p x ih=>intro y;cases y with
   |nil=>rfl
   |cons q y=>simp[tN,Op.bytesLess,ih]
 cases op<;>simp only[wG,aL,reduceCtorEq,C]at h<;>first
  |(subst h;exact⟨.bool (a.data.toList == b.data.toList),wM,sy⟩)
  |(subst h;exact⟨.bool !(a.data.toList == b.data.toList),wM,sy⟩)
  |(subst h;exact⟨.bool (Op.bytesLess a.data.toList b.data.toList),wM,sy⟩)
  |(subst h;exact⟨.bool !(Op.bytesLess a.data.toList b.data.toList),wM,sy⟩)
  |(subst h;exact⟨.bool (Op.bytesLess a.data.toList b.data.toList||a.data.toList == b.data.toList),wM,sy⟩)
  |(subst h;exact⟨.bool !(Op.bytesLess a.data.toList b.data.toList||a.data.toList == b.data.toList),wM,sy⟩)
  |(split at h
    ·rename_i Z;simp only[aL]at h;subst h;refine⟨.string (a++b),?_,.str _ _ ?_⟩
     .have J:¬((a.size+b.size:Nat):Int) > IntKind.i64.max:=by
       have m:a.size+b.size<=70368744177664:=by simpa [zmr]using Z
       have j:IntKind.i64.max=9223372036854775807:=rfl;rw[j];omega
      simp only[binOp,Op.stringOp,af J];rfl
     .simp
    .simp at h)
theorem Km(Y:Nat){x y:AV}{C Z:Value}{r:Bool}{M:TypeId}(o:VR G x C)(z:VR G y Z)(h:Bl P M x y=some r):(Op.equalIn (Y+1) M C Z).run P w=.ok r w:=by
 unfold Bl at h;split at h;all_goals first
  |(rename_i hd
    split at h<;>simp only[aL,reduceCtorEq]at h<;>subst h<;>cases o<;>cases z<;>simp[Op.equalIn,zmA hd]
    done)
  |(rename_i e hd
    split at h<;>simp only[aL,reduceCtorEq]at h<;>subst h<;>cases o<;>cases z<;>simp[Op.equalIn,zmA hd]
    done)
  |(rename_i m U hd
    split at h<;>simp only[aL,reduceCtorEq]at h<;>subst h<;>cases o<;>cases z<;>simp[Op.equalIn,zmA hd]
    done)
  |(rename_i m U V hd
    split at h<;>simp only[aL,reduceCtorEq]at h<;>subst h<;>cases o<;>cases z<;>simp[Op.equalIn,zmA hd]
    done)
  |simp at h
theorem BO{op:BinOp}{t:TypeId}{x y:Operand}{c d:AV}{cv dv:Value}(z:VR G c cv)(hd:VR G d dv)(h:∀l m,c=.agg l->d=.agg m->False):(eqGuard op t x y cv dv).run P w=.ok () w:=by
 cases op<;>first|rfl|(cases z<;>cases hd<;>first|rfl|exact(h _ _ rfl rfl).elim)
theorem Uy(a b:ByteArray):(a == b)=(a.data.toList == b.data.toList):=by
 cases a with
 |mk x=>cases b with
  |mk y=>
   show(x == y)=_;rw[BI,pK,pK];exact⟨fun h=>by rw[h],fun h=>pJ h⟩
theorem Kn(Z:Nat){x y:AV}{C Y:Value}{r:Bool}{M:TypeId}(o:VR G x C)(z:VR G y Y)(h:E8 P M x y=some r):(Op.equalIn (Z+1) M C Y).run P w=.ok r w:=by
 unfold E8 at h;split at h
 .split at h
  .rename_i hd;split at h
   .rename_i V;simp only[aL]at h;subst h V;cases o;cases z;simp[Op.equalIn,zmA hd]
   .simp at h
  .simp at h
 .split at h
  .rename_i hd;simp only[aL]at h;subst h;cases o with
   |str a K O=>cases z with
    |str b m U=>
     subst O U;simp only[Op.equalIn,fA,zmA hd,fF,lB,Uy]
  .simp at h
 .exact Km Z o z h
theorem Fq{xs M:List AV}{C K:List Value}(o:cm G xs C)(z:cm G M K)(Z:Nat):∀(V:List Field) (r:Bool),wH P xs M V=some r ->
 Sem.run P (forIn V (none,()) fun(f:Field) (_:Option Bool×Unit)=>
         if f.name="_" then pure (ForInStep.yield (none,()))
         else do
          let a <-part f.type C.toArray f.offset
          let b <-part f.type K.toArray f.offset
          let c <-Op.equalIn (Z+1) f.type a b
          if c=false then pure (ForInStep.done (some false,()))else pure (ForInStep.yield (none,())))
  w=.ok (match r with|true=>(none,())|false=>(some false,())) w
 |[],r,h=>by
  simp only[wH,aL]at h;subst h;rfl
 |f::V,r,h=>by
  unfold wH at h;rw[List.forIn_cons];split at h
  .rename_i J;rw[am yK];simp only[fA,lB,fF];exact Fq o z Z V r h
  .rename_i J;rw[af yK];split at h
   .rename_i a b j hb;obtain⟨av,O,m⟩:=BN (P:=P) (w:=w) o j;obtain⟨bv,Y,I⟩:=BN (P:=P) (w:=w) z hb;split at h
    .rename_i U;have:=Kn (P:=P) (w:=w) Z m I U;simp only[fA,O,Y,this,fF,sB,dL,lB];exact Fq o z Z V r h
    .rename_i U;have:=Kn (P:=P) (w:=w) Z m I U;simp only[aL]at h;subst h;simp only[fA,O,Y,this,fF,dB,lB]
    .simp at h
   .simp at h
theorem Uz(d:Nat){t:TypeId}{C:Array Field}{xs z:Array Value}(hd:P.underlying t=some (.struct C))(U:P.stoodInHeld t=false):
 (Op.equalIn (d+1) t (.agg xs) (.agg z)).run P w=(Sem.run P (forIn C.toList (none,()) fun(f:Field) (_:Option Bool×Unit)=>
   if f.name="_" then pure (ForInStep.yield (none,()))
   else do
    let a <-part f.type xs f.offset
    let b <-part f.type z f.offset
    let c <-Op.equalIn d f.type a b
    if c=false then pure (ForInStep.done (some false,()))else pure (ForInStep.yield (none,())))
   w).andThen fun a J=>Sem.run P (match a.1 with|some r=>pure r|none=>pure true) J:=by
 simp[Op.equalIn,zmA hd,U]
 congr 1
 funext a J
 rcases a with⟨_ |_,_⟩<;>rfl
theorem UA(Z:Nat){x y:AV}{V o:Value}{r:Bool}{K:TypeId}(J:VR G x V)(z:VR G y o)(h:uZ P K x y=some r):(Op.equalIn (Z+2) K V o).run P w=.ok r w:=by
 unfold uZ at h;split at h
 .unfold Bm at h;split at h
  .rename_i C hd;split at h
   .simp at h
   .rename_i I;simp only[i9]at I;cases J with
    |agg M O=>cases z with
     |agg Y U=>
      have:=Fq (P:=P) (w:=w) ⟨M,O⟩ ⟨Y,U⟩ Z C.toList r h;rw[Uz (Z+1) hd I.1,this];cases r<;>rfl
  .simp at h
 .exact Km (Z+1) J z h
theorem UB{x y:AV}{C o:Value}{r:Bool}{M:TypeId}(Z:VR G x C)(z:VR G y o)(h:uZ P M x y=some r):(Op.equal M C o).run P w=.ok r w:=UA 9998 Z z h
theorem UC{op:BinOp}{t:TypeId}{x y:Operand}{xs z:List AV}{C o:Value}(Z:VR G (.agg xs) C)(Y:VR G (.agg z) o){r:Bool}(h:Bm P t xs z=some r):(eqGuard op t x y C o).run P w=.ok () w:=by
 unfold Bm at h;split at h
 .split at h
  .simp at h
  .rename_i K;simp only[i9]at K;cases Z;cases Y;cases op<;>first|rfl|simp[eqGuard,K.2]
 .simp at h
theorem UD{op:BinOp}{M:TypeId}{m oy:Operand}{x y c:AV}{C o:Value}(Z:VR G x C)(z:VR G y o)(O:∀k a k' b,x=.int k a->y=.int k' b->False)
 (j:∀a b,x=.str a->y=.str b->False) (Y:∀k a,x=.sx k a->False) (V:∀k a k' b,x=.int k a->y=.sx k' b->False) (h:E9 P op M x y=some c) :
 ∃v,(do eqGuard op M m oy C o;binOp op M C o:Sem Value).run P w=.ok v w/\VR G c v:=by
 unfold E9 at h;have U:∃r,uZ P M x y=some r/\((op=.eql/\c=.bool r)\/(op=.neq/\c=.bool !r)):=by
  split at h
  .split at h
   .rename_i r hr;simp only[aL]at h;exact⟨r,hr,.inl ⟨rfl,h.symm⟩⟩
   .simp at h
  .split at h
   .rename_i r hr;simp only[aL]at h;exact⟨r,hr,.inr ⟨rfl,h.symm⟩⟩
   .simp at h
  .simp at h
 obtain⟨r,hr,I⟩:=U;have hg:(eqGuard op M m oy C o).run P w=.ok () w:=by
  have J:=hr;unfold uZ at J;split at J
  .exact UC Z z J
  .rename_i K;exact BO Z z K
 have he:=UB (P:=P) (w:=w) Z z hr;simp only[fA,hg,fF];rcases I with⟨rfl,rfl⟩|⟨rfl,rfl⟩
 .refine⟨.bool r,?_,.bool r⟩;have:binOp .eql M C o=(do pure (.bool (<-Op.equal M C o)):Sem Value):=by
   cases Z<;>cases z<;>first|rfl|exact(O _ _ _ _ rfl rfl).elim|exact(j _ _ rfl rfl).elim|exact(Y _ _ rfl).elim|exact(V _ _ _ _ rfl rfl).elim
  rw[this];simp[he]
 .refine⟨.bool !r,?_,.bool _⟩;have:binOp .neq M C o=(do pure (.bool (!(<-Op.equal M C o))):Sem Value):=by
   cases Z<;>cases z<;>first|rfl|exact(O _ _ _ _ rfl rfl).elim|exact(j _ _ rfl rfl).elim|exact(Y _ _ rfl).elim|exact(V _ _ _ _ rfl rfl).elim
  rw[this];simp[he]
theorem Ko{x:AV}{k:IntKind}{e:Sx}{C:Value}(o:VR G x C)(h:Bj x=some (k,e)):C=.int k (e.eval G.ρ):=by
 unfold Bj at h;split at h
 .simp only[cZ]at h;obtain⟨rfl,rfl⟩:=h;cases o;rfl
 .simp only[cZ]at h;obtain⟨rfl,rfl⟩:=h;cases o;rfl
 .simp at h
theorem UE{op:BinOp}{k:IntKind}{a b n:Int}(h:znx op k a b=some (.int k n)):E6 op k a b=n:=by simp[E6,h]
theorem UF{D:BinOp->Sx->Sx->Option Bool}(J:oE D G.ρ){op:BinOp}{k:IntKind}{a b:Sx}{c:AV}(h:E7 D op k a b=some c)(Z:TypeId):
 ∃v,(binOp op Z (.int k (a.eval G.ρ)) (.int k (b.eval G.ρ))).run P w=.ok v w/\VR G c v:=by
 have M:∀(op:BinOp) (n:Int),(op≠.shl/\op≠.shr)->znx op k (a.eval G.ρ) (b.eval G.ρ)=some (.int k n)->c=.sx k (.bin op k a b) ->
  ∃v,(binOp op Z (.int k (a.eval G.ρ)) (.int k (b.eval G.ρ))).run P w=.ok v w/\VR G c v:=fun op n C I hc=>by
  obtain⟨v,m,j⟩:=Fp (P:=P) (w:=w) (G:=G) C I Z;cases j;refine⟨_,m,?_⟩;subst hc;have:VR G (.sx k (.bin op k a b)) (.int k ((Sx.bin op k a b).eval G.ρ)):=.sx _ _;simp only[Sx.eval,UE I]at this;exact this
 have Y:D .eql b (.lit 0)=some false->b.eval G.ρ≠0:=fun hd=>by
  have:=J _ k _ _ _ hd;simp[znx,Sx.eval]at this;exact this
 cases op<;>simp only[E7,aL,reduceCtorEq]at h<;>first
  |exact M _ _ ax rfl h.symm
  |(split at h
    ·rename_i hd;simp only[aL]at h;first
      |exact M .quo (k.wrap ((a.eval G.ρ).tdiv (b.eval G.ρ))) ax (by simp only[znx,af (Y hd)]) h.symm
      |exact M .rem ((a.eval G.ρ).tmod (b.eval G.ρ)) ax (by simp only[znx,af (Y hd)]) h.symm
    .simp at h)
  |(split at h
    ·rename_i r hd;simp only[aL]at h;subst h;exact Fp (P:=P) (w:=w) (G:=G) ax (J _ k _ _ _ hd) Z
    .simp at h)
theorem Kp{D:BinOp->Sx->Sx->Option Bool}(J:oE D G.ρ){op:BinOp}{M:TypeId}{Y z:Operand}{x y c:AV}{C o:Value}(U:VR G x C)(O:VR G y o)(Z:∀l m,x=.agg l->y=.agg m->False)(h:Bk D op x y=some c):
 ∃v,(do eqGuard op M Y z C o;binOp op M C o:Sem Value).run P w=.ok v w/\VR G c v:=by
 have j:=BO (P:=P) (w:=w) (op:=op) (t:=M) (x:=Y) (y:=z) U O Z;simp only[fA,j,fF];unfold Bk at h;split at h
 .rename_i k a k' b I V;have e1:=Ko U I;have e2:=Ko O V;subst e1 e2;split at h
  .rename_i K;subst K;exact UF J h M
  .simp at h
 .simp at h
theorem UG{D:BinOp->Sx->Sx->Option Bool}(J:oE D G.ρ){op:BinOp}{M:TypeId}{Z Y:Operand}{x y c:AV}{C V:Value}(o:VR G x C)(z:VR G y V)(h:zmt P D op M x y=some c):
 ∃v,(do eqGuard op M Z Y C V;binOp op M C V:Sem Value).run P w=.ok v w/\VR G c v:=by
 unfold zmt at h;split at h
 .rename_i k a k' b;have K:=BO (P:=P) (w:=w) (op:=op) (t:=M) (x:=Z) (y:=Y) o z ax;simp only[fA,K,fF];cases o;cases z;unfold tO at h;split at h
  .unfold wI at h;split at h
   .simp only[aL]at h;subst h;refine⟨_,?_,.int _ _⟩;simp only[binOp,Op.shift];rw[af ax];rfl
   .simp at h
  .unfold wI at h;split at h
   .simp only[aL]at h;subst h;refine⟨_,?_,.int _ _⟩;simp only[binOp,Op.shift];rw[af ax];rfl
   .simp at h
  .rename_i m j;split at h
   .rename_i U;subst U;exact Fp ⟨m,j⟩ h M
   .simp at h
 .rename_i a b;have K:=BO (P:=P) (w:=w) (op:=op) (t:=M) (x:=Z) (y:=Y) o z ax;simp only[fA,K,fF];cases o with
  |str sa _ O=>
   cases z with
   |str sb _ I=>
    subst O I;exact Ux h M
 .exact Kp J o z ax h
 .exact Kp J o z ax h
 .exact UD o z jF jF jF jF h
theorem UH{op:UnOp}{x c:AV}{C:Value}(o:VR G x C)(h:tQ op x=some c):∃v,(Op.unary op C).run P w=.ok v w/\VR G c v:=by
 unfold tQ at h;split at h
 .cases o;simp only[aL]at h;subst h;refine⟨_,rfl,?_⟩;exact .sx _ _
 .cases o;simp only[aL]at h;subst h;refine⟨_,rfl,?_⟩;exact .sx _ _
 .cases o;simp only[znx,aL]at h;subst h;exact⟨_,rfl,.int _ _⟩
 .cases o;simp only[znx,aL]at h;subst h;exact⟨_,rfl,.int _ _⟩
 .cases o;simp only[aL]at h;subst h;exact⟨_,rfl,.bool _⟩
 .simp at h
end
end Go.Ab
