/- Lemmas for the last file. -/
import Derived.Laws.Tables
import Derived.Lib.Strings
import Derived.Test.YtbflaciihaijgaaGreatREA
import Derived.WalkKit
set_option linter.all false
set_option maxHeartbeats 32000000
namespace Go.Ab
set_option maxRecDepth 20000
open Go
abbrev qH:=Option Value
abbrev qw:=List Value
variable{qb:Prop}
def aI(h:qb:=by simp):=h
def x3(h:qb:=by simpa using hc):=h
def x4(h:qb:=by simpa using U):=h
def aa(h:qb:=by omega):=h
def kO(h:qb:=by rw[<- k r _ hr];exact hc):=h
def ce(h:qb:=by simp;omega):=h
def Dp(h:qb:=by have:=h.di _ _ F;omega):=h
def fN(h:qb:=by rw[aP,if_pos rfl]):=h
def iG(h:qb:=by rw[Hp.get_set,if_pos rfl]):=h
def jB(h:qb:=by rw[M];omega):=h
def x5(h:qb:=by simp only[eQ];omega):=h
def pH(h:qb:=by trivial):=h
def Am(h:qb:=by simpa using A):=h
def G8(h:qb:=by simpa [Instr.loadAt,Instr.sureAddr]using Z):=h
def rL(h:qb:=by simpa using Z):=h
def Dq(h:qb:=by rw[Nat.add_assoc];exact .ptr hr):=h
def rM(h:qb:=by constructor):=h
def vU(h:qb:=by simp[binOp,Op.stringOp,ByteArray.toList_eq]):=h
def An(h:qb:=by simpa using Y):=h
def jh(h:qb:=by assumption):=h
def Dr(h:qb:=by rw[<- Nat.add_mul];congr 1;omega):=h
def oL(h:qb:=by simpa using F):=h
def fX(h:qb:=by rw[aP,if_neg aa]):=h
def lY:=@List.getElem?_append_left
def nJ:=@List.getElem?_append_right
def rN:=@List.getElem?_take
def au:=@if_pos
def aT:=@Nat.le_refl
def dC:=@Nat.le_trans
def fO:=@Nat.lt_of_lt_of_le
def ib:=@Nat.eq_of_beq_eq_true
def x6:=@Nat.ne_of_beq_eq_false
def oM:=@decide_true
def jC:=@decide_false
def ad:=@if_neg
def aH:=@Option.some.injEq
def iH:=@Nat.blt_eq
def ji:=@Array.getD_eq_getD_getElem?
def uz:=@Array.getElem?_setIfInBounds
def gl:=@Prod.mk.injEq
def eu:=@List.getElem?_eq_some_iff
def bt:=@List.getElem?_eq_getElem
def bR:=@Nat.zero_add
def Ao:=@Go.RowKit.Below.heap_alloc
def eT:=@Nat.le_succ
def Ds:=@List.take_append_of_le_length
def iR:=@List.take_of_length_le
def oN:=@List.drop_of_length_le
def lA:=@List.length_append
def mF:=@List.length_take
def gN:=@List.length_cons
def eg:=@List.length_nil
def Ap:=@List.drop_drop
def jO:=@List.nil_append
def kP:=@List.append_assoc
def rO:=@List.getElem?_drop
def eY:=@Go.Sem.run_bind
def gU:=@Nat.add_assoc
def jP:=@List.length_drop
def dI:=@Option.bind_eq_some_iff
def x7:=@Option.map_eq_some_iff
def fd:=@Go.Result.andThen_ok
def bw:=@if_true
def jQ:=@Go.Sem.run_pure
def lZ:=@Array.ext'
def kj:=@List.all_eq_true
def ek:=@List.getElem_mem
def Dt:=@Bool.eq_iff_iff
def mG:=@beq_iff_eq
def x8:=@Bool.true_eq_false
def bH:=@if_false
def fP:=@Bool.or_eq_false_iff
def uA:=@Nat.sub_self
def pI:=@Option.map_some
def lB:=@congrArg
def dx:=@Nat.zero_le
def nK:=@Nat.add_mul
def G9:=@Array.toList_setIfInBounds
def pJ:=@List.take_add_one
def Aq:=@List.getElem?_set_self
def Du:=@Decidable.byContradiction
def sZ:=@Nat.add_zero
def uB:=@Array.toArray_toList
def ta:=@Nat.succ_mul
def Dv:=@Array.toList_map
def ev:=@List.getElem?_map
def uC:=@List.getElem?_range
def iS:=@List.append_nil
def vV:=@Nat.mul_le_mul_right
def Dw:=@List.take_append_drop
def Dx:=@List.map_take
def As:=@Nat.min_eq_left
def x9:=@Go.IntWalk.i64_in
def cC:=And.intro @aH.{0} @gl.{0,0}
def iT:=And.intro @pI.{0,0} @aH.{0}
def nL:=And.intro @gN.{0} @eg.{0}
end Go.Ab
namespace Go.Ab
set_option maxRecDepth 20000
open Go Go.RowKit
structure Gh where
 β:Nat->Option (Nat×Nat×Nat)
 F:Nat->Nat->qH
 ρ:Nat->Int
structure Bs where
 eZ:Nat
 ρ:Nat->Int
 cl:Cfg
variable{G V:Gh}{c x a y:AV}{v m Z M I:Value}{cs:qm}{vs:qw}{w w':World}{B:Bs}{H H' X:Hp}{A:Type}{b o j i:Nat}{P:Program}{s:Sem Value}{d:TypeDesc}{z t:TypeId}{k:IntKind}{S U:Operand}{D:BinOp->Sx->Sx->qy}{lo:qv}
def mH(D:BinOp->Sx->Sx->qy)(ρ:Nat->Int):Prop:=∀o k a b r,D o a b=some r->jz o k (a.eval ρ) (b.eval ρ)=some (.bool r)
inductive VR (G:Gh):AV->Value->Prop
 |int (k:IntKind) (n:Int):VR G (.int k n) (.int k n)
 |sx (k:IntKind) (e:Sx):VR G (.sx k e) (.int k (e.eval G.ρ))
 |bool (b:Bool):VR G (.bool b) (.bool b)
 |ae (s:ByteArray) (l:qr) (h:s.data.toList=l):VR G (.ae l) (.string s)
 |bK:VR G .bK (.pointer none)
 |a5:VR G .a5 (.map none)
 |bP:VR G .bP .nilFunc
 |ab:VR G .ab (.slice none 0 0)
 |ptr {r off b o x:Nat} (h:G.β r=some (b,o,x)):VR G (.ptr r off) (.pointer (some ⟨b,o+off,none⟩))
 |a2 {cs:qm}{b o:Nat} (vs:Nat->Value) (hF:∀j,j<cs.length->G.F b (o+j)=some (vs j))
  (hv:∀(j:Nat) (c:AV),cs[j]?=some c->VR G c (vs j)):VR G (.a2 cs) (.pointer (some ⟨b,o,none⟩))
 |sl {r off len z b o x cap:Nat} (h:G.β r=some (b,o,x)) (hl:len<=cap) (hc:off+cap*z<=x) :
  VR G (.sl r off len z) (.slice (some ⟨b,o+off,none⟩) len cap)
 |ai {xs:List qm}{b o cap z:Nat} (vs:Nat->Nat->Value) (hz:∀(i:Nat) (row:qm),xs[i]?=some row->row.length=z)
  (hF:∀i j,i<xs.length->j<z->G.F b (o+i*z+j)=some (vs i j))
  (hv:∀(i j:Nat) (row:qm) (c:AV),xs[i]?=some row->row[j]?=some c->VR G c (vs i j)) (hc:xs.length<=cap) :
  VR G (.ai xs) (.slice (some ⟨b,o,none⟩) xs.length cap)
 |cb (a:Option Addr) (cap:Nat):VR G (.ai []) (.slice a 0 cap)
 |map {r b o x:Nat} (h:G.β r=some (b,o,x)):VR G (.map r) (.map (some b))
 |bl {f:Nat}{cs:qm}{vs:qw} (hl:cs.length=vs.length) (hv:∀(i:Nat) c v,cs[i]?=some c->vs[i]?=some v->VR G c v) :
  VR G (.bl f cs) (.func (.func f) #[] vs.toArray)
 |agg {cs:qm}{vs:qw} (hl:cs.length=vs.length) (hv:∀(i:Nat) c v,cs[i]?=some c->vs[i]?=some v->VR G c v) :
  VR G (.agg cs) (.agg vs.toArray)
 |aW {cs:qm}{vs:qw} (hl:cs.length=vs.length) (hv:∀(i:Nat) c v,cs[i]?=some c->vs[i]?=some v->VR G c v) :
  VR G (.aW cs) (.tuple vs.toArray)
def bT(G:Gh)(cs:qm)(vs:qw):Prop:=cs.length=vs.length/\∀(i:Nat) c v,cs[i]?=some c->vs[i]?=some v->VR G c v
def bT.nil(G:Gh):bT G [] []:=⟨rfl,aI⟩
def kQ:=@bT.nil
def bT.cons(h:VR G c v)(S:bT G cs vs):bT G (c::cs) (v::vs):=by
 refine⟨by simp[S.1],fun i j J hc U=>?_⟩;cases i with
 |zero=>simp at hc U;subst hc U;exact h
 |succ i=>exact S.2 i j J x3 x4
def gO:=@bT.cons
def bT.aR(h:bT G (c::cs) (v::vs)):VR G c v/\bT G cs vs:=
 ⟨h.2 0 c v rfl rfl,by simpa using h.1,fun i j J hc U=>h.2 (i+1) j J x3 x4⟩
def bT.append{C:qm}{us:qw}(h:bT G cs vs)(Y:bT G C us):bT G (cs++C) (vs++us):=by
 refine⟨by simp[h.1,Y.1],fun i c v hc U=>?_⟩;have K:=h.1;by_cases F:i<cs.length
 .rw[lY F]at hc;rw[lY aa]at U;exact h.2 i c v hc U
 .rw[nJ aa]at hc;rw[nJ aa]at U;rw[<-K]at U;exact Y.2 _ c v hc U
def bT.drop(h:bT G cs vs)(n:Nat):bT G (cs.drop n) (vs.drop n):=
 ⟨by simp[h.1],fun i c v hc U=>h.2 (n+i) c v x3 x4⟩
def bT.take(h:bT G cs vs)(n:Nat):bT G (cs.take n) (vs.take n):=by
 refine⟨by simp[h.1],fun i c v hc U=>?_⟩;rw[rN]at hc U;split at hc
 .rename_i F;rw[au F]at U;exact h.2 i c v hc U
 .simp at hc
structure Ext (G G':Gh):Prop where
 β:∀r p,G.β r=some p->G'.β r=some p
 F:∀b o v,G.F b o=some v->G'.F b o=some v
 ρ:G'.ρ=G.ρ
variable{F:Value}
def Ext.refl(G:Gh):Ext G G:=⟨fun _ _ h=>h,fun _ _ _ h=>h,rfl⟩
def vW:=@Ext.refl
def Ext.trans{a b c:Gh}(h:Ext a b)(k:Ext b c):Ext a c:=⟨fun r p hp=>k.β r p (h.β r p hp),fun x y v U=>k.F x y v (h.F x y v U),k.ρ.trans h.ρ⟩
def VR.mono{m:Gh}(e:Ext G m)(h:VR G c v):VR m c v:=by
 induction h with
 |int k n=>exact .int k n
 |sx k x=>rw[<-e.ρ];exact .sx k x
 |bool b=>exact .bool b
 |ae s l h=>exact .ae s l h
 |bK=>exact .bK
 |a5=>exact .a5
 |bP=>exact .bP
 |ab=>exact .ab
 |ptr h=>exact .ptr (e.β _ _ h)
 |a2 vs hF _ ih=>exact .a2 vs (fun j A=>e.F _ _ _ (hF j A)) ih
 |sl h K hc=>exact .sl (e.β _ _ h) K hc
 |ai vs Y hF _ hc ih=>exact .ai vs Y (fun i j F A=>e.F _ _ _ (hF i j F A)) ih hc
 |cb a S=>exact .cb a S
 |map h=>exact .map (e.β _ _ h)
 |bl K _ ih=>exact .bl K ih
 |agg K _ ih=>exact .agg K ih
 |aW K _ ih=>exact .aW K ih
def bT.mono{m:Gh}(e:Ext G m){c:qm}{v:qw}(h:bT G c v):bT m c v:=⟨h.1,fun i a b V z=>(h.2 i a b V z).mono e⟩
theorem VR.b0(h:VR G c v):v.oneCell'=c.one:=by cases h<;>rfl
def VR.cells{G:Gh}{c:AV}{v:Value}(h:VR G c v):bT G c.cells v.cells.toList:=by
 cases h with
 |agg K U=>exact⟨by simpa [AV.cells,Value.cells]using K,by simpa [AV.cells,Value.cells]using U⟩
 |_=>exact gO (by constructor<;>assumption) (kQ _)
def iU(G:Gh)(w:World)(b o:Nat)(cs:qm):Prop:=∀(j:Nat) (c:AV),cs[j]?=some c->∃v,w.cell? ⟨b,o+j,none⟩=some v/\VR G c v
def eQ(x:Nat)(cs:qm):Bool->Nat
 |true=>x
 |false=>cs.length
def rP(G:Gh)(U:qF)(ms:List MapEntry):Prop:=
 U.length=ms.length/\∀(i:Nat) e m,U[i]?=some e->ms[i]?=some m->VR G e.1 m.key/\VR G e.2 m.val
structure R (B:Bs) (H:Hp) (w:World) (G:Gh):Prop where
 bY:B.eZ<=w.heap.size
 di:∀r p,G.β r=some p->r<H.next
 lt:∀r b o x,G.β r=some (b,o,x)->B.eZ<=b/\b<w.heap.size
 cells:∀r b o x cs imm tip,G.β r=some (b,o,x)->H.get r=some (.cells cs imm tip)->iU G w b o cs
 cu:∀r b o x cs imm tip,G.β r=some (b,o,x)->H.get r=some (.cells cs imm tip)->∀j,j<imm->j<cs.length->∃v,G.F b (o+j)=some v
 ext:∀r b o x cs imm tip,G.β r=some (b,o,x)->H.get r=some (.cells cs imm tip)->cs.length<=eQ x cs tip
 bu:∀r b o x cs imm tip,G.β r=some (b,o,x)->H.get r=some (.cells cs imm tip)->∀j,imm<=j->j<eQ x cs tip ->
  (∃v,w.cell? ⟨b,o+j,none⟩=some v)/\w.frozen? ⟨b,o+j,none⟩=false/\G.F b (o+j)=none
 apart:∀r b o x cs imm tip r' b' o' x' cs' imm' tip',G.β r=some (b,o,x)->H.get r=some (.cells cs imm tip) ->
  G.β r'=some (b',o',x')->H.get r'=some (.cells cs' imm' tip')->r≠r' ->
  ∀j j',imm<=j->j<eQ x cs tip->imm'<=j'->j'<eQ x' cs' tip'->b=b'->o+j≠o'+j'
 map:∀r b o x es,G.β r=some (b,o,x)->H.get r=some (.map es)->∃ms clock,w.heap[b]?=some (.map ms clock)/\rP G es ms.toList
 aE:∀r b o x es r' b' o' x',G.β r=some (b,o,x)->H.get r=some (.map es)->G.β r'=some (b',o',x')->(H.get r').isSome->r≠r'->b≠b'
 dr:∀b o v,G.F b o=some v->w.cell? ⟨b,o,none⟩=some v
 val:G.ρ=B.ρ
 eb:mH B.cl.cj B.ρ
 bL:∀r b o x cs imm tip,G.β r=some (b,o,x)->H.get r=some (.cells cs imm tip)->cs.length<=x
structure Fr (G:Gh) (w w':World):Prop where
 os:w'.os=w.os
 tape:w'.tape=w.tape
 output:w'.output=w.output
 size:w.heap.size<=w'.heap.size
 block:∀k,k<w.heap.size->(∀r b o x,G.β r=some (b,o,x)->b≠k)->w'.heap[k]?=w.heap[k]?
def Fr.refl(G:Gh)(w:World):Fr G w w:=⟨rfl,rfl,rfl,aT _,fun _ _ _=>rfl⟩
def ya:=@Fr.refl
def rQ(G m:Gh)(w:World):Prop:=∀r b o x,m.β r=some (b,o,x)->G.β r=some (b,o,x)\/w.heap.size<=b\/∃I M Z,G.β I=some (b,M,Z)
def Fr.trans{m:Gh}{a b c:World}(h:Fr G a b)(k:Fr m b c)(n:rQ G m a):Fr G a c:=
 ⟨k.os.trans h.os,k.tape.trans h.tape,k.output.trans h.output,dC h.size k.size,fun i F I=>
  (k.block i (fO F h.size) (fun r b o x hr C=>by
    rcases n r b o x hr with j|j|⟨Z,M,Y,j⟩
    .exact I r b o x j C
    .omega
    .exact I Z b M Y j C)).trans (h.block i F I)⟩
def rQ.refl(G:Gh)(w:World):rQ G G w:=fun _ _ _ _ h=>.inl h
def uD:=@rQ.refl
def rQ.trans{Z:Gh}(h:rQ G Z w)(k:rQ Z V w')(S:w.heap.size<=w'.heap.size):rQ G V w:=fun r b o x hr=>by
 rcases k r b o x hr with j|j|⟨I,M,Y,j⟩
 .exact h r b o x j
 .exact .inr (.inl aa)
 .rcases h I b M Y j with m|m|m
  .exact .inr (.inr ⟨I,M,Y,m⟩)
  .exact .inr (.inl m)
  .exact .inr (.inr m)
structure Step (B:Bs) (nx:Nat) (G:Gh) (w:World) (H':Hp) (w':World) (G':Gh):Prop where
 r:R B H' w' G'
 ext:Ext G G'
 fr:Fr G w w'
 new:rQ G G' w
 dn:∀r p,G'.β r=some p->G.β r=some p\/nx<=r
 mono:nx<=H'.next
 ef:∀b o v,G'.F b o=some v->G.F b o=some v\/B.eZ<=b
variable{r:Nat}
def Step.refl(h:R B H w G):Step B H.next G w H w G:=⟨h,vW _,ya _ _,uD _ _,fun _ _ h=>.inl h,aT _,fun _ _ _ h=>.inl h⟩
def jD:=@Step.refl
def Step.trans{Z:Nat}{U:Hp}{m:Gh}{Y:World}(h:Step B Z G w H' w' m)(k:Step B H'.next m w' U Y V):Step B Z G w U Y V:=
 ⟨k.r,h.ext.trans k.ext,h.fr.trans k.fr h.new,h.new.trans k.new h.fr.size,fun r p hr=>by
  rcases k.dn r p hr with j|j
  .exact h.dn r p j
  .exact .inr (dC h.mono j),dC h.mono k.mono,fun b o v S=>by
  rcases k.ef b o v S with j|j
  .exact h.ef b o v j
  .exact .inr j⟩
structure TR (N:Nat) (G:Gh) (E:aD) (a:Act):Prop where
 size:a.tmps.size=N
 bM:∀t,VR G (E.at t) (a.tmps.getD t undef)
def TR.mono{N:Nat}{m:Gh}{E:aD}{a:Act}(e:Ext G m)(h:TR N G E a):TR N m E a:=⟨h.size,fun t=>(h.bM t).mono e⟩
def VR.undef(G:Gh):VR G ea Go.undef:=.aW (cs:=[]) (vs:=[]) rfl aI
def yb:=@VR.undef
@[simp] theorem rR {α:Type} (x y:α):ja true x y=x:=rfl
@[simp] theorem l0 {α:Type} (x y:α):ja false x y=y:=rfl
theorem yc(k:Nat):(T.e:T A).get k=none:=rfl
theorem uE(v:Option A)(l r:T A)(k:Nat):
 (T.n v l r).get k=ja (Nat.beq k 0) v (ja (Nat.beq (Nat.mod k 2) 1) (l.get (Nat.div k 2)) (r.get (Nat.sub (Nat.div k 2) 1))):=rfl
theorem At(v:Option A)(f:Nat)(t:T A)(k:Nat):jb v (f+1) t k=T.casesOn t
 (ja (Nat.beq k 0) (.n v .e .e) (ja (Nat.beq (Nat.mod k 2) 1) (.n none (jb v f .e (Nat.div k 2)) .e) (.n none .e (jb v f .e (Nat.sub (Nat.div k 2) 1)))))
 (fun u l r=>ja (Nat.beq k 0) (.n v l r) (ja (Nat.beq (Nat.mod k 2) 1) (.n u (jb v f l (Nat.div k 2)) r) (.n u l (jb v f r (Nat.sub (Nat.div k 2) 1))))):=rfl
def PR{K:Type}(v:Option K):∀(f:Nat) (t:T K) (k j:Nat),k<f->(jb v f t k).get j=if j=k then v else t.get j:=by
 intro f;induction f with
 |zero=>intro t k j h;omega
 |succ f ih=>
  intro t k j h;have hd:∀n:Nat,Nat.div n 2=n/2:=fun _=>rfl;have M:∀n:Nat,Nat.mod n 2=n%2:=fun _=>rfl;have V:∀n:Nat,Nat.sub n 1=n-1:=fun _=>rfl;have Y:∀n m:Nat,Nat.beq n m=decide (n=m):=fun n m=>by
   cases h:Nat.beq n m with
   |true=>have e:=ib h;simp[e]
   |false=>have e:=x6 h;simp[e]
  rw[At];cases t with
  |e=>
   simp only[];by_cases A:k=0
   .subst A;simp only[Y,oM,rR,uE,yc];by_cases U:j=0<;>simp[U] ;cases decide (j.mod 2=1)<;>rfl
   .simp only[Y,A,jC,l0];by_cases S:Nat.mod k 2=1
    .simp only[S,oM,rR,uE,Y];by_cases Z:j=0
     .subst Z;simp[yc];omega
     .simp only[Z,jC,l0];by_cases O:Nat.mod j 2=1
      .simp only[O,oM,rR];rw[ih _ _ _ (by rw[hd];omega)];rw[hd,hd,M]at *;by_cases e:j=k
       .subst e;simp
       .rw[ad aa,ad e];rfl
      .simp only[O,jC,l0,yc];rw[ad (by rintro rfl;exact O S)]
    .simp only[S,jC,l0,uE,Y];by_cases Z:j=0
     .subst Z;simp[yc];omega
     .simp only[Z,jC,l0];by_cases O:Nat.mod j 2=1
      .simp only[O,oM,rR,yc];rw[ad (by rintro rfl;exact S O)]
      .simp only[O,jC,l0];rw[ih _ _ _ (by rw[hd,V];omega)];rw[hd,hd,V,V];rw[M]at S O;by_cases e:j=k
       .subst e;simp
       .rw[ad aa,ad e];rfl
  |n u l r=>
   simp only[];by_cases A:k=0
   .subst A;simp only[Y,oM,rR,uE];by_cases U:j=0<;>simp[U]
   .simp only[Y,A,jC,l0];by_cases S:Nat.mod k 2=1
    .simp only[S,oM,rR,uE,Y];by_cases Z:j=0
     .subst Z;simp;omega
     .simp only[Z,jC,l0];by_cases O:Nat.mod j 2=1
      .simp only[O,oM,rR];rw[ih _ _ _ (by rw[hd];omega)];rw[M]at S O;rw[hd,hd];by_cases e:j=k
       .subst e;simp
       .rw[ad aa,ad e]
      .simp only[O,jC,l0];rw[ad (by rintro rfl;exact O S)]
    .simp only[S,jC,l0,uE,Y];by_cases Z:j=0
     .subst Z;simp;omega
     .simp only[Z,jC,l0];by_cases O:Nat.mod j 2=1
      .simp only[O,oM,rR];rw[ad (by rintro rfl;exact S O)]
      .simp only[O,jC,l0];rw[ih _ _ _ (by rw[hd,V];omega)];rw[M]at S O;rw[hd,hd,V,V];by_cases e:j=k
       .subst e;simp
       .rw[ad aa,ad e]
def T.get_set{A:Type}(t:T A)(k j:Nat)(v:Option A):(t.set k v).get j=if j=k then v else t.get j:=PR v (k+1) t k j aa
def Au:=@T.get_set
def Hp.get_set(h:Hp)(r j:Nat)(b:HB):(h.set r b).get j=if j=r then some b else h.get j:=Au _ _ _ _
def aO:=@Hp.get_set
def gm(h:Hp)(r j:Nat):(h.az r).get j=if j=r then none else h.get j:=Au _ _ _ _
def aP(h:Hp)(j:Nat)(b:HB):(h.alloc b).get j=if j=h.next then some b else h.get j:=Au _ _ _ _
@[simp] theorem bG (h:Hp) (r:Nat) (b:HB):(h.set r b).next=h.next:=rfl
@[simp] theorem tc (h:Hp) (r:Nat):(h.az r).next=h.next:=rfl
@[simp] theorem br (h:Hp) (b:HB):(h.alloc b).next=h.next+1:=rfl
theorem vX(E:aD)(d t:Nat)(v:AV):aD.at (T.set E d (some v)) t=if t=d then v else E.at t:=by
 unfold aD.at;rw[Au];split<;>rfl
def TR.put{N:Nat}{G:Gh}{E Y:aD}{a:Act}(h:TR N G E a){z:Option Tmp}{c:AV}{v:Value}(U:VR G c v)(J:fo N E z c=some Y):TR N G Y (a.put z v):=by
 cases z with
 |none=>simp[fo]at J;subst J;exact h
 |some d=>
  simp only[fo]at J;split at J
  .rename_i hd;simp only[aH]at J;subst J;have Z:d<N:=by simpa [iH]using hd
   refine⟨by simp[Act.put,h.size],fun t=>?_⟩;rw[vX];simp only[Act.put];by_cases e:t=d
   .subst e;rw[au rfl];simpa [Array.getD,h.size,Z]using U
   .rw[ad e];have:=h.bM t;simpa [ji,uz,Ne.symm e]using this
  .simp at J
def nM(h:w.cell? ⟨b,o,none⟩=some v):b<w.heap.size:=World.block_lt_of_cell? w ⟨b,o,none⟩ h
def R.congr(h:R B H w G)(S:H'.next=H.next)(O:∀r,(G.β r).isSome->H'.get r=H.get r):R B H' w G:=by
 have k:∀r p,G.β r=some p->H'.get r=H.get r:=fun r p hr=>O r (by simp[hr]);exact{
  bY:=h.bY
  di:=fun r p hr=>by rw[S];exact h.di r p hr
  lt:=h.lt
  cells:=fun r b o x cs imm I hr hc=>h.cells r b o x cs imm I hr kO
  cu:=fun r b o x cs imm I hr hc=>h.cu r b o x cs imm I hr kO
  ext:=fun r b o x cs imm I hr hc=>h.ext r b o x cs imm I hr kO
  bL:=fun r b o x cs imm I hr hc=>h.bL r b o x cs imm I hr kO
  bu:=fun r b o x cs imm I hr hc=>h.bu r b o x cs imm I hr kO
  apart:=fun r b o x cs imm I Z b' Y m V M A hr hc C F=>h.apart r b o x cs imm I Z b' Y m V M A hr kO C (by rw[<-k Z _ C];exact F)
  map:=fun r b o x U hr hc=>h.map r b o x U hr kO
  aE:=fun r b o x U Z b' Y m hr hc C K=>h.aE r b o x U Z b' Y m hr kO C (by rw[<-k Z _ C];exact K)
  dr:=h.dr
  val:=h.val
  eb:=h.eb}
def R.az{B:Bs}{H:Hp}{w:World}{G:Gh}(h:R B H w G)(ee:Nat):R B (H.az ee) w G:=by
 have k:∀j b,(H.az ee).get j=some b->H.get j=some b:=fun j b Z=>by
  rw[gm]at Z;split at Z
  .simp at Z
  .exact Z
 exact{
  bY:=h.bY
  di:=h.di
  lt:=h.lt
  cells:=fun r b o x cs imm I hr hc=>h.cells r b o x cs imm I hr (k _ _ hc)
  cu:=fun r b o x cs imm I hr hc=>h.cu r b o x cs imm I hr (k _ _ hc)
  ext:=fun r b o x cs imm I hr hc=>h.ext r b o x cs imm I hr (k _ _ hc)
  bL:=fun r b o x cs imm I hr hc=>h.bL r b o x cs imm I hr (k _ _ hc)
  bu:=fun r b o x cs imm I hr hc=>h.bu r b o x cs imm I hr (k _ _ hc)
  apart:=fun r b o x cs imm I Y b' V m U M A hr hc C F=>h.apart r b o x cs imm I Y b' V m U M A hr (k _ _ hc) C (k _ _ F)
  map:=fun r b o x S hr hc=>h.map r b o x S hr (k _ _ hc)
  aE:=fun r b o x S Y b' V m hr hc C K=>h.aE r b o x S Y b' V m hr (k _ _ hc) C (by
   cases O:(H.az ee).get Y with
   |none=>simp[O]at K
   |some b=>rw[k _ _ O];rfl)
  dr:=h.dr
  val:=h.val
  eb:=h.eb}
def Gh.add(G:Gh)(r:Nat)(p:Nat×Nat×Nat):Gh:={β:=fun k=>if k=r then some p else G.β k,F:=G.F,ρ:=G.ρ}
def rS(G:Gh)(r:Nat)(p:Nat×Nat×Nat):(G.add r p).β r=some p:=by simp[Gh.add]
def Dy{p:Nat×Nat×Nat}(h:∀q,G.β r=some q->False):Ext G (G.add r p):=
 ⟨fun k q o=>by
  simp only[Gh.add];split
  .rename_i e;subst e;exact(h q o).elim
  .exact o,fun _ _ _ h=>h,rfl⟩
def iU.mono{m:Gh}(e:Ext G m)(h:iU G w b o cs):iU m w b o cs:=
 fun j c A=>let ⟨v,Z,Y⟩:=h j c A;⟨v,Z,Y.mono e⟩
def rP.mono{m:Gh}{U:qF}{ms:List MapEntry}(e:Ext G m)(h:rP G U ms):rP m U ms:=
 ⟨h.1,fun i a b V z=>⟨(h.2 i a b V z).1.mono e,(h.2 i a b V z).2.mono e⟩⟩
def He{nx ee:Nat}(h:R B X w G)(hno:∀q,G.β ee=some q->False)(hlt0:ee<X.next)(m:X.get ee=some (.cells cs 0 true))(hnx:nx<=ee)
 (hv:bT G cs vs) (Z:qw) (e:TypeId) :
 Step B nx G w X (w.alloc (.cells (vs++Z).toArray e)) (G.add ee (w.heap.size,0,vs.length+Z.length)):=by
 have S:Ext G (G.add ee (w.heap.size,0,vs.length+Z.length)):=Dy hno;have M:∀k b' J,k<w.heap.size->b'=k->(w.alloc (.cells (vs++Z).toArray e)).cell? ⟨b',J,none⟩=w.cell? ⟨b',J,none⟩:=fun k b' J hk hb=>World.cell?_alloc_lt _ _ _ (by simpa [hb]using hk);have hnew:∀j,(w.alloc (.cells (vs++Z).toArray e)).cell? ⟨w.heap.size,j,none⟩=(vs++Z)[j]?:=fun j=>by
  rw[World.cell?_alloc_new];simp
 have U:∀r p,(G.add ee (w.heap.size,0,vs.length+Z.length)).β r=some p->(r=ee/\p=(w.heap.size,0,vs.length+Z.length))\/(r≠ee/\G.β r=some p):=fun r p hr=>by
  simp only[Gh.add]at hr;split at hr
  .rename_i e;exact .inl ⟨e,by simpa using hr.symm⟩
  .rename_i e;exact .inr ⟨e,hr⟩
 refine⟨?_,S,⟨rfl,rfl,rfl,aI,fun k hk _=>?_⟩,fun r b o x hr=>?_,fun r p hr=>(U r p hr).elim (fun e=>.inr (by rw[e.1];exact hnx)) (fun e=>.inl e.2),aa,fun _ _ _ h=>.inl h⟩
 .exact{
   bY:=by have:=h.bY;simp;omega
   di:=fun r p hr=>by
    rcases U r p hr with⟨rfl,_⟩|⟨_,C⟩
    .exact hlt0
    .exact h.di r p C
   lt:=fun r b o x hr=>by
    rcases U r _ hr with⟨rfl,hp⟩|⟨_,C⟩
    .simp only[gl]at hp;obtain⟨rfl,rfl,rfl⟩:=hp;exact⟨h.bY,aI⟩
    .have:=h.lt r b o x C;exact⟨this.1,ce⟩
   cells:=fun r b o x V imm I hr hc=>by
    rcases U r _ hr with⟨rfl,hp⟩|⟨Y,C⟩
    .simp only[gl]at hp;obtain⟨rfl,rfl,rfl⟩:=hp;rw[m]at hc;simp only[aH,HB.cells.injEq]at hc;obtain⟨rfl,rfl,rfl⟩:=hc;intro j c A;have F:j<cs.length:=(eu.1 A).1;have hjv:j<vs.length:=by have:=hv.1;omega
     refine⟨vs[j],?_,(hv.2 j c _ A (bt hjv)).mono S⟩;rw[bR,hnew,lY hjv,bt hjv]
    .intro j c A;obtain⟨v,z,h2⟩:=h.cells r b o x V imm I C hc j c A;exact⟨v,by rw[M _ _ _ (nM z) rfl];exact z,h2.mono S⟩
   cu:=fun r b o x V imm I hr hc j A F=>by
    rcases U r _ hr with⟨rfl,hp⟩|⟨Y,C⟩
    .rw[m]at hc;simp only[aH,HB.cells.injEq]at hc;obtain⟨rfl,rfl,rfl⟩:=hc;omega
    .exact h.cu r b o x V imm I C hc j A F
   ext:=fun r b o x V imm I hr hc=>by
    rcases U r _ hr with⟨rfl,hp⟩|⟨Y,C⟩
    .simp only[gl]at hp;obtain⟨rfl,rfl,rfl⟩:=hp;rw[m]at hc;simp only[aH,HB.cells.injEq]at hc;obtain⟨rfl,rfl,rfl⟩:=hc;have:=hv.1;simp only[eQ];omega
    .exact h.ext r b o x V imm I C hc
   bL:=fun r b o x V imm I hr hc=>by
    rcases U r _ hr with⟨rfl,hp⟩|⟨Y,C⟩
    .simp only[gl]at hp;obtain⟨rfl,rfl,rfl⟩:=hp;rw[m]at hc;simp only[aH,HB.cells.injEq]at hc;obtain⟨rfl,rfl,rfl⟩:=hc;have:=hv.1;omega
    .exact h.bL r b o x V imm I C hc
   bu:=fun r b o x V imm I hr hc j A F=>by
    rcases U r _ hr with⟨rfl,hp⟩|⟨Y,C⟩
    .simp only[gl]at hp;obtain⟨rfl,rfl,rfl⟩:=hp;rw[m]at hc;simp only[aH,HB.cells.injEq]at hc;obtain⟨rfl,rfl,rfl⟩:=hc;simp only[eQ]at F;refine⟨⟨(vs++Z)[j]' ce,?_⟩,?_,?_⟩
     .rw[bR,hnew,bt]
     .simp
     .cases hf:G.F w.heap.size (0+j)with
      |none=>exact hf
      |some v=>have:=nM (h.dr _ _ _ hf);omega
    .obtain⟨⟨v,z⟩,h2,h3⟩:=h.bu r b o x V imm I C hc j A F;exact⟨⟨v,by rw[M _ _ _ (nM z) rfl];exact z⟩,by rw[World.frozen?_alloc_old _ _ _ (by have:=nM z;simp;omega)];exact h2,h3⟩
   apart:=fun r b o x cs1 imm I r' b' J x' cs2 imm' tip' hr hc C hc' Y j j' A F hj' hjl' he=>by
    rcases U r _ hr with⟨rfl,hp⟩|⟨hn1,O⟩
    .simp only[gl]at hp;obtain⟨rfl,rfl,rfl⟩:=hp;rcases U r' _ C with⟨rfl,hp⟩|⟨hn2,K⟩
     .exact(Y rfl).elim
     .have:=(h.lt r' b' J x' K).2;omega
    .rcases U r' _ C with⟨rfl,hp⟩|⟨hn2,K⟩
     .simp only[gl]at hp;obtain⟨rfl,rfl,rfl⟩:=hp;have:=(h.lt r b o x O).2;omega
     .exact h.apart r b o x cs1 imm I r' b' J x' cs2 imm' tip' O hc K hc' Y j j' A F hj' hjl' he
   map:=fun r b o x es hr hc=>by
    rcases U r _ hr with⟨rfl,hp⟩|⟨Y,C⟩
    .rw[m]at hc;simp at hc
    .obtain⟨ms,clock,z,h2⟩:=h.map r b o x es C hc;refine⟨ms,clock,?_,h2.mono S⟩;rw[Ao _ _ _ (h.lt r b o x C).2];exact z
   aE:=fun r b o x es r' b' J x' hr hc C hs Y=>by
    rcases U r _ hr with⟨rfl,hp⟩|⟨hn1,O⟩
    .rw[m]at hc;simp at hc
    .rcases U r' _ C with⟨rfl,hp⟩|⟨hn2,K⟩
     .simp only[gl]at hp;obtain⟨rfl,rfl,rfl⟩:=hp;have:=(h.lt r b o x O).2;omega
     .exact h.aE r b o x es r' b' J x' O hc K hs Y
   dr:=fun b o v hf=>by
    have:=h.dr b o v hf;rw[M _ _ _ (nM this) rfl];exact this
   val:=h.val
   eb:=h.eb}
 .exact Ao _ _ _ hk
 .rcases U r _ hr with⟨rfl,hp⟩|⟨_,C⟩
  .simp only[gl]at hp;obtain⟨rfl,rfl,rfl⟩:=hp;exact .inr (.inl (aT _))
  .exact .inl C
def Hf{nx ee:Nat}(h:R B X w G)(hno:∀q,G.β ee=some q->False)(hlt0:ee<X.next)(m:X.get ee=some (.map []))(hnx:nx<=ee):
 Step B nx G w X (w.alloc (.map #[] 0)) (G.add ee (w.heap.size,0,0)):=by
 have V:Ext G (G.add ee (w.heap.size,0,0)):=Dy hno;have S:∀k b' M,k<w.heap.size->b'=k->(w.alloc (.map #[] 0)).cell? ⟨b',M,none⟩=w.cell? ⟨b',M,none⟩:=fun k b' M hk hb=>World.cell?_alloc_lt _ _ _ (by simpa [hb]using hk);have U:∀r p,(G.add ee (w.heap.size,0,0)).β r=some p->(r=ee/\p=(w.heap.size,0,0))\/(r≠ee/\G.β r=some p):=fun r p hr=>by
  simp only[Gh.add]at hr;split at hr
  .rename_i e;exact .inl ⟨e,by simpa using hr.symm⟩
  .rename_i e;exact .inr ⟨e,hr⟩
 refine⟨?_,V,⟨rfl,rfl,rfl,aI,fun k hk _=>?_⟩,fun r b o x hr=>?_,fun r p hr=>(U r p hr).elim (fun e=>.inr (by rw[e.1];exact hnx)) (fun e=>.inl e.2),aa,fun _ _ _ h=>.inl h⟩
 .exact{
   bY:=by have:=h.bY;simp;omega
   di:=fun r p hr=>by
    rcases U r p hr with⟨rfl,_⟩|⟨_,C⟩
    .exact hlt0
    .exact h.di r p C
   lt:=fun r b o x hr=>by
    rcases U r _ hr with⟨rfl,hp⟩|⟨_,C⟩
    .simp only[gl]at hp;obtain⟨rfl,rfl,rfl⟩:=hp;exact⟨h.bY,aI⟩
    .have:=h.lt r b o x C;exact⟨this.1,ce⟩
   cells:=fun r b o x Y imm I hr hc=>by
    rcases U r _ hr with⟨rfl,hp⟩|⟨Z,C⟩
    .rw[m]at hc;simp at hc
    .intro j c A;obtain⟨v,J,h2⟩:=h.cells r b o x Y imm I C hc j c A;exact⟨v,by rw[S _ _ _ (nM J) rfl];exact J,h2.mono V⟩
   cu:=fun r b o x Y imm I hr hc j A F=>by
    rcases U r _ hr with⟨rfl,hp⟩|⟨Z,C⟩
    .rw[m]at hc;simp at hc
    .exact h.cu r b o x Y imm I C hc j A F
   ext:=fun r b o x Y imm I hr hc=>by
    rcases U r _ hr with⟨rfl,hp⟩|⟨Z,C⟩
    .rw[m]at hc;simp at hc
    .exact h.ext r b o x Y imm I C hc
   bL:=fun r b o x Y imm I hr hc=>by
    rcases U r _ hr with⟨rfl,hp⟩|⟨Z,C⟩
    .rw[m]at hc;simp at hc
    .exact h.bL r b o x Y imm I C hc
   bu:=fun r b o x Y imm I hr hc j A F=>by
    rcases U r _ hr with⟨rfl,hp⟩|⟨Z,C⟩
    .rw[m]at hc;simp at hc
    .obtain⟨⟨v,J⟩,h2,h3⟩:=h.bu r b o x Y imm I C hc j A F;exact⟨⟨v,by rw[S _ _ _ (nM J) rfl];exact J⟩,by rw[World.frozen?_alloc_old _ _ _ (by have:=nM J;simp;omega)];exact h2,h3⟩
   apart:=fun r b o x cs1 imm I z b' M x' cs2 imm' tip' hr hc C hc' Z j j' A F hj' hjl' he=>by
    rcases U r _ hr with⟨rfl,hp⟩|⟨hn1,O⟩
    .rw[m]at hc;simp at hc
    .rcases U z _ C with⟨rfl,hp⟩|⟨hn2,K⟩
     .rw[m]at hc';simp at hc'
     .exact h.apart r b o x cs1 imm I z b' M x' cs2 imm' tip' O hc K hc' Z j j' A F hj' hjl' he
   map:=fun r b o x es hr hc=>by
    rcases U r _ hr with⟨rfl,hp⟩|⟨Z,C⟩
    .simp only[gl]at hp;obtain⟨rfl,rfl,rfl⟩:=hp;rw[m]at hc;simp only[aH,HB.map.injEq]at hc;subst hc;exact⟨#[],0,by show(w.heap.push _)[w.heap.size]?=_;simp,rfl,aI⟩
    .obtain⟨ms,clock,J,h2⟩:=h.map r b o x es C hc;refine⟨ms,clock,?_,h2.mono V⟩;rw[Ao _ _ _ (h.lt r b o x C).2];exact J
   aE:=fun r b o x es z b' M x' hr hc C hs Z=>by
    rcases U r _ hr with⟨rfl,hp⟩|⟨hn1,O⟩
    .simp only[gl]at hp;obtain⟨rfl,rfl,rfl⟩:=hp;rcases U z _ C with⟨rfl,hp⟩|⟨hn2,K⟩
     .exact(Z rfl).elim
     .have:=(h.lt z b' M x' K).2;omega
    .rcases U z _ C with⟨rfl,hp⟩|⟨hn2,K⟩
     .simp only[gl]at hp;obtain⟨rfl,rfl,rfl⟩:=hp;have:=(h.lt r b o x O).2;omega
     .exact h.aE r b o x es z b' M x' O hc K hs Z
   dr:=fun b o v hf=>by
    have:=h.dr b o v hf;rw[S _ _ _ (nM this) rfl];exact this
   val:=h.val
   eb:=h.eb}
 .exact Ao _ _ _ hk
 .rcases U r _ hr with⟨rfl,hp⟩|⟨_,C⟩
  .simp only[gl]at hp;obtain⟨rfl,rfl,rfl⟩:=hp;exact .inr (.inl (aT _))
  .exact .inl C
def R.more(h:R B H w G)(S:H.next<=X.next)(O:∀r,r<H.next->X.get r=H.get r):R B X w G:=by
 have k:∀r p,G.β r=some p->X.get r=H.get r:=fun r p hr=>O r (h.di r p hr);exact{
  bY:=h.bY
  di:=fun r p hr=>fO (h.di r p hr) S
  lt:=h.lt
  cells:=fun r b o x cs imm I hr hc=>h.cells r b o x cs imm I hr kO
  cu:=fun r b o x cs imm I hr hc=>h.cu r b o x cs imm I hr kO
  ext:=fun r b o x cs imm I hr hc=>h.ext r b o x cs imm I hr kO
  bL:=fun r b o x cs imm I hr hc=>h.bL r b o x cs imm I hr kO
  bu:=fun r b o x cs imm I hr hc=>h.bu r b o x cs imm I hr kO
  apart:=fun r b o x cs imm I Z b' Y m V M A hr hc C F=>h.apart r b o x cs imm I Z b' Y m V M A hr kO C (by rw[<-k Z _ C];exact F)
  map:=fun r b o x U hr hc=>h.map r b o x U hr kO
  aE:=fun r b o x U Z b' Y m hr hc C K=>h.aE r b o x U Z b' Y m hr kO C (by rw[<-k Z _ C];exact K)
  dr:=h.dr
  val:=h.val
  eb:=h.eb}
def R.alloc(h:R B H w G)(o:HB):R B (H.alloc o) w G:=
 h.more (eT _) (fun r hr=>fX)
def Av(h:R B H w G)(U:bT G cs vs)(o:qw)(e:TypeId):
 Step B H.next G w (H.alloc (.cells cs 0 true)) (w.alloc (.cells (vs++o).toArray e)) (G.add H.next (w.heap.size,0,vs.length+o.length)):=
 He (h.alloc _) (fun q F=>Dp) aI fN (aT _) U o e
def PS(h:R B H w G):
 Step B H.next G w (H.alloc (.map [])) (w.alloc (.map #[] 0)) (G.add H.next (w.heap.size,0,0)):=
 Hf (h.alloc _) (fun q F=>Dp) aI fN (aT _)
inductive zdE (G:Gh):HB->Obj->Nat->Prop
 |cells (cs:qm) (vs spare:qw) (e:TypeId) (hv:bT G cs vs):zdE G (.cells cs 0 true) (.cells (vs++spare).toArray e) (vs.length+spare.length)
 |map:zdE G (.map []) (.map #[] 0) 0
def Hg{Y ee:Nat}{Z:HB}{m:Obj}{ext:Nat}(h:R B X w G)(O:∀q,G.β ee=some q->False)(j:ee<X.next)(V:X.get ee=some Z)(C:Y<=ee)(M:zdE G Z m ext):
 Step B Y G w X (w.alloc m) (G.add ee (w.heap.size,0,ext)):=by
 cases M with
 |cells cs vs o e U=>exact He h O j V C U o e
 |map=>exact Hf h O j V C
def oO(P:Program)(G:Gh)(w:World)(s:Sem A)(f:Value->A)(c:AV)(H H':Hp):Prop:=
 ∃o m ext v,H'=H.alloc o/\s.run P w=.ok (f v) (w.alloc m)/\zdE G o m ext/\∀Z:Gh,Z.β H.next=some (w.heap.size,0,ext)->VR Z c v
def oO.sim(h:R B H w G)(M:oO P G w s id c H H'):∃v A m,s.run P w=.ok v A/\VR m c v/\Step B H.next G w H' A m:=by
 obtain⟨o,Z,ext,v,rfl,j,Y,V⟩:=M;exact⟨v,_,_,j,V _ (rS _ _ _),Hg (h.alloc _) (fun q F=>Dp) aI fN (aT _) Y⟩
def oO.next(M:oO P G w s id c H H'):oO P G w (do pure (.value (<-s)):Sem Next) Next.value c H H':=by
 obtain⟨o,m,ext,v,I,j,Z,A⟩:=M;exact⟨o,m,ext,v,I,by simp[j],Z,A⟩
def PT{V M:Nat}(h:b=V->o≠M):(⟨b,o,none⟩:Addr)≠⟨V,M,none⟩:=fun e=>by
 simp only[Addr.mk.injEq]at e;exact h e.1 e.2.1
theorem PU(h:R B H w G){x:Nat}{cs':qm}{imm:Nat}{tip:Bool}(hr:G.β r=some (b,o,x))(hc:H.get r=some (.cells cs imm tip))
  (hj:imm<=j) (hjl:j<eQ x cs tip) 
 (hcs:∀(i:Nat) c,cs'[i]?=some c->(i=j/\VR G c v)\/(i≠j/\cs[i]?=some c)) (hl:cs'.length<=eQ x cs tip) (hl':tip=false->cs'.length=cs.length) :
 Step B H.next G w (H.set r (.cells cs' imm tip)) (w.setCell ⟨b,o+j,none⟩ v) G:=by
 obtain⟨⟨u,hu⟩,hfz,hF⟩:=h.bu r b o x cs imm tip hr hc j hj hjl;have hsame:(w.setCell ⟨b,o+j,none⟩ v).cell? ⟨b,o+j,none⟩=some v:=World.cell?_setCell_same _ _ _ hu;have U:∀b' I,(b'=b->I≠o+j)->(w.setCell ⟨b,o+j,none⟩ v).cell? ⟨b',I,none⟩=w.cell? ⟨b',I,none⟩:=fun b' I hne=>
  World.cell?_setCell_other _ _ _ _ (PT fun e e'=>hne e.symm e'.symm)
 have A:eQ x cs' tip=eQ x cs tip:=by
  cases tip with
  |true=>rfl
  |false=>exact hl' rfl
 have F:∀k,k≠r->(H.set r (.cells cs' imm tip)).get k=H.get k:=fun k hk=>by rw[aO,ad hk]
 have m:(H.set r (.cells cs' imm tip)).get r=some (.cells cs' imm tip):=iG;have hkeep:∀b' I v',G.F b' I=some v'->(b'=b->I≠o+j):=fun b' I v' hf e e'=>by subst e;subst e';rw[hF]at hf;simp at hf
 have hcell:∀b' I,(∃v',w.cell? ⟨b',I,none⟩=some v')->∃v',(w.setCell ⟨b,o+j,none⟩ v).cell? ⟨b',I,none⟩=some v':=fun b' I ⟨v',hv'⟩=>by
  by_cases e:b'=b/\I=o+j
  .obtain⟨rfl,rfl⟩:=e;exact⟨v,hsame⟩
  .exact⟨v',by rw[U b' I (fun e1 e2=>e ⟨e1,e2⟩)];exact hv'⟩
 refine⟨?_,vW _,⟨rfl,rfl,rfl,aI,fun k hk hn=>?_⟩,uD _ _,fun _ _ h=>.inl h,aT _,fun _ _ _ h=>.inl h⟩
 .exact{
   bY:=by have:=h.bY;simpa using this
   di:=h.di
   lt:=fun r b o x hr=>by have:=h.lt r b o x hr;simpa using this
   cells:=fun aw S J C K Z Y V O=>by
    by_cases e:aw=r
    .subst e;rw[hr]at V;simp only[cC]at V;obtain⟨rfl,rfl,rfl⟩:=V;rw[m]at O;simp only[aH,HB.cells.injEq]at O;obtain⟨rfl,rfl,rfl⟩:=O;intro i c hi;rcases hcs i c hi with⟨rfl,hv⟩|⟨hne,hi'⟩
     .exact⟨v,hsame,hv⟩
     .obtain⟨v',h1,h2⟩:=h.cells aw b o x cs imm tip hr hc i c hi';exact⟨v',by rw[U _ _ (fun _=>aa)];exact h1,h2⟩
    .rw[F aw e]at O;intro i c hi;obtain⟨v',h1,h2⟩:=h.cells aw S J C K Z Y V O i c hi;refine⟨v',?_,h2⟩;rw[U]
     .exact h1
     .have z:i<K.length:=(eu.1 hi).1;have hex:=h.ext aw S J C K Z Y V O;by_cases hi1:Z<=i
      .exact h.apart aw S J C K Z Y r b o x cs imm tip V O hr hc e i j hi1 aa hj hjl
      .obtain⟨u',hu'⟩:=h.cu aw S J C K Z Y V O i aa z;exact hkeep _ _ _ hu'
   cu:=fun aw S J C K Z Y V O i hi z=>by
    by_cases e:aw=r
    .subst e;rw[hr]at V;simp only[cC]at V;obtain⟨rfl,rfl,rfl⟩:=V;rw[m]at O;simp only[aH,HB.cells.injEq]at O;obtain⟨rfl,rfl,rfl⟩:=O;rcases hcs i _ (bt z)with⟨rfl,_⟩|⟨_,hi'⟩
     .omega
     .exact h.cu aw b o x cs imm tip hr hc i hi (eu.1 hi').1
    .rw[F aw e]at O;exact h.cu aw S J C K Z Y V O i hi z
   ext:=fun aw S J C K Z Y V O=>by
    by_cases e:aw=r
    .subst e;rw[hr]at V;simp only[cC]at V;obtain⟨rfl,rfl,rfl⟩:=V;rw[m]at O;simp only[aH,HB.cells.injEq]at O;obtain⟨rfl,rfl,rfl⟩:=O;rw[A];exact hl
    .rw[F aw e]at O;exact h.ext aw S J C K Z Y V O
   bL:=fun aw S J C K Z Y V O=>by
    by_cases e:aw=r
    .subst e;rw[hr]at V;simp only[cC]at V;obtain⟨rfl,rfl,rfl⟩:=V;rw[m]at O;simp only[aH,HB.cells.injEq]at O;obtain⟨rfl,rfl,rfl⟩:=O;rcases Bool.eq_false_or_eq_true tip with e1|e1
     .subst e1;exact hl
     .rw[hl' e1];exact h.bL _ _ _ _ _ _ _ hr hc
    .rw[F aw e]at O;exact h.bL aw S J C K Z Y V O
   bu:=fun aw S J C K Z Y V O i hi z=>by
    by_cases e:aw=r
    .subst e;rw[hr]at V;simp only[cC]at V;obtain⟨rfl,rfl,rfl⟩:=V;rw[m]at O;simp only[aH,HB.cells.injEq]at O;obtain⟨rfl,rfl,rfl⟩:=O;rw[A]at z;obtain⟨h1,h2,h3⟩:=h.bu aw b o x cs imm tip hr hc i hi z;exact⟨hcell _ _ h1,by rw[World.frozen?_setCell];exact h2,h3⟩
    .rw[F aw e]at O;obtain⟨h1,h2,h3⟩:=h.bu aw S J C K Z Y V O i hi z;exact⟨hcell _ _ h1,by rw[World.frozen?_setCell];exact h2,h3⟩
   apart:=fun aw S J C K Z Y a1 b2 o2 x2 cs2 imm2 tip2 V O hr2 hc2 hne i i' hi z hi' hil'=>by
    have key:∀k bk ok xk csk immk M,G.β k=some (bk,ok,xk)->(H.set r (.cells cs' imm tip)).get k=some (.cells csk immk M) ->
     ∃cs0,H.get k=some (.cells cs0 immk M)/\eQ xk cs0 M=eQ xk csk M:=fun k bk ok xk csk immk M hk hck=>by
     by_cases e:k=r
     .subst e;rw[hr]at hk;simp only[cC]at hk;obtain⟨rfl,rfl,rfl⟩:=hk;rw[m]at hck;simp only[aH,HB.cells.injEq]at hck;obtain⟨rfl,rfl,rfl⟩:=hck;exact⟨cs,hc,A.symm⟩
     .rw[F k e]at hck;exact⟨csk,hck,rfl⟩
    obtain⟨c1,g1,e1⟩:=key aw S J C K Z Y V O;obtain⟨c2,g2,e2⟩:=key a1 b2 o2 x2 cs2 imm2 tip2 hr2 hc2;exact h.apart aw S J C c1 Z Y a1 b2 o2 x2 c2 imm2 tip2 V g1 hr2 g2 hne i i' hi aa hi' aa
   map:=fun aw S J C es V O=>by
    by_cases e:aw=r
    .subst e;rw[m]at O;simp at O
    .rw[F aw e]at O;obtain⟨ms,clock,h1,h2⟩:=h.map aw S J C es V O;refine⟨ms,clock,?_,h2⟩;have hb:S≠b:=fun eb=>by
      subst eb;unfold World.cell? at hu;rw[h1]at hu;simp at hu
     rw[Below.heap_setCell _ _ _ _ hb];exact h1
   aE:=fun aw S J C es a1 b2 o2 x2 V O hr2 hs hne=>by
    by_cases e:aw=r
    .subst e;rw[m]at O;simp at O
    .rw[F aw e]at O;refine h.aE aw S J C es a1 b2 o2 x2 V O hr2 ?_ hne;by_cases e2:a1=r
     .subst e2;rw[hc];rfl
     .rw[F a1 e2]at hs;exact hs
   dr:=fun b' I v' hf=>by rw[U _ _ (hkeep _ _ _ hf)];exact h.dr _ _ _ hf
   val:=h.val
   eb:=h.eb}
 .exact Below.heap_setCell _ _ _ _ (fun e=>hn r b o x hr e.symm)
def PV(P:Program)(h:R B H w G){x:Nat}{imm:Nat}{tip:Bool}(hr:G.β r=some (b,o,x))(Y:H.get r=some (.cells cs imm tip))
  (A:imm<=j) (F:j<eQ x cs tip)  (K:v.oneCell'=true) :
 (store ⟨b,o+j,none⟩ v).run P w=.ok () (w.setCell ⟨b,o+j,none⟩ v):=by
 obtain⟨⟨u,V⟩,Z,_⟩:=h.bu r b o x cs imm tip hr Y j A F;rw[run_store P w _ v _ K,V];simp[Z]
def PW(cs:qm)(off:Nat)(c:AV)(z:qm)(h:off<=cs.length):splice cs off (c::z)=splice (splice cs off [c]) (off+1) z:=by
 unfold splice;have j:(List.take off cs++[c]++List.drop (off+[c].length) cs).take (off+1)=List.take off cs++[c]:=by
  rw[Ds ce,iR ce]
 have m:(List.take off cs++[c]++List.drop (off+[c].length) cs).drop (off+1+z.length)=List.drop (off+(z.length+1)) cs:=by
  rw[List.drop_append,oN ce];simp only[lA,mF,nL,Ap,jO]
  congr 1
  omega
 rw[j,m];simp
def PX(cs:qm)(off:Nat):splice cs off []=cs:=by simp[splice]
def PY(cs:qm)(off:Nat)(z:qm)(h:off+z.length<=cs.length):(splice cs off z).length=cs.length:=by simp[splice];omega
def PZ(cs:qm)(off:Nat)(z:qm)(h:off<=cs.length):(splice cs off z).length=max cs.length (off+z.length):=by simp[splice];omega
def Hh(cs z:qm):splice cs cs.length z=cs++z:=by simp[splice]
def splice_one(c:AV)(A:j<=cs.length){d:AV}(h:(splice cs j [c])[i]?=some d):(i=j/\d=c)\/(i≠j/\cs[i]?=some d):=by
 unfold splice at h;by_cases F:i<j
 .rw[kP,lY ce,rN,au F]at h;exact .inr ⟨aa,h⟩
 .by_cases e:i=j
  .subst e;rw[kP,nJ ce]at h;have Z:i-(List.take i cs).length=0:=ce;rw[Z]at h;simp at h;exact .inl ⟨rfl,h.symm⟩
  .rw[nJ ce]at h;rw[rO]at h;refine .inr ⟨e,?_⟩;rw[<-h]
   congr 1
   simp;omega
def mI(b o i:Nat):(⟨b,o,none⟩:Addr).add i=⟨b,o+i,none⟩:=by
 unfold Addr.add;split
 .rename_i e;subst e;rfl
 .rfl
def Step.congr{Z:Nat}{m:Gh}(h:Step B Z G w H w' m)(I:H'.next=H.next)(C:∀r,(m.β r).isSome->H'.get r=H.get r):Step B Z G w H' w' m:=
 ⟨h.r.congr I C,h.ext,h.fr,h.new,h.dn,by rw[I];exact h.mono,h.ef⟩
theorem Dz(P:Program){x:Nat}{imm:Nat}{tip:Bool}(hr:G.β r=some (b,o,x))(off:Nat):∀(z:qm) (vs:qw) (cs:qm) (i:Nat) (H:Hp) (w:World),R B H w G ->
 H.get r=some (.cells cs imm tip)->bT G z vs->(∀v∈vs,v.oneCell'=true)->imm<=off+i->off+i<=cs.length->off+i+z.length<=eQ x cs tip->(tip=false->off+i+z.length<=cs.length) ->
 ∃O,(storeCells ⟨b,o+off,none⟩ vs i).run P w=.ok () O/\Step B H.next G w (H.set r (.cells (splice cs (off+i) z) imm tip)) O G:=by
 intro z;induction z with
 |nil=>
  intro vs cs i H w Y hc J K F C S _;have Z:vs=[]:=by have:=J.1;simpa using this.symm
  subst Z;refine⟨w,rfl,(jD Y).congr rfl fun k _=>?_⟩;rw[aO,PX];split
  .rename_i e;subst e;rw[hc]
  .rfl
 |cons c z ih=>
  intro vs cs i H w Y hc J K F C S m;cases vs with
  |nil=>have:=J.1;simp at this
  |cons v vs=>
   obtain⟨hv1,Z⟩:=J.aR;simp only[gN]at S m;have M:(splice cs (off+i) [c]).length=max cs.length (off+i+1):=PZ _ _ _ C;have hext:=Y.ext r b o x cs imm tip hr hc;have V:=PU Y hr hc (j:=off+i) (cs':=splice cs (off+i) [c]) (v:=v) F aa
    (fun k d hk=>by
      rcases splice_one c C hk with⟨e1,e2⟩|h2
      .subst e2;exact .inl ⟨e1,hv1⟩
      .exact .inr h2)
    (by rw[M];cases tip with
        |true=>simp only[eQ]at *;omega
        |false=>have:=m rfl;simp only[eQ]at *;omega)
    (fun I=>by have:=m I;rw[M];omega)
   have U:=PV P Y hr hc (j:=off+i) F aa (v:=v) (K v aI);have hg1:(H.set r (.cells (splice cs (off+i) [c]) imm tip)).get r=some (.cells (splice cs (off+i) [c]) imm tip):=iG;have A:eQ x (splice cs (off+i) [c]) tip=eQ x cs tip:=by
    cases tip with
    |true=>rfl
    |false=>have:=m rfl;simp only[eQ];omega
   obtain⟨O,hw',hs'⟩:=ih vs (splice cs (off+i) [c]) (i+1) _ _ V.r hg1 Z (fun u hu=>K u (by simp[hu])) aa jB (by rw[A];omega) (fun I=>by have:=m I;rw[M];omega);refine⟨O,?_,(V.trans hs').congr rfl fun k _=>?_⟩
   .simp only[storeCells,eY];rw[mI,gU,U];exact hw'
   .rw[aO,aO,aO,PW _ _ _ _ C];split
    .rfl
    .rfl
def Hi(h:R B H w G){x:Nat}{imm:Nat}(hr:G.β r=some (b,o,x))(hc:H.get r=some (.cells cs imm true)){off:Nat}(hoff:off<=cs.length):
 Step B H.next G w ((H.az r).alloc (.cells (cs.drop off) (imm-off) true)) w (G.add H.next (b,o+off,x-off)):=by
 have hno:∀q,G.β H.next=some q->False:=fun q hq=>by have:=h.di _ _ hq;omega
 have hext:Ext G (G.add H.next (b,o+off,x-off)):=Dy hno;have hrn:r≠H.next:=fun e=>by subst e;exact hno _ hr
 have U:∀k p,(G.add H.next (b,o+off,x-off)).β k=some p->(k=H.next/\p=(b,o+off,x-off))\/(k≠H.next/\G.β k=some p):=fun k p S=>by
  simp only[Gh.add]at S;split at S
  .rename_i e;exact .inl ⟨e,by simpa using S.symm⟩
  .rename_i e;exact .inr ⟨e,S⟩
 have F:∀k q,k≠H.next->((H.az r).alloc (.cells (cs.drop off) (imm-off) true)).get k=some q->k≠r/\H.get k=some q:=fun k q S hq=>by
  rw[aP,tc,ad S,gm]at hq;split at hq
  .simp at hq
  .rename_i e;exact⟨e,hq⟩
 have m:((H.az r).alloc (.cells (cs.drop off) (imm-off) true)).get H.next=some (.cells (cs.drop off) (imm-off) true):=by rw[aP,tc,au rfl]
 have hlen:=h.ext r b o x cs imm true hr hc;simp only[eQ]at hlen;refine⟨?_,hext,ya _ _,fun k b' o' x' S=>?_,fun k p S=>(U k p S).elim (fun e=>.inr (by rw[e.1];exact aT _)) (fun e=>.inl e.2),aI,fun _ _ _ h=>.inl h⟩
 .exact{
   bY:=h.bY
   di:=fun k p S=>by
    rcases U k p S with⟨rfl,_⟩|⟨_,Z⟩
    .simp
    .have:=h.di k p Z;simp;omega
   lt:=fun k b' o' x' S=>by
    rcases U k _ S with⟨rfl,hp⟩|⟨_,Z⟩
    .simp only[gl]at hp;obtain⟨rfl,rfl,rfl⟩:=hp;exact h.lt r _ _ _ hr
    .exact h.lt k b' o' x' Z
   cells:=fun k b' o' x' C M A S Y=>by
    rcases U k _ S with⟨rfl,hp⟩|⟨V,Z⟩
    .simp only[gl]at hp;obtain⟨rfl,rfl,rfl⟩:=hp;rw[m]at Y;simp only[aH,HB.cells.injEq]at Y;obtain⟨rfl,rfl,rfl⟩:=Y;intro j c hj;rw[rO]at hj;obtain⟨v,h1,h2⟩:=h.cells r _ _ _ _ _ _ hr hc (off+j) c hj;exact⟨v,by rw[gU];exact h1,h2.mono hext⟩
    .obtain⟨_,z⟩:=F k _ V Y;exact(h.cells k b' o' x' C M A Z z).mono hext
   cu:=fun k b' o' x' C M A S Y j hj hjl=>by
    rcases U k _ S with⟨rfl,hp⟩|⟨V,Z⟩
    .simp only[gl]at hp;obtain⟨rfl,rfl,rfl⟩:=hp;rw[m]at Y;simp only[aH,HB.cells.injEq]at Y;obtain⟨rfl,rfl,rfl⟩:=Y;rw[jP]at hjl;rw[gU];exact h.cu r _ _ _ _ _ _ hr hc (off+j) aa aa
    .obtain⟨_,z⟩:=F k _ V Y;exact h.cu k b' o' x' C M A Z z j hj hjl
   ext:=fun k b' o' x' C M A S Y=>by
    rcases U k _ S with⟨rfl,hp⟩|⟨V,Z⟩
    .simp only[gl]at hp;obtain⟨rfl,rfl,rfl⟩:=hp;rw[m]at Y;simp only[aH,HB.cells.injEq]at Y;obtain⟨rfl,rfl,rfl⟩:=Y;simp only[eQ,jP];omega
    .obtain⟨_,z⟩:=F k _ V Y;exact h.ext k b' o' x' C M A Z z
   bL:=fun k b' o' x' C M A S Y=>by
    rcases U k _ S with⟨rfl,hp⟩|⟨V,Z⟩
    .simp only[gl]at hp;obtain⟨rfl,rfl,rfl⟩:=hp;rw[m]at Y;simp only[aH,HB.cells.injEq]at Y;obtain⟨rfl,rfl,rfl⟩:=Y;simp only[jP];omega
    .obtain⟨_,z⟩:=F k _ V Y;exact h.bL k b' o' x' C M A Z z
   bu:=fun k b' o' x' C M A S Y j hj hjl=>by
    rcases U k _ S with⟨rfl,hp⟩|⟨V,Z⟩
    .simp only[gl]at hp;obtain⟨rfl,rfl,rfl⟩:=hp;rw[m]at Y;simp only[aH,HB.cells.injEq]at Y;obtain⟨rfl,rfl,rfl⟩:=Y;simp only[eQ]at hjl;rw[gU];exact h.bu r _ _ _ _ _ _ hr hc (off+j) aa x5
    .obtain⟨_,z⟩:=F k _ V Y;exact h.bu k b' o' x' C M A Z z j hj hjl
   apart:=fun k1 b1 o1 x1 cs1 imm1 tip1 k2 b2 o2 x2 cs2 imm2 tip2 hk1 O hk2 hc2 V j1 j2 hj1 hl1 hj2 hl2 he=>by
    rcases U k1 _ hk1 with⟨rfl,hp⟩|⟨hn1,J⟩
    .simp only[gl]at hp;obtain⟨rfl,rfl,rfl⟩:=hp;rw[m]at O;simp only[aH,HB.cells.injEq]at O;obtain⟨rfl,rfl,rfl⟩:=O;simp only[eQ]at hl1;rcases U k2 _ hk2 with⟨rfl,hp⟩|⟨hn2,I⟩
     .exact(V rfl).elim
     .obtain⟨hr2,hc2'⟩:=F k2 _ hn2 hc2;rw[gU];exact h.apart r _ _ _ _ _ _ k2 b2 o2 x2 cs2 imm2 tip2 hr hc I hc2' (Ne.symm hr2) (off+j1) j2 aa x5 hj2 hl2 he
    .obtain⟨hr1,K⟩:=F k1 _ hn1 O;rcases U k2 _ hk2 with⟨rfl,hp⟩|⟨hn2,I⟩
     .simp only[gl]at hp;obtain⟨rfl,rfl,rfl⟩:=hp;rw[m]at hc2;simp only[aH,HB.cells.injEq]at hc2;obtain⟨rfl,rfl,rfl⟩:=hc2;simp only[eQ]at hl2;rw[gU];exact h.apart k1 b1 o1 x1 cs1 imm1 tip1 r _ _ _ _ _ _ J K hr hc hr1 j1 (off+j2) hj1 hl1 aa x5 he
     .obtain⟨hr2,hc2'⟩:=F k2 _ hn2 hc2;exact h.apart k1 b1 o1 x1 cs1 imm1 tip1 k2 b2 o2 x2 cs2 imm2 tip2 J K I hc2' V j1 j2 hj1 hl1 hj2 hl2 he
   map:=fun k b' o' x' es S Y=>by
    rcases U k _ S with⟨rfl,hp⟩|⟨V,Z⟩
    .rw[m]at Y;simp at Y
    .obtain⟨_,z⟩:=F k _ V Y;obtain⟨ms,clock,h1,h2⟩:=h.map k b' o' x' es Z z;exact⟨ms,clock,h1,h2.mono hext⟩
   aE:=fun k1 b1 o1 x1 es k2 b2 o2 x2 hk1 O hk2 hs V=>by
    rcases U k1 _ hk1 with⟨rfl,hp⟩|⟨hn1,J⟩
    .rw[m]at O;simp at O
    .obtain⟨hr1,K⟩:=F k1 _ hn1 O;rcases U k2 _ hk2 with⟨rfl,hp⟩|⟨hn2,I⟩
     .simp only[gl]at hp;obtain⟨rfl,rfl,rfl⟩:=hp;exact h.aE k1 b1 o1 x1 es r _ _ _ J K hr (by rw[hc];rfl) hr1
     .cases hh:((H.az r).alloc (.cells (cs.drop off) (imm-off) true)).get k2 with
      |none=>simp[hh]at hs
      |some q=>
       obtain⟨_,hq⟩:=F k2 q hn2 hh;exact h.aE k1 b1 o1 x1 es k2 b2 o2 x2 J K I (by rw[hq];rfl) V
   dr:=h.dr
   val:=h.val
   eb:=h.eb}
 .rcases U k _ S with⟨rfl,hp⟩|⟨_,Z⟩
  .simp only[gl]at hp;obtain⟨rfl,rfl,rfl⟩:=hp;exact .inr (.inr ⟨r,o,x,hr⟩)
  .exact .inl Z
def Gh.ao(G:Gh)(w:World)(b o n:Nat):Gh:={β:=G.β,F:=fun b' M=>match G.F b' M with
 |some v=>some v
 |none=>if b'=b/\o<=M/\M<o+n then w.cell? ⟨b',M,none⟩else none,ρ:=G.ρ}
def P1(G:Gh)(w:World)(b o n:Nat):Ext G (G.ao w b o n):=⟨fun _ _ h=>h,fun b' M v h=>by simp[Gh.ao,h],rfl⟩
def yd(h:R B H w G){x:Nat}{imm:Nat}{tip:Bool}(hr:G.β r=some (b,o,x))(hc:H.get r=some (.cells cs imm tip)){n:Nat}(himm:imm<=n)(hn:n<=cs.length)(A:Bool)(ht:A=true->tip=true):
 Step B H.next G w (H.set r (.cells cs n A)) w (G.ao w b o n):=by
 have K:Ext G (G.ao w b o n):=P1 _ _ _ _ _;have F:∀k,k≠r->(H.set r (.cells cs n A)).get k=H.get k:=fun k S=>by rw[aO,ad S]
 have m:(H.set r (.cells cs n A)).get r=some (.cells cs n A):=iG;have hex:=h.ext r b o x cs imm tip hr hc;have hreach:∀j,n<=j->j<eQ x cs A->j<eQ x cs tip:=fun j hj U=>by
  cases A with
  |true=>rw[ht rfl];exact U
  |false=>simp only[eQ]at U;omega
 have hF:∀b' M v,(G.ao w b o n).F b' M=some v->w.cell? ⟨b',M,none⟩=some v:=fun b' M v hf=>by
  simp only[Gh.ao]at hf;split at hf
  .rename_i u hu;simp only[aH]at hf;subst hf;exact h.dr _ _ _ hu
  .split at hf
   .exact hf
   .simp at hf
 have hFin:∀j,j<n->∃v,(G.ao w b o n).F b (o+j)=some v:=fun j hj=>by
  obtain⟨v,h1,_⟩:=h.cells r b o x cs imm tip hr hc j _ (bt aa);simp only[Gh.ao];split
  .rename_i u _;exact⟨u,rfl⟩
  .rw[au ⟨pH,aa,aa⟩];exact⟨v,h1⟩
 have hFout:∀b' M,G.F b' M=none->(b'=b->M<o\/o+n<=M)->(G.ao w b o n).F b' M=none:=fun b' M hf hne=>by
  simp only[Gh.ao,hf];rw[ad];rintro⟨e1,e2,e3⟩;have:=hne e1;omega
 refine⟨?_,K,ya _ _,uD _ _,fun _ _ h=>.inl h,aT _,fun b' M v' hv=>?_⟩;rotate_left
 .simp only[Gh.ao]at hv;split at hv
  .rename_i v'' hF';exact .inl (by rw[hF'];exact hv)
  .split at hv
   .rename_i hc';exact .inr (by rw[hc'.1];exact(h.lt r b o x hr).1)
   .simp at hv
 exact{
  bY:=h.bY
  di:=h.di
  lt:=h.lt
  cells:=fun k b' M O C V Z S Y=>by
   by_cases e:k=r
   .subst e;have z:G.β k=some (b',M,O):=S;rw[hr]at z;simp only[cC]at z;obtain⟨rfl,rfl,rfl⟩:=z;rw[m]at Y;simp only[aH,HB.cells.injEq]at Y;obtain⟨rfl,rfl,rfl⟩:=Y;exact(h.cells k _ _ _ _ _ _ hr hc).mono K
   .rw[F k e]at Y;exact(h.cells k b' M O C V Z S Y).mono K
  cu:=fun k b' M O C V Z S Y j hj U=>by
   by_cases e:k=r
   .subst e;have z:G.β k=some (b',M,O):=S;rw[hr]at z;simp only[cC]at z;obtain⟨rfl,rfl,rfl⟩:=z;rw[m]at Y;simp only[aH,HB.cells.injEq]at Y;obtain⟨rfl,rfl,rfl⟩:=Y;exact hFin j hj
   .rw[F k e]at Y;obtain⟨v,hv⟩:=h.cu k b' M O C V Z S Y j hj U;exact⟨v,K.F _ _ _ hv⟩
  ext:=fun k b' M O C V Z S Y=>by
   by_cases e:k=r
   .subst e;have z:G.β k=some (b',M,O):=S;rw[hr]at z;simp only[cC]at z;obtain⟨rfl,rfl,rfl⟩:=z;rw[m]at Y;simp only[aH,HB.cells.injEq]at Y;obtain⟨rfl,rfl,rfl⟩:=Y;cases A with
    |true=>rw[ht rfl]at hex;exact hex
    |false=>exact aT _
   .rw[F k e]at Y;exact h.ext k b' M O C V Z S Y
  bL:=fun k b' M O C V Z S Y=>by
   by_cases e:k=r
   .subst e;have z:G.β k=some (b',M,O):=S;rw[hr]at z;simp only[cC]at z;obtain⟨rfl,rfl,rfl⟩:=z;rw[m]at Y;simp only[aH,HB.cells.injEq]at Y;obtain⟨rfl,rfl,rfl⟩:=Y;exact h.bL _ _ _ _ _ _ _ hr hc
   .rw[F k e]at Y;exact h.bL k b' M O C V Z S Y
  bu:=fun k b' M O C V Z S Y j hj U=>by
   by_cases e:k=r
   .subst e;have z:G.β k=some (b',M,O):=S;rw[hr]at z;simp only[cC]at z;obtain⟨rfl,rfl,rfl⟩:=z;rw[m]at Y;simp only[aH,HB.cells.injEq]at Y;obtain⟨rfl,rfl,rfl⟩:=Y;have h1:=hreach j hj U;obtain⟨g1,g2,g3⟩:=h.bu k _ _ _ _ _ _ hr hc j aa h1;exact⟨g1,g2,hFout _ _ g3 (fun _=>aa)⟩
   .rw[F k e]at Y;obtain⟨g1,g2,g3⟩:=h.bu k b' M O C V Z S Y j hj U;refine⟨g1,g2,hFout _ _ g3 (fun eb=>?_)⟩;by_cases hin:o<=M+j/\M+j<o+n
    .exfalso;have hj0:M+j-o<cs.length:=aa;have hj1:M+j-o<eQ x cs tip:=aa;by_cases hi:imm<=M+j-o
     .exact h.apart k b' M O C V Z r b o x cs imm tip S Y hr hc e j (M+j-o) hj U hi hj1 eb aa
     .obtain⟨v,hv⟩:=h.cu r b o x cs imm tip hr hc (M+j-o) aa hj0;rw[show o+(M+j-o)=M+j by omega,<-eb,g3]at hv;simp at hv
    .omega
  apart:=fun k1 b1 o1 x1 cs1 imm1 Z k2 b2 o2 x2 cs2 imm2 tip2 hk1 hc1 hk2 hc2 hne j1 j2 hj1 hl1 hj2 hl2 he=>by
   have key:∀k bk ok xk csk J I j,G.β k=some (bk,ok,xk)->(H.set r (.cells cs n A)).get k=some (.cells csk J I)->J<=j->j<eQ xk csk I ->
    ∃cs0 imm0 tip0,H.get k=some (.cells cs0 imm0 tip0)/\imm0<=j/\j<eQ xk cs0 tip0:=fun k bk ok xk csk J I j S Y hj U=>by
    by_cases e:k=r
    .subst e;have z:G.β k=some (bk,ok,xk):=S;rw[hr]at z;simp only[cC]at z;obtain⟨rfl,rfl,rfl⟩:=z;rw[m]at Y;simp only[aH,HB.cells.injEq]at Y;obtain⟨rfl,rfl,rfl⟩:=Y;exact⟨cs,imm,tip,hc,aa,hreach j hj U⟩
    .rw[F k e]at Y;exact⟨csk,J,I,Y,hj,U⟩
   obtain⟨c1,i1,t1,g1,b7,l1⟩:=key k1 b1 o1 x1 cs1 imm1 Z j1 hk1 hc1 hj1 hl1;obtain⟨c2,i2,t2,g2,ci,l2⟩:=key k2 b2 o2 x2 cs2 imm2 tip2 j2 hk2 hc2 hj2 hl2;exact h.apart k1 b1 o1 x1 c1 i1 t1 k2 b2 o2 x2 c2 i2 t2 hk1 g1 hk2 g2 hne j1 j2 b7 l1 ci l2 he
  map:=fun k b' M O es S Y=>by
   by_cases e:k=r
   .subst e;rw[m]at Y;simp at Y
   .rw[F k e]at Y;obtain⟨ms,clock,h1,h2⟩:=h.map k b' M O es S Y;exact⟨ms,clock,h1,h2.mono K⟩
  aE:=fun k1 b1 o1 x1 es k2 b2 o2 x2 hk1 hc1 hk2 hs hne=>by
   by_cases e:k1=r
   .subst e;rw[m]at hc1;simp at hc1
   .rw[F k1 e]at hc1;refine h.aE k1 b1 o1 x1 es k2 b2 o2 x2 hk1 hc1 hk2 ?_ hne;by_cases e2:k2=r
    .subst e2;rw[hc];rfl
    .rw[F k2 e2]at hs;exact hs
  dr:=hF
  val:=h.val
  eb:=h.eb}
def P2(h:R B H w G){x:Nat}(hr:G.β r=some (b,o,x))(hx:cs.length<=x)(hc:iU G w b o cs)(hF:∀j,j<cs.length->∃v,G.F b (o+j)=some v)
 (hmap:∀aw b1 o1 x1 es,G.β aw=some (b1,o1,x1)->H.get aw=some (.map es)->b1≠b) :
 Step B H.next G w (H.set r (.cells cs cs.length false)) w G:=by
 have F:∀k,k≠r->(H.set r (.cells cs cs.length false)).get k=H.get k:=fun k Z=>by rw[aO,ad Z]
 have U:(H.set r (.cells cs cs.length false)).get r=some (.cells cs cs.length false):=iG;have z:∀k b' V m,k=r->G.β k=some (b',V,m)->b'=b/\V=o/\m=x:=fun k b' V m e Z=>by
  subst e;rw[hr]at Z;simp only[cC]at Z;exact⟨Z.1.symm,Z.2.1.symm,Z.2.2.symm⟩
 have S:∀C M A,(H.set r (.cells cs cs.length false)).get r=some (.cells C M A)->C=cs/\M=cs.length/\A=false:=fun C M A Z=>by
  rw[U]at Z;simp only[aH,HB.cells.injEq]at Z;exact⟨Z.1.symm,Z.2.1.symm,Z.2.2.symm⟩
 refine⟨?_,vW _,ya _ _,uD _ _,fun _ _ h=>.inl h,aT _,fun _ _ _ h=>.inl h⟩;exact{
  bY:=h.bY
  di:=h.di
  lt:=h.lt
  cells:=fun k b' V m C M A Z Y=>by
   by_cases e:k=r
   .obtain⟨rfl,rfl,rfl⟩:=z k _ _ _ e Z;subst e;obtain⟨rfl,rfl,rfl⟩:=S _ _ _ Y;exact hc
   .rw[F k e]at Y;exact h.cells k b' V m C M A Z Y
  cu:=fun k b' V m C M A Z Y j hj K=>by
   by_cases e:k=r
   .obtain⟨rfl,rfl,rfl⟩:=z k _ _ _ e Z;subst e;obtain⟨rfl,rfl,rfl⟩:=S _ _ _ Y;exact hF j K
   .rw[F k e]at Y;exact h.cu k b' V m C M A Z Y j hj K
  ext:=fun k b' V m C M A Z Y=>by
   by_cases e:k=r
   .subst e;obtain⟨rfl,rfl,rfl⟩:=S _ _ _ Y;exact aT _
   .rw[F k e]at Y;exact h.ext k b' V m C M A Z Y
  bL:=fun k b' V m C M A Z Y=>by
   by_cases e:k=r
   .subst e;obtain⟨rfl,rfl,rfl⟩:=S _ _ _ Y;obtain⟨_,_,rfl⟩:=z _ _ _ _ rfl Z;exact hx
   .rw[F k e]at Y;exact h.bL k b' V m C M A Z Y
  bu:=fun k b' V m C M A Z Y j hj K=>by
   by_cases e:k=r
   .subst e;obtain⟨rfl,rfl,rfl⟩:=S _ _ _ Y;simp only[eQ]at K;omega
   .rw[F k e]at Y;exact h.bu k b' V m C M A Z Y j hj K
  apart:=fun k1 b1 o1 x1 cs1 imm1 tip1 k2 b2 o2 x2 cs2 imm2 tip2 J O I hc2 hne j1 j2 hj1 hl1 hj2 hl2 he=>by
   by_cases e1:k1=r
   .subst e1;obtain⟨rfl,rfl,rfl⟩:=S _ _ _ O;simp only[eQ]at hl1;omega
   .by_cases e2:k2=r
    .subst e2;obtain⟨rfl,rfl,rfl⟩:=S _ _ _ hc2;simp only[eQ]at hl2;omega
    .rw[F k1 e1]at O;rw[F k2 e2]at hc2;exact h.apart k1 b1 o1 x1 cs1 imm1 tip1 k2 b2 o2 x2 cs2 imm2 tip2 J O I hc2 hne j1 j2 hj1 hl1 hj2 hl2 he
  map:=fun k b' V m es Z Y=>by
   by_cases e:k=r
   .subst e;rw[U]at Y;simp at Y
   .rw[F k e]at Y;exact h.map k b' V m es Z Y
  aE:=fun k1 b1 o1 x1 es k2 b2 o2 x2 J O I hs hne=>by
   by_cases e:k1=r
   .subst e;rw[U]at O;simp at O
   .rw[F k1 e]at O;by_cases e2:k2=r
    .obtain⟨rfl,rfl,rfl⟩:=z k2 _ _ _ e2 I;exact hmap k1 b1 o1 x1 es J O
    .rw[F k2 e2]at hs;exact h.aE k1 b1 o1 x1 es k2 b2 o2 x2 J O I hs hne
  dr:=h.dr
  val:=h.val
  eb:=h.eb}
def uF(P:Program)(B:Bs)(H:Hp)(G:Gh)(w:World)(s:Sem Next)(c:AV)(H':Hp):Prop:=
 ∃n A m v,s.run P w=.ok n A/\(n=.value v\/(n=.skip/\v=undef))/\VR m c v/\Step B H.next G w H' A m
theorem Hj(h:xK v=some c):VR G c v:=by
 unfold xK at h;split at h<;>simp only[aH,reduceCtorEq]at h<;>subst h<;>constructor;rfl
theorem Hk{G:Gh}:∀{vs:qw}{cs:qm},vs.mapM xK=some cs->bT G cs vs
 |[],cs,h=>by simp at h;subst h;exact kQ G
 |v::vs,cs,h=>by
  rw[List.mapM_cons]at h;simp only[Option.bind_eq_bind,dI,Option.pure_def,aH]at h;obtain⟨c,hc,C,Y,rfl⟩:=h;exact gO (Hj hc) (Hk Y)
def vY(h:vN v=some c):VR G c v:=by
 unfold vN at h;split at h
 .rename_i cs;simp only[x7]at h;obtain⟨l,K,rfl⟩:=h;have:=Hk (G:=G) K;exact .agg (vs:=cs.toList) this.1 this.2
 .exact Hj h
theorem iU.list{G:Gh}{w:World}{b:Nat}:∀{cs:qm}{o:Nat},iU G w b o cs->∃vs,bT G cs vs/\∀(j:Nat) v,vs[j]?=some v->w.cell? ⟨b,o+j,none⟩=some v
 |[],o,_=>⟨[],kQ G,aI⟩
 |c::cs,o,h=>by
  obtain⟨v,Z,m⟩:=h 0 c rfl;obtain⟨vs,k1,k2⟩:=iU.list (cs:=cs) (o:=o+1) (fun j d A=>by
   obtain⟨u,Y,V⟩:=h (j+1) d Am;exact⟨u,by rw[show o+1+j=o+(j+1) by omega];exact Y,V⟩)
  refine⟨v::vs,gO m k1,fun j u A=>?_⟩;cases j with
  |zero=>simp at A;subst A;exact Z
  |succ j=>rw[show o+(j+1)=o+1+j by omega];exact k2 j u Am
def iU.drop(h:iU G w b o cs)(n:Nat):iU G w b (o+n) (cs.drop n):=fun j c A=>by
 rw[rO]at A;rw[gU];exact h (n+j) c A
def iU.take(h:iU G w b o cs)(n:Nat):iU G w b o (cs.take n):=fun j c A=>by
 rw[rN]at A;split at A
 .exact h j c A
 .simp at A
section
variable {P:Program} {w:World} {t:TypeId}
def dQ(h:P.underlying t=some d):(underlying t).run P w=.ok d w:=by simp[underlying,h]
def td{i:TypeInfo}(h:P.info? t=some i):(typeInfo t).run P w=.ok i w:=by simp[typeInfo,h]
def Hl{s:Nat}(h:bD P t=some s):∃i,P.info? t=some i/\i.size=s:=by simpa [bD,x7]using h
def jR{s:Nat}(h:bD P t=some s):(sizeOf t).run P w=.ok s w:=by
 obtain⟨i,j,m⟩:=Hl h;simp[sizeOf,td j,m]
def Hm(h:lU P t=some c):∃i v,P.info? t=some i/\i.zero=some v/\vN v=some c:=by
 unfold lU at h;split at h
 .rename_i x d s V Y hp al fa Z U ms C;exact⟨_,Z,C,rfl,h⟩
 .simp at h
def P3(h:lU P t=some c):∃v,(∀w,(zeroValue t).run P w=.ok v w)/\∀G,VR G c v:=by
 obtain⟨i,v,j,m,A⟩:=Hm h;exact⟨v,fun w=>by simp[zeroValue,td j,m],fun G=>vY A⟩
def DA{z:qm}(h:cn P t=some z):∃i v c,P.info? t=some i/\i.zero=some v/\vN v=some c/\c.cells=z:=by
 unfold cn at h;split at h
 .rename_i c hc;simp only[aH]at h;obtain⟨i,v,j,m,A⟩:=Hm hc;exact⟨i,v,c,j,m,A,h⟩
 .simp at h
def vZ{z:qm}(h:cn P t=some z):∃v,(∀w,(zeroValue t).run P w=.ok v w)/\∀G,bT G z v.cells.toList:=by
 obtain⟨i,v,c,j,m,A,rfl⟩:=DA h;exact⟨v,fun w=>by simp[zeroValue,td j,m],fun G=>(vY A).cells⟩
def DB:TypeDesc->Bool
 | .struct _|.array _ _=>true
 |_=>false
theorem Aw(h:P.underlying t=some d):(isAgg t).run P w=.ok (DB d) w:=by
 simp only[isAgg,eY,dQ h,fd];cases d<;>rfl
def Hn{off:Nat}(h:cM P t cs off=some c):
 (∃d s,P.underlying t=some d/\DB d=true/\bD P t=some s/\((cs.drop off).take s).length=s/\c=.agg ((cs.drop off).take s)) \/
 (∃d,P.underlying t=some d/\DB d=false/\cs[off]?=some c):=by
 unfold cM at h;split at h
 .rename_i f hd;split at h
  .rename_i s S;simp only[]at h;split at h
   .rename_i K;simp only[aH]at h;exact .inl ⟨_,s,hd,rfl,S,K,h.symm⟩
   .simp at h
  .simp at h
 .rename_i n e hd;split at h
  .rename_i s S;simp only[]at h;split at h
   .rename_i K;simp only[aH]at h;exact .inl ⟨_,s,hd,rfl,S,K,h.symm⟩
   .simp at h
  .simp at h
 .rename_i d j m hd;refine .inr ⟨d,hd,?_,h⟩;cases d<;>first|rfl|exact(j _ rfl).elim|exact(m _ _ rfl).elim
 .simp at h
def Ho{off:Nat}(M:iU G w b o cs)(h:cM P t cs off=some c):
 ∃v,(loadVar t ⟨b,o+off,none⟩).run P w=.ok v w/\VR G c v:=by
 rcases Hn h with⟨d,s,hd,V,Y,K,rfl⟩|⟨d,hd,V,hc⟩
 .obtain⟨vs,Z,m⟩:=((M.drop off).take s).list;refine⟨.agg vs.toArray,?_,.agg Z.1 Z.2⟩;simp only[loadVar,eY,Aw hd,V,fd,bw,jR Y];have S:vs.length=s:=by rw[<-Z.1];exact K
  rw[<-S,run_loadCells_list _ _ vs (fun j v A=>by rw[mI];exact m j v A)];rfl
 .obtain⟨v,Z,m⟩:=M off c hc;refine⟨v,?_,m⟩;simp[loadVar,Aw hd,V,Z]
def Ax{off:Nat}(U:bT G cs vs)(h:cM P t cs off=some c):
 ∃v,(part t vs.toArray off).run P w=.ok v w/\VR G c v:=by
 rcases Hn h with⟨d,s,hd,V,S,K,rfl⟩|⟨d,hd,V,hc⟩
 .have j:=(U.drop off).take s;refine⟨.agg ((vs.drop off).take s).toArray,?_,.agg j.1 j.2⟩;simp only[part,eY,Aw hd,V,fd,bw,jR S,jQ]
  congr 2
  apply lZ;simp
 .have z:off<cs.length:=(eu.1 hc).1;have I:off<vs.length:=by have:=U.1;omega
  refine⟨vs[off],?_,U.2 off c _ hc (bt I)⟩;simp[part,Aw hd,V,I]
end
def v9(h:R B H w G){s:Sem Next}(hr:s.run P w=.ok (.value v) w)(U:VR G c v):uF P B H G w s c H:=
 ⟨.value v,w,G,v,hr,.inl rfl,U,jD h⟩
def kn{x:qv}(h:ret H x=some (c,H')):x=some c/\H'=H:=by
 cases x with
 |none=>simp[ret]at h
 |some v=>simp[ret]at h;exact⟨by rw[h.1],h.2.symm⟩
section
variable {P:Program} {B:Bs} {G:Gh} {H H':Hp} {w:World} (h:R B H w G) {c:AV}
include h
def Hr(V:VR G a M)(K:jL P H t a=some c):∃v,(Instr.loadAt t M).run P w=.ok v w/\VR G c v:=by
 unfold jL at K;split at K
 .rename_i r F;cases V with
  |ptr hr=>
   split at K
   .rename_i cs S I hc;obtain⟨v,Z,m⟩:=Ho (h.cells _ _ _ _ _ _ _ hr hc) K;exact⟨v,G8,m⟩
   .simp at K
 .rename_i cs;cases V with
  |a2 vs hF U=>
   rename_i b o;have Y:iU G w b o cs:=fun j d A=>⟨vs j,h.dr _ _ _ (hF j (eu.1 A).1),U j d A⟩;obtain⟨v,Z,m⟩:=Ho Y K;exact⟨v,G8,m⟩
 .simp at K
def P4(ha:VR G a M)(hx:VR G x F)(S:mD P H t a x=some H'):
 ∃A,(Instr.storeAt t M F).run P w=.ok () A/\Step B H.next G w H' A G:=by
 unfold mD at S;split at S
 .rename_i r V;cases ha with
  |ptr hr=>
   rename_i b o ex;split at S
   .rename_i cs U I s hc O;split at S
    .rename_i C;obtain⟨h1,h2,h3,h4⟩:=C;simp only[aH]at S;subst S;have J:=hx.cells;have Z:F.cells.toList.length=s:=by rw[<-J.1];exact h1
     have K:∀v∈F.cells.toList,v.oneCell'=true:=fun v hv=>by
      obtain⟨i,m,rfl⟩:=List.getElem_of_mem hv;have Y:i<x.cells.length:=by rw[J.1];exact m
      rw[(J.2 i _ _ (bt Y) (bt m)).b0];exact kj.1 h4 _ (ek Y)
     have hex:=h.ext r b o ex cs U I hr hc;obtain⟨A,hw,z⟩:=Dz P hr V x.cells F.cells.toList cs 0 H w h hc J K aa aa aa (fun _=>aa);refine⟨A,?_,by simpa using z⟩;have j:F.cells.size=s:=rL;simp only[Instr.storeAt,Instr.sureAddr,eY,jQ,fd,storeVar,jR O,j];simpa using hw
    .simp at S
   .simp at S
 .simp at S
end
section
variable {P:Program} {B:Bs} {G:Gh} {H H':Hp} {w:World}
def P5(V:VR G a M)(m:sO P t a i=some c):∃v,(Instr.fieldAt t M i).run P w=.ok v w/\VR G c v:=by
 unfold sO at m;split at m
 .rename_i J hd;split at m
  .rename_i f I;split at m
   .rename_i s S;have Z:∀b o,M=.pointer (some ⟨b,o,none⟩)->(Instr.fieldAt t M i).run P w=.ok (.pointer (some ⟨b,o+f.offset,none⟩)) w:=fun b o e=>by
     subst e;simp only[Instr.fieldAt,eY,dQ hd,fd];simp[I,Instr.sureAddr,fieldPlace,jR S,mI]
    split at m
    .rename_i r F;simp only[aH]at m;subst m;cases V with
     |ptr hr=>exact⟨_,Z _ _ rfl,Dq⟩
    .rename_i cs;simp only[aH]at m;subst m;cases V with
     |a2 vs hF U=>
      refine⟨_,Z _ _ rfl,.a2 (fun j=>vs (f.offset+j)) (fun j A=>?_) (fun j d A=>?_)⟩
      .rw[jP]at A;rw[gU];exact hF _ aa
      .rw[rO]at A;exact U _ _ A
    .simp at m
   .simp at m
  .simp at m
 .simp at m
def P6(V:VR G a M)(m:uo P t a i=some c):∃v,(Instr.field t M i).run P w=.ok v w/\VR G c v:=by
 unfold uo at m;split at m
 .rename_i J cs hd;cases V with
  |agg K U=>
   rename_i vs;split at m
   .rename_i f I;obtain⟨v,j,Z⟩:=Ax (P:=P) (w:=w) ⟨K,U⟩ m;refine⟨v,?_,Z⟩;simp only[Instr.field,eY,dQ hd,fd];simp only[I,eY,asAgg,jQ,fd];exact j
   .simp at m
 .simp at m
def P7{i:AV}{C:Value}(U:VR G a I)(hi:VR G i C)(m:eS P t a i=some c):∃v,(Instr.indexAt t I C).run P w=.ok v w/\VR G c v:=by
 unfold eS at m;split at m
 .rename_i kk k;cases hi;split at m
  .rename_i e hd;split at m
   .rename_i s V;split at m
    .rename_i r F O z;split at m
     .rename_i Z;simp only[aH]at m;subst m;cases U with
      |sl hr hl hc=>
       rename_i b o x S;refine⟨.pointer (some ⟨b,o+F+k*s,none⟩),?_,Dq⟩;simp only[Instr.indexAt,asIntOf,eY,jQ,fd,dQ hd];have h1:(0:Int)<=Int.ofNat k:=Int.natCast_nonneg k;have h2:(Int.ofNat k)<(O:Int):=rL;simp[jR V,Z,mI]
     .simp at m
    .rename_i xs;split at m
     .rename_i Y K;split at m
      .rename_i M;simp only[aH]at m;subst m;have Z:k<xs.length:=(eu.1 K).1;cases U with
       |ai vs hz hF hv hc=>
        rename_i b o S z;have J:s=z:=by rw[<-M];exact hz k Y K
        subst J;refine⟨.pointer (some ⟨b,o+k*s,none⟩),?_,.a2 (vs k) (fun j A=>hF k j Z aa) (fun j d A=>hv k j Y d K A)⟩;simp only[Instr.indexAt,asIntOf,eY,jQ,fd,dQ hd];simp[jR V,Z,mI]
       |cb a S=>simp at Z
      .simp at m
     .simp at m
    .simp at m
   .simp at m
  .rename_i n e hd;split at m
   .rename_i s V;split at m
    .rename_i r F;split at m
     .rename_i Z;simp only[aH]at m;subst m;cases U with
      |ptr hr=>
       rename_i b o x;refine⟨.pointer (some ⟨b,o+F+k*s,none⟩),?_,Dq⟩;simp only[Instr.indexAt,asIntOf,eY,jQ,fd,dQ hd];simp[jR V,Z,mI,Instr.sureAddr]
     .simp at m
    .simp at m
   .simp at m
  .simp at m
 .simp at m
def P8{i:AV}(V:VR G a M)(F:VR G i Z)(m:oK P t a i=some c):∃v,(Instr.index t M Z).run P w=.ok v w/\VR G c v:=by
 unfold oK at m;split at m
 .rename_i O k;cases F;split at m
  .rename_i s hd;split at m
   .rename_i b z;simp only[aH]at m;subst m;cases V with
    |ae J l K=>
     subst K;refine⟨_,?_,.int .u8 b.toNat⟩;have o:k<J.size:=by
      have:=(eu.1 z).1;simpa using this
     have C:J[k]?=some b:=by
      rw[ByteArray.getElem?_lt' _ _ o];have:=(eu.1 z).2;simp at this;rw[<-this];rfl
     simp only[Instr.index,asIntOf,eY,jQ,fd,dQ hd];simp[C]
   .simp at m
  .rename_i n e cs hd;split at m
   .rename_i o;split at m
    .rename_i s S;cases V with
     |agg K U=>
      rename_i vs;obtain⟨v,j,Y⟩:=Ax (P:=P) (w:=w) ⟨K,U⟩ m;refine⟨v,?_,Y⟩;simp only[Instr.index,asIntOf,eY,jQ,fd,dQ hd];simp[jR S,o,j]
    .simp at m
   .simp at m
  .simp at m
 .simp at m
def P9(V:VR G a M)(m:extract a i=some c):∃v,(Instr.extract M i).run P w=.ok v w/\VR G c v:=by
 unfold extract at m;split at m
 .rename_i cs;cases V with
  |aW K U=>
   rename_i vs;have F:i<cs.length:=(eu.1 m).1;have o:i<vs.length:=aa;exact⟨vs[i],by simp[Instr.extract,o],U i c _ m (bt o)⟩
 .simp at m
def DC{op:BinOp}{a b:Int}(j:op≠.shl/\op≠.shr)(h:jz op k a b=some c)(z:TypeId):∃v,(binOp op z (.int k a) (.int k b)).run P w=.ok v w/\VR G c v:=by
 cases op<;>simp only[jz,aH,reduceCtorEq]at h<;>first
  |(subst h;exact⟨_,by simp[binOp,Op.intArith,Op.intBits,Op.intCmp];rfl,rM⟩)
  |(subst h;exact⟨.int k (k.wrap (BitVec.ofInt k.bits a &&& ~~~ BitVec.ofInt k.bits b).toNat),by simp[binOp,Op.intBits],rM⟩)
  |(split at h
    ·simp at h
    .rename_i Z;simp only[aH]at h;subst h;exact⟨_,by simp[binOp,Op.intDiv,Z];rfl,rM⟩)
  |simp at j
theorem Qa{op:BinOp}{a b:ByteArray}(h:vP op a.data.toList b.data.toList=some c)(Z:TypeId):∃v,(binOp op Z (.string a) (.string b)).run P w=.ok v w/\VR G c v:=by
 have z:∀x y,sQ x y=Op.bytesLess x y:=fun x=>by
  induction x with
  |nil=>intro y;cases y<;>rfl
  |cons p x ih=>intro y;cases y with
   |nil=>rfl
   |cons q y=>simp[sQ,Op.bytesLess,ih]
 cases op<;>simp only[vP,aH,reduceCtorEq,z]at h<;>first
  |(subst h;exact⟨.bool (a.data.toList == b.data.toList),vU,rM⟩)
  |(subst h;exact⟨.bool !(a.data.toList == b.data.toList),vU,rM⟩)
  |(subst h;exact⟨.bool (Op.bytesLess a.data.toList b.data.toList),vU,rM⟩)
  |(subst h;exact⟨.bool !(Op.bytesLess a.data.toList b.data.toList),vU,rM⟩)
  |(subst h;exact⟨.bool (Op.bytesLess a.data.toList b.data.toList||a.data.toList == b.data.toList),vU,rM⟩)
  |(subst h;exact⟨.bool !(Op.bytesLess a.data.toList b.data.toList||a.data.toList == b.data.toList),vU,rM⟩)
  |(split at h
    ·rename_i Y;simp only[aH]at h;subst h;refine⟨.string (a++b),?_,.ae _ _ ?_⟩
     .have m:¬((a.size+b.size:Nat):Int) > IntKind.i64.max:=by
       have j:a.size+b.size<=70368744177664:=by simpa [dd]using Y
       have V:IntKind.i64.max=9223372036854775807:=rfl;rw[V];omega
      simp only[binOp,Op.stringOp,ad m];rfl
     .simp
    .simp at h)
def Ht(Z:Nat){r:Bool}(O:VR G x F)(o:VR G y m)(h:zX P z x y=some r):(Op.equalIn (Z+1) z F m).run P w=.ok r w:=by
 unfold zX at h;split at h;all_goals first
  |(rename_i hd
    split at h<;>simp only[aH,reduceCtorEq]at h<;>subst h<;>cases O<;>cases o<;>simp[Op.equalIn,dQ hd]
    done)
  |(rename_i e hd
    split at h<;>simp only[aH,reduceCtorEq]at h<;>subst h<;>cases O<;>cases o<;>simp[Op.equalIn,dQ hd]
    done)
  |(rename_i Y K hd
    split at h<;>simp only[aH,reduceCtorEq]at h<;>subst h<;>cases O<;>cases o<;>simp[Op.equalIn,dQ hd]
    done)
  |(rename_i Y K V hd
    split at h<;>simp only[aH,reduceCtorEq]at h<;>subst h<;>cases O<;>cases o<;>simp[Op.equalIn,dQ hd]
    done)
  |simp at h
def Ay{op:BinOp}{x y:Operand}{d:AV}{cv o:Value}(K:VR G c cv)(hd:VR G d o)(h:∀l m,c=.agg l->d=.agg m->False):(eqGuard op t x y cv o).run P w=.ok () w:=by
 cases op<;>first|rfl|(cases K<;>cases hd<;>first|rfl|exact(h _ _ rfl rfl).elim)
def Qb(a b:ByteArray):(a == b)=(a.data.toList == b.data.toList):=by
 cases a with
 |mk x=>cases b with
  |mk y=>
   show(x == y)=_;rw[Dt,mG,mG];exact⟨fun h=>by rw[h],fun h=>lZ h⟩
def Hu(F:Nat){r:Bool}(O:VR G x Z)(o:VR G y m)(h:Dm P z x y=some r):(Op.equalIn (F+1) z Z m).run P w=.ok r w:=by
 unfold Dm at h;split at h
 .split at h
  .rename_i hd;split at h
   .rename_i Y;simp only[aH]at h;subst h Y;cases O;cases o;simp[Op.equalIn,dQ hd]
   .simp at h
  .simp at h
 .split at h
  .rename_i hd;simp only[aH]at h;subst h;cases O with
   |ae a S V=>cases o with
    |ae b M U=>
     subst V U;simp only[Op.equalIn,eY,dQ hd,fd,jQ,Qb]
  .simp at h
 .exact Ht F O o h
theorem DD{xs K:qm}{V m:qw}(Z:bT G xs V)(o:bT G K m)(F:Nat):∀(U:List Field) (r:Bool),vQ P xs K U=some r ->
 Sem.run P (forIn U (none,()) fun(f:Field) (_:qy×Unit)=>
         if f.name="_" then pure (ForInStep.yield (none,()))
         else do
          let a <-part f.type V.toArray f.offset
          let b <-part f.type m.toArray f.offset
          let c <-Op.equalIn (F+1) f.type a b
          if c=false then pure (ForInStep.done (some false,()))else pure (ForInStep.yield (none,())))
  w=.ok (match r with|true=>(none,())|false=>(some false,())) w
 |[],r,h=>by
  simp only[vQ,aH]at h;subst h;rfl
 |f::U,r,h=>by
  unfold vQ at h;rw[List.forIn_cons];split at h
  .rename_i Y;rw[au An];simp only[eY,jQ,fd];exact DD Z o F U r h
  .rename_i Y;rw[ad An];split at h
   .rename_i a b M J;obtain⟨A,S,I⟩:=Ax (P:=P) (w:=w) Z M;obtain⟨j,O,z⟩:=Ax (P:=P) (w:=w) o J;split at h
    .rename_i C;have:=Hu (P:=P) (w:=w) F I z C;simp only[eY,S,O,this,fd,x8,bH,jQ];exact DD Z o F U r h
    .rename_i C;have:=Hu (P:=P) (w:=w) F I z C;simp only[aH]at h;subst h;simp only[eY,S,O,this,fd,bw,jQ]
    .simp at h
   .simp at h
theorem Qc(d:Nat){J:Array Field}{xs K:Array Value}(hd:P.underlying t=some (.struct J))(S:P.stoodInHeld t=false):
 (Op.equalIn (d+1) t (.agg xs) (.agg K)).run P w=(Sem.run P (forIn J.toList (none,()) fun(f:Field) (_:qy×Unit)=>
   if f.name="_" then pure (ForInStep.yield (none,()))
   else do
    let a <-part f.type xs f.offset
    let b <-part f.type K f.offset
    let c <-Op.equalIn d f.type a b
    if c=false then pure (ForInStep.done (some false,()))else pure (ForInStep.yield (none,())))
   w).andThen fun a A=>Sem.run P (match a.1 with|some r=>pure r|none=>pure true) A:=by
 simp[Op.equalIn,dQ hd,S]
 congr 1
 funext a A
 rcases a with⟨_ |_,_⟩<;>rfl
def Qd(F:Nat){V:Value}{r:Bool}(O:VR G x V)(o:VR G y m)(h:uq P z x y=some r):(Op.equalIn (F+2) z V m).run P w=.ok r w:=by
 unfold uq at h;split at h
 .unfold zY at h;split at h
  .rename_i J hd;split at h
   .simp at h
   .rename_i U;simp only[fP]at U;cases O with
    |agg Z C=>cases o with
     |agg Y I=>
      have:=DD (P:=P) (w:=w) ⟨Z,C⟩ ⟨Y,I⟩ F J.toList r h;rw[Qc (F+1) hd U.1,this];cases r<;>rfl
  .simp at h
 .exact Ht (F+1) O o h
def Qe{r:Bool}(O:VR G x F)(o:VR G y m)(h:uq P z x y=some r):(Op.equal z F m).run P w=.ok r w:=Qd 9998 O o h
def Qf{op:BinOp}{x y:Operand}{xs K:qm}(O:VR G (.agg xs) F)(o:VR G (.agg K) m){r:Bool}(h:zY P t xs K=some r):(eqGuard op t x y F m).run P w=.ok () w:=by
 unfold zY at h;split at h
 .split at h
  .simp at h
  .rename_i C;simp only[fP]at C;cases O;cases o;cases op<;>first|rfl|simp[eqGuard,C.2]
 .simp at h
def Qg{op:BinOp}(O:VR G x F)(o:VR G y m)(I:∀k a k' b,x=.int k a->y=.int k' b->False)
 (A:∀a b,x=.ae a->y=.ae b->False) (Z:∀k a,x=.sx k a->False) (Y:∀k a k' b,x=.int k a->y=.sx k' b->False) (h:Dn P op z x y=some c) :
 ∃v,(do eqGuard op z S U F m;binOp op z F m:Sem Value).run P w=.ok v w/\VR G c v:=by
 unfold Dn at h;have K:∃r,uq P z x y=some r/\((op=.eql/\c=.bool r)\/(op=.neq/\c=.bool !r)):=by
  split at h
  .split at h
   .rename_i r hr;simp only[aH]at h;exact⟨r,hr,.inl ⟨rfl,h.symm⟩⟩
   .simp at h
  .split at h
   .rename_i r hr;simp only[aH]at h;exact⟨r,hr,.inr ⟨rfl,h.symm⟩⟩
   .simp at h
  .simp at h
 obtain⟨r,hr,j⟩:=K;have J:(eqGuard op z S U F m).run P w=.ok () w:=by
  have C:=hr;unfold uq at C;split at C
  .exact Qf O o C
  .rename_i V;exact Ay O o V
 have M:=Qe (P:=P) (w:=w) O o hr;simp only[eY,J,fd];rcases j with⟨rfl,rfl⟩|⟨rfl,rfl⟩
 .refine⟨.bool r,?_,.bool r⟩;have:binOp .eql z F m=(do pure (.bool (<-Op.equal z F m)):Sem Value):=by
   cases O<;>cases o<;>first|rfl|exact(I _ _ _ _ rfl rfl).elim|exact(A _ _ rfl rfl).elim|exact(Z _ _ rfl).elim|exact(Y _ _ _ _ rfl rfl).elim
  rw[this];simp[M]
 .refine⟨.bool !r,?_,.bool _⟩;have:binOp .neq z F m=(do pure (.bool (!(<-Op.equal z F m))):Sem Value):=by
   cases O<;>cases o<;>first|rfl|exact(I _ _ _ _ rfl rfl).elim|exact(A _ _ rfl rfl).elim|exact(Z _ _ rfl).elim|exact(Y _ _ _ _ rfl rfl).elim
  rw[this];simp[M]
def Hv{e:Sx}(O:VR G x F)(h:zV x=some (k,e)):F=.int k (e.eval G.ρ):=by
 unfold zV at h;split at h
 .simp only[cC]at h;obtain⟨rfl,rfl⟩:=h;cases O;rfl
 .simp only[cC]at h;obtain⟨rfl,rfl⟩:=h;cases O;rfl
 .simp at h
def Qh{op:BinOp}{a b n:Int}(h:jz op k a b=some (.int k n)):Dk op k a b=n:=by simp[Dk,h]
def Qi(o:mH D G.ρ){op:BinOp}{a b:Sx}(h:Dl D op k a b=some c)(z:TypeId):
 ∃v,(binOp op z (.int k (a.eval G.ρ)) (.int k (b.eval G.ρ))).run P w=.ok v w/\VR G c v:=by
 have F:∀(op:BinOp) (n:Int),(op≠.shl/\op≠.shr)->jz op k (a.eval G.ρ) (b.eval G.ρ)=some (.int k n)->c=.sx k (.cq op k a b) ->
  ∃v,(binOp op z (.int k (a.eval G.ρ)) (.int k (b.eval G.ρ))).run P w=.ok v w/\VR G c v:=fun op n j Z hc=>by
  obtain⟨v,V,m⟩:=DC (P:=P) (w:=w) (G:=G) j Z z;cases m;refine⟨_,V,?_⟩;subst hc;have:VR G (.sx k (.cq op k a b)) (.int k ((Sx.cq op k a b).eval G.ρ)):=.sx _ _;simp only[Sx.eval,Qh Z]at this;exact this
 have Y:D .eql b (.lit 0)=some false->b.eval G.ρ≠0:=fun hd=>by
  have:=o _ k _ _ _ hd;simp[jz,Sx.eval]at this;exact this
 cases op<;>simp only[Dl,aH,reduceCtorEq]at h<;>first
  |exact F _ _ aI rfl h.symm
  |(split at h
    ·rename_i hd;simp only[aH]at h;first
      |exact F .quo (k.wrap ((a.eval G.ρ).tdiv (b.eval G.ρ))) aI (by simp only[jz,ad (Y hd)]) h.symm
      |exact F .rem ((a.eval G.ρ).tmod (b.eval G.ρ)) aI (by simp only[jz,ad (Y hd)]) h.symm
    .simp at h)
  |(split at h
    ·rename_i r hd;simp only[aH]at h;subst h;exact DC (P:=P) (w:=w) (G:=G) aI (o _ k _ _ _ hd) z
    .simp at h)
def Hw(M:mH D G.ρ){op:BinOp}(O:VR G x F)(o:VR G y Z)(V:∀l m,x=.agg l->y=.agg m->False)(h:zW D op x y=some c):
 ∃v,(do eqGuard op z S U F Z;binOp op z F Z:Sem Value).run P w=.ok v w/\VR G c v:=by
 have C:=Ay (P:=P) (w:=w) (op:=op) (t:=z) (x:=S) (y:=U) O o V;simp only[eY,C,fd];unfold zW at h;split at h
 .rename_i k a k' b J Y;have I:=Hv O J;have A:=Hv o Y;subst I A;split at h
  .rename_i K;subst K;exact Qi M h z
  .simp at h
 .simp at h
def Qj(Z:mH D G.ρ){op:BinOp}(O:VR G x F)(o:VR G y m)(h:dP P D op z x y=some c):
 ∃v,(do eqGuard op z S U F m;binOp op z F m:Sem Value).run P w=.ok v w/\VR G c v:=by
 unfold dP at h;split at h
 .rename_i k a k' b;have C:=Ay (P:=P) (w:=w) (op:=op) (t:=z) (x:=S) (y:=U) O o aI;simp only[eY,C,fd];cases O;cases o;unfold rI at h;split at h
  .unfold sR at h;split at h
   .simp only[aH]at h;subst h;refine⟨_,?_,.int _ _⟩;simp only[binOp,Op.shift];rw[ad aI];rfl
   .simp at h
  .unfold sR at h;split at h
   .simp only[aH]at h;subst h;refine⟨_,?_,.int _ _⟩;simp only[binOp,Op.shift];rw[ad aI];rfl
   .simp at h
  .rename_i j Y;split at h
   .rename_i V;subst V;exact DC ⟨j,Y⟩ h z
   .simp at h
 .rename_i a b;have C:=Ay (P:=P) (w:=w) (op:=op) (t:=z) (x:=S) (y:=U) O o aI;simp only[eY,C,fd];cases O with
  |ae J _ M=>
   cases o with
   |ae I _ K=>
    subst M K;exact Qa h z
 .exact Hw Z O o aI h
 .exact Hw Z O o aI h
 .exact Qg O o jh jh jh jh h
def Qk{op:UnOp}(O:VR G x F)(h:rJ op x=some c):∃v,(Op.unary op F).run P w=.ok v w/\VR G c v:=by
 unfold rJ at h;split at h
 .cases O;simp only[aH]at h;subst h;refine⟨_,rfl,?_⟩;exact .sx _ _
 .cases O;simp only[aH]at h;subst h;refine⟨_,rfl,?_⟩;exact .sx _ _
 .cases O;simp only[jz,aH]at h;subst h;exact⟨_,rfl,.int _ _⟩
 .cases O;simp only[jz,aH]at h;subst h;exact⟨_,rfl,.int _ _⟩
 .cases O;simp only[aH]at h;subst h;exact⟨_,rfl,.bool _⟩
 .simp at h
end
def uG(G:Gh):qv->qH->Prop
 |none,none=>True
 |some c,some v=>VR G c v
 |_,_=>False
section
variable {P:Program} {B:Bs} {G:Gh} {H H':Hp} {w:World}
def Az{k y:Nat}(code:BoundsCode)(h:VR G c v)(z:gS 0 (some c)=some k)(o:k<=y):(Instr.sliceBound v y code).run P w=.ok k w:=by
 unfold gS at z;split at z
 .simp at *
 .rename_i O n e;simp only[aH]at z e;subst z;subst e;cases h;simp[Instr.sliceBound,asIntOf,o]
 .simp at z
theorem Ql{d k:Nat}(h:gS d (some c)=some k):gS 0 (some c)=some k:=by
 unfold gS at *;split at h<;>simp_all
def DE{F:qv}{Y Z:qH}{l h len cap:Nat}(K:uG G lo Y)(V:uG G F Z)(j:gS 0 lo=some l)(m:gS len F=some h)(h1:l<=h)(h2:h<=len)(A:len<=cap)(U:Bool):
 (Instr.sliceBounds U len cap Y Z none).run P w=.ok (l,h,cap) w:=by
 cases F with
 |none=>
  cases Z with
  |some v=>exact V.elim
  |none=>
   simp only[gS,aH]at m;subst m;cases lo with
   |none=>
    cases Y with
    |some v=>exact K.elim
    |none=>
     simp only[gS,aH]at j;subst j;simp[Instr.sliceBounds]
   |some c=>
    cases Y with
    |none=>exact K.elim
    |some v=>simp[Instr.sliceBounds,Az _ K j h1]
 |some O=>
  cases Z with
  |none=>exact V.elim
  |some S=>
   have M:=Ql m;cases lo with
   |none=>
    cases Y with
    |some v=>exact K.elim
    |none=>
     simp only[gS,aH]at j;subst j;simp[Instr.sliceBounds,Az _ V M (show h<=cap by omega)]
   |some c=>
    cases Y with
    |none=>exact K.elim
    |some v=>simp[Instr.sliceBounds,Az _ K j h1,Az _ V M (show h<=cap by omega)]
def Qm{xv:Value}{F:qv}{C A:qH}(hx:VR G x xv)(hl:uG G lo C)(hh:uG G F A)(h:jx P t x lo F=some c):
 ∃v,(Instr.sliceAt t xv C A none).run P w=.ok v w/\VR G c v:=by
 unfold jx at h;split at h
 .rename_i s hd;split at h
  .rename_i l hh' U m;split at h
   .rename_i hc;simp only[aH]at h;subst h;cases hx with
    |ae I _ hs=>
     subst hs;have hb:=DE (P:=P) (w:=w) (cap:=I.size) hl hh U m hc.1 hc.2 (by show I.data.toList.length<=I.data.size;simp) false;have hsz:I.data.toList.length=I.size:=by show I.data.toList.length=I.data.size;simp
     rw[hsz]at hb;refine⟨.string (I.extract l hh'),?_,.ae _ _ (Lib.extract_data _ _ _)⟩;simp only[Instr.sliceAt,eY,dQ hd,fd,Instr.slice];simp[hb]
   .simp at h
  .simp at h
 .rename_i e y hd;split at h
  .rename_i z hz;have Z:∀(a:Option Addr) (Y cap l V:Nat),xv=.slice a Y cap->gS 0 lo=some l->gS Y F=some V->l<=V->V<=Y->Y<=cap ->
    (Instr.sliceAt t xv C A none).run P w=.ok (.slice (if cap=l then a else a.map (·.add (l*z))) (V-l) (cap-l)) w:=fun a Y cap l V e1 U m h1 J h3=>by
    subst e1;simp only[Instr.sliceAt,eY,dQ hd,fd,Instr.slice];simp[DE hl hh U m h1 J h3,jR hz]
   split at h
   .rename_i r off Y z';split at h
    .rename_i l V U m;split at h
     .rename_i hc;obtain⟨h1,J,rfl⟩:=hc;cases hx with
      |sl hr hlc hx'=>
       rename_i b o x cap;have:=Z _ Y cap l V rfl U m h1 J hlc;split at h
       .rename_i e1;simp only[aH]at h;subst h;subst e1;rw[uA]at this;exact⟨_,this,.cb _ _⟩
       .rename_i hne;simp only[aH]at h;subst h;rw[ad aa]at this;refine⟨_,this,?_⟩;simp only[pI,mI];rw[gU];refine .sl hr aa ?_;have e3:(cap-l)*z'+l*z'=cap*z':=Dr;omega
     .simp at h
    .simp at h
   .rename_i xs;split at h
    .rename_i l V U m;split at h
     .rename_i hc;obtain⟨h1,J⟩:=hc;split at h
      .rename_i he;simp only[aH]at h;subst h;have S:V-l=0:=by
        have:=lB List.length he;simp only[mF,jP,eg]at this;omega
       cases hx with
       |ai vs hzz hF hv K=>
        have:=Z _ _ _ l V rfl U m h1 J K;rw[S]at this;exact⟨_,this,.cb _ _⟩
       |cb a cap=>
        have:=Z _ _ _ l V rfl U m h1 J (dx cap);rw[S]at this;exact⟨_,this,.cb _ _⟩
      .rename_i row rows he;split at h
       .rename_i hrl;simp only[aH]at h;subst h;have hpos:0<V-l:=by
         have:=lB List.length he;simp only[mF,jP,gN]at this;omega
        cases hx with
        |cb a cap=>simp at J;omega
        |ai vs hzz hF hv K=>
         rename_i b o cap z';have O:=Z _ _ _ l V rfl U m h1 J K;rw[ad aa]at O;have M:∀i:Nat,(row::rows)[i]?=if i<V-l then xs[l+i]? else none:=fun i=>by
          rw[<-he,rN,rO]
         have hz':z'=z:=by
          have:=M 0;rw[au hpos]at this;rw[<-hzz (l+0) row (by rw[<-this];rfl)];exact hrl
         subst hz';have S:(row::rows).length=V-l:=by
          rw[<-he];simp only[mF,jP];omega
         refine⟨_,O,?_⟩;simp only[pI,mI];rw[<-S];refine .ai (z:=z') (fun i j=>vs (l+i) j) (fun i rw' F=>?_) (fun i j F hj=>?_) (fun i j rw' d F hj=>?_) (by rw[S];omega)
         .rw[M i]at F;split at F
          .exact hzz _ _ F
          .simp at F
         .have:=hF (l+i) j (by rw[S]at F;omega) hj;rw[<-this]
          congr 1
          rw[nK];omega
         .rw[M i]at F;split at F
          .exact hv _ _ _ _ F hj
          .simp at F
       .simp at h
     .simp at h
    .simp at h
   .split at h
    .rename_i U m;simp only[aH]at h;subst h;cases hx;have:=Z none 0 0 0 0 rfl U m (aT _) (aT _) (aT _);exact⟨_,this,.ab⟩
    .simp at h
   .simp at h
  .simp at h
 .simp at h
def bT.splice{z:qm}{J:qw}(h:bT G cs vs)(I:bT G z J)(off:Nat):bT G (Ab.splice cs off z) (vs.take off++J++vs.drop (off+J.length)):=by
 unfold Ab.splice;rw[I.1];exact((h.take off).append I).append (h.drop _)
theorem Hx(off:Nat):∀(nv:qw) (k:Nat) (cells:Array Value),off+k+nv.length<=cells.size ->
 ((nv.zipIdx k).foldl (fun cs (c,j)=>cs.setIfInBounds (off+j) c) cells).toList=cells.toList.take (off+k)++nv++cells.toList.drop (off+k+nv.length)
 |[],k,cells,_=>by simp
 |v::nv,k,cells,h=>by
  simp only[gN]at h;rw[List.zipIdx_cons,List.foldl_cons,Hx off nv (k+1) _ ce];simp only[G9,gN];have hp:off+k<cells.toList.length:=ce;have Z:(cells.toList.set (off+k) v).take (off+(k+1))=cells.toList.take (off+k)++[v]:=by
   rw[<-gU,pJ,List.take_set_of_le (aT _),Aq hp];rfl
  rw[Z,List.drop_set_of_lt aa,show off+(k+1)+nv.length=off+k+(nv.length+1) by omega];simp
theorem AA{S:Nat->Option (Nat×Nat)}:∀{ps:qB}{pv:List (Nat×Value)}{cs out:qm}{vs:qw},ps.length=pv.length ->
 (∀(i:Nat) p q,ps[i]?=some p->pv[i]?=some q->p.1=q.1/\VR G p.2 q.2)->bT G cs vs->pE S cs ps=some out ->
 ∃z,Instr.fill S vs.toArray pv=some z.toArray/\bT G out z
 |[],[],cs,out,vs,_,_,hv,h=>by
  simp only[pE,aH]at h;subst h;exact⟨vs,rfl,hv⟩
 |[],q::pv,_,_,_,hl,_,_,_=>by simp at hl
 |p::ps,[],_,_,_,hl,_,_,_=>by simp at hl
 |(i,c)::ps,(i',v)::pv,cs,out,vs,hl,hp,hv,h=>by
  obtain⟨rfl,A⟩:=hp 0 (i,c) (i',v) rfl rfl;simp only[]at A;simp only[pE]at h;split at h
  .simp at h
  .rename_i F O Y;split at h
   .simp at h
   .rename_i C;have J:=A.cells;have V:v.cells.size=c.cells.length:=by rw[J.1];simp
    have Z:v.cells.size=O/\F+v.cells.size<=vs.length:=by
     rw[V,<-hv.1];constructor
     .apply Du;intro I;exact C (.inl I)
     .apply Du;intro I;exact C (.inr aa)
    obtain⟨z,K,o⟩:=AA (ps:=ps) (pv:=pv) (cs:=Ab.splice cs F c.cells) (out:=out) (vs:=vs.take F++v.cells.toList++vs.drop (F+v.cells.toList.length))
     (by simpa using hl) (fun j p q U M=>hp (j+1) p q x4 (by simpa using M)) (hv.splice J F) h
    refine⟨z,?_,o⟩;simp only[Instr.fill,Y];rw[ad ce];rw[<-K]
    congr 1
    apply lZ;have m:=Hx F v.cells.toList 0 vs.toArray ce;simp only[sZ]at m;rw[List.toList_toArray,<-m];rw[<-Array.foldl_toList,Array.toList_zipIdx]
theorem AB{E:aD}{a:Act}:∀{ps:List (Nat×Operand)}{out:qB},(∀p∈ps,∀c,aV E p.2=some c->VR G c (a.eval p.2))->ki E ps=some out ->
 out.length=(ps.map fun x=>(x.1,a.eval x.2)).length/\∀(i:Nat) p q,out[i]?=some p->(ps.map fun x=>(x.1,a.eval x.2))[i]?=some q->p.1=q.1/\VR G p.2 q.2
 |[],out,_,h=>by
  simp only[ki,aH]at h;subst h;exact⟨rfl,aI⟩
 |(i,x)::ps,out,hE,h=>by
  simp only[ki]at h;split at h
  .rename_i v vs U S;simp only[aH]at h;subst h;obtain⟨Z,m⟩:=AB (ps:=ps) (out:=vs) (fun p hp=>hE p (by simp[hp])) S;refine⟨rL,fun j p q A F=>?_⟩;cases j with
   |zero=>
    simp at A F;subst A F;exact⟨rfl,hE (i,x) aI v U⟩
   |succ j=>exact m j p q Am oL
  .simp at h
def Qn{ps:qB}{pv:List (Nat×Value)}(F:ps.length=pv.length)(hp:∀(i:Nat) p q,ps[i]?=some p->pv[i]?=some q->p.1=q.1/\VR G p.2 q.2)(h:cQ P t ps=some c):
 ∃v,(Instr.build t pv.toArray).run P w=.ok v w/\VR G c v:=by
 unfold cQ at h;split at h
 .rename_i z J V hd;split at h
  .rename_i S A;split at h
   .rename_i U O;simp only[aH]at h;subst h;obtain⟨it,zv,zc,o,K,Y,rfl⟩:=DA V;have M:=(vY (G:=G) Y).cells;obtain⟨Z,j,m⟩:=AA F hp M O;refine⟨.agg Z.toArray,run_build w t _ _ ?_,.agg m.1 m.2⟩;simp only[Program.built,o,hd,K];unfold G6 at A;rw[A];simp only[uB]at j;simpa using j
   .simp at h
  .simp at h
 .rename_i z n e V hd;split at h
  .rename_i s hs;split at h
   .rename_i U O;simp only[aH]at h;subst h;obtain⟨it,zv,zc,o,K,Y,rfl⟩:=DA V;have M:=(vY (G:=G) Y).cells;obtain⟨ie,I,C⟩:=Hl hs;obtain⟨Z,j,m⟩:=AA F hp M O;refine⟨.agg Z.toArray,run_build w t _ _ ?_,.agg m.1 m.2⟩;simp only[Program.built,o,hd,K,I,C];simp only[uB]at j;simpa using j
   .simp at h
  .simp at h
 .simp at h
theorem Hy(z:qm):∀(n j:Nat),j<n*z.length->(jy z n)[j]?=z[j%z.length]?
 |0,j,h=>by simp at h
 |n+1,j,h=>by
  simp only[jy];by_cases A:j<z.length
  .rw[lY A,Nat.mod_eq_of_lt A]
  .have Y:j<n*z.length+z.length:=by simpa [ta]using h
   rw[nJ aa,Hy z n (j-z.length) aa]
   congr 1
   exact(Nat.mod_eq_sub_mod aa).symm
theorem AC(z:qm):∀n,(jy z n).length=n*z.length
 |0=>by simp[jy]
 |n+1=>by simp[jy,AC z n,nK];omega
def DF{z:qm}{C:Array Value}(Y:bT G z C.toList)(n:Nat):bT G (jy z n) (((Array.range (n*z.length)).map (C[·% C.size]!))).toList:=by
 have Z:=Y.1;refine⟨by simp[AC],fun j c v hc U=>?_⟩;have A:j<n*z.length:=by
  have:=(eu.1 hc).1;rw[AC]at this;exact this
 rw[Hy z n j A]at hc;simp only[Dv,Array.toList_range,ev,uC A,iT]at U;have S:0<z.length:=by
  rcases Nat.eq_zero_or_pos z.length with e|e
  .rw[e]at A;omega
  .exact e
 have M:j%z.length<z.length:=Nat.mod_lt _ S;have K:C.size=z.length:=by simpa using Z.symm
 refine Y.2 (j%z.length) c v hc ?_;rw[K]at U;rw[<-U];simp[K,M]
theorem HA{S:Nat->Option (Nat×Nat)}:∀{J:qB}{cs C:qm},pE S cs J=some C->C.length=cs.length
 |[],cs,C,h=>by simp only[pE,aH]at h;rw[h]
 |(i,c)::J,cs,C,h=>by
  simp only[pE]at h;split at h
  .simp at h
  .split at h
   .simp at h
   .rename_i hc;rw[HA h,PY];apply Du;intro I;exact hc (.inr aa)
def HC{len:Nat}{ps:qB}{pv:List (Nat×Value)}(C:ps.length=pv.length)(A:∀(i:Nat) p q,ps[i]?=some p->pv[i]?=some q->p.1=q.1/\VR G p.2 q.2)
 (Y:dc P H t len ps=some (c,H')):oO P G w (Instr.buildSlice t len pv.toArray) id c H H':=by
 unfold dc at Y;split at Y
 .rename_i e hd;split at Y
  .rename_i s z S hz;split at Y
   .rename_i hc;obtain⟨h24,O⟩:=hc;split at Y
    .rename_i cs m;simp only[cC]at Y;obtain⟨rfl,rfl⟩:=Y;obtain⟨zv,M,K⟩:=vZ hz;have U:=DF (K G) len;obtain⟨Z,j,J⟩:=AA C A U m;have F:Z.length=len*s:=by
      rw[<-J.1,HA m,AC,O]
     refine⟨.cells cs 0 true,.cells (Z++[]).toArray e,Z.length+0,.slice (some ⟨w.heap.size,0,none⟩) len len,rfl,?_,.cells cs Z [] e J,fun G' o=>.sl o (aT _) aa⟩;rw[iS];show _=Result.ok (Value.slice (some ⟨w.heap.size,0,none⟩) len len) _
     .have I:¬(len*s > 2^24):=by omega
      rw[O]at j;by_cases V:len*s=0
      .rw[V]at j;simp at j;simp[Instr.buildSlice,dQ hd,jR S,V,newRow];rw[show Array.map (fun _:Nat=>(default:Value)) (Array.range 0)=#[]from by simp,j];rfl
      .simp only[uB]at j;simp[Instr.buildSlice,dQ hd,jR S,I,V,M,j,newRow]
    .simp at Y
   .simp at Y
  .simp at Y
 .simp at Y
theorem HD{l r:AV}{cv:Value}(hl:VR G l I)(hc:VR G c cv)(M:pF P H t l c=some (r,H')):
 oO P G w (Instr.makeSlice t I cv) id r H H':=by
 unfold pF at M;split at M
 .rename_i e k1 l k2 c hd;cases hl;cases hc;split at M
  .rename_i s b z A hb hz;split at M
   .rename_i Z;obtain⟨j,h2,h3,h4⟩:=Z;simp only[cC]at M;obtain⟨rfl,rfl⟩:=M;obtain⟨C,V,S⟩:=vZ hz;obtain⟨i,o,F⟩:∃i,P.info? e=some i/\i.bytes=b:=by simpa [cL,x7]using hb
    have M:dd=70368744177664:=rfl;rw[M]at h2 h3;have U:=DF (S G) l;have K:((Array.range (c*s)).map (C.cells[·% C.cells.size]!)).toList=((Array.range (l*s)).map (C.cells[·% C.cells.size]!)).toList++(((Array.range (c*s)).map (C.cells[·% C.cells.size]!)).toList.drop (l*s)):=by
     have Y:l*s<=c*s:=vV _ j
     conv=>lhs;rw[<-Dw (l*s) ((Array.range (c*s)).map (C.cells[·% C.cells.size]!)).toList]
     congr 1
     simp only[Dv,Array.toList_range,<-Dx];rw[List.take_range,As Y]
    rw[h4]at U;have O:zdE G (.cells (jy z l) 0 true) _ _:=.cells _ _ (((Array.range (c*s)).map (C.cells[·% C.cells.size]!)).toList.drop (l*s)) e U;rw[<-K,uB]at O;refine⟨_,_,_,.slice (some ⟨w.heap.size,0,none⟩) l c,rfl,?_,O,fun G' hG=>.sl hG j ?_⟩
    .show _=Result.ok (Value.slice (some ⟨w.heap.size,0,none⟩) l c) _;have ct:IntKind.i64.wrap (l:Int)=l:=x9 _ aa;have w2:IntKind.i64.wrap (c:Int)=c:=x9 _ aa;have J:¬((b:Int)*c > 2^48):=by
      have:(b:Int)*c=((c*b:Nat):Int):=by rw[Nat.mul_comm];simp
      rw[this];omega
     have m:¬((281474976710656:Int)<(b:Int)*c):=by simpa using J
     have h6:¬(c<l):=aa;have p1:¬((c:Int)<0):=aa;have p2:¬((l:Int)<0):=aa;simp only[Instr.makeSlice,eY,dQ hd,fd,asInt,asIntOf];by_cases h0:c*s=0
     .simp[td o,F,ct,w2,m,h6,p1,p2,jR A,h0,newRow];rw[show ∀f g:Nat->Value,Array.map f (Array.range 0)=Array.map g (Array.range 0)from fun f g=>aI]
     .simp[td o,F,ct,w2,m,h6,p1,p2,jR A,h0,V,newRow]
    .have Y:l*s<=c*s:=vV _ j;simp;omega
   .simp at M
  .simp at M
 .simp at M
end
end Go.Ab
