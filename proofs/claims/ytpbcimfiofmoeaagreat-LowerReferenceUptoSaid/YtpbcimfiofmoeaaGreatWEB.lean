/- Lemmas for the last file. -/
import Derived.Test.YtpbcimfiofmoeaaGreatWEA
import Derived.WalkKit
set_option linter.all false
set_option maxHeartbeats 32000000
namespace Go.Ab
set_option maxRecDepth 20000
open Go
abbrev qS:=Option Value
abbrev qH:=List Value
variable{qe:Prop}
def aw(h:qe:=by simp):=h
def CE(h:qe:=by simpa using hc):=h
def xR(h:qe:=by simpa using Z):=h
def ac(h:qe:=by omega):=h
def aX(h:qe:=by grind):=h
def bb(h:qe:=by simp_all):=h
def cb(h:qe:=by simp;omega):=h
def La(h:qe:=by rw[World.frozen?_alloc_old _ _ _ (by have:=rE h1;simp;omega)];exact h2):=h
def GJ(h:qe:=by have:=h.dv _ _ U;omega):=h
def fc(h:qe:=by rw[aD,if_pos rfl]):=h
def fO(h:qe:=by rw[Hp.get_set,if_pos rfl]):=h
def zK(h:qe:=by simp only[fz];omega):=h
def ju(h:qe:=by rw[Hp.get_set,if_neg z]):=h
def zL(h:qe:=by simpa using Y):=h
def Lb(h:qe:=by simpa [Instr.loadAt,Instr.sureAddr]using m):=h
def GK(h:qe:=by rw[Nat.add_assoc];exact .ptr hr):=h
def tE(h:qe:=by constructor):=h
def xS(h:qe:=by simp[binOp,Op.stringOp,ByteArray.toList_eq]):=h
def CF(h:qe:=by simpa using J):=h
def lZ(h:qe:=by assumption):=h
def em(h:qe:=by rw[aD,if_neg ac]):=h
def rD:=@List.getElem?_append_left
def uW:=@List.getElem?_append_right
def uX:=@List.getElem?_take
def ai:=@if_pos
def ay:=@Nat.le_refl
def dw:=@Nat.le_trans
def lh:=@Nat.lt_of_lt_of_le
def zM:=@Nat.ne_of_beq_eq_false
def nP:=@decide_true
def l0:=@decide_false
def af:=@if_neg
def aQ:=@Option.some.injEq
def lK:=@Array.getD_eq_getD_getElem?
def zN:=@Array.getElem?_setIfInBounds
def iw:=@Prod.mk.injEq
def gZ:=@List.getElem?_eq_some_iff
def bj:=@List.getElem?_eq_getElem
def bR:=@Nat.zero_add
def CG:=@Go.RowKit.Below.heap_alloc
def cG:=@Nat.le_succ
def GL:=@List.take_append_of_le_length
def gQ:=@List.take_of_length_le
def CH:=@List.drop_of_length_le
def iR:=@List.length_append
def oL:=@List.length_take
def gF:=@List.length_cons
def fq:=@List.length_nil
def CI:=@List.drop_drop
def lL:=@List.nil_append
def fU:=@Go.Sem.run_bind
def iH:=@Nat.add_assoc
def zO:=@List.getElem?_drop
def nQ:=@List.length_drop
def gG:=@Option.bind_eq_some_iff
def sC:=@Option.map_eq_some_iff
def fV:=@Go.Result.andThen_ok
def ft:=@if_true
def l7:=@Go.Sem.run_pure
def GM:=@List.getElem_of_mem
def zP:=@Bool.true_eq_false
def fG:=@if_false
def jv:=@Bool.or_eq_false_iff
def dB:=And.intro @aQ.{0} @iw.{0,0}
def l8:=And.intro @gF.{0} @fq.{0}
end Go.Ab
namespace Go.Ab
set_option maxRecDepth 20000
open Go Go.RowKit
structure Gh where
 β:Nat->Option (Nat×Nat×Nat)
 F:Nat->Nat->qS
 ρ:Nat->Int
structure Bs where
 eY:Nat
 ρ:Nat->Int
 cC:Cfg
variable{G J:Gh}{c x a y:AV}{v O Y V Z:Value}{cs:qu}{vs:qH}{w w':World}{B:Bs}{H H' X:Hp}{z b o j i:Nat}{I:Type}{P:Program}{s:Sem Value}{d:TypeDesc}{t:TypeId}{k:IntKind}{D:BinOp->Sx->Sx->qJ}
def pO(D:BinOp->Sx->Sx->qJ)(ρ:Nat->Int):Prop:=∀O k a b r,D O a b=some r->kK O k (a.eval ρ) (b.eval ρ)=some (.bool r)
inductive VR (G:Gh):AV->Value->Prop
 |int (k:IntKind) (n:Int):VR G (.int k n) (.int k n)
 |sx (k:IntKind) (e:Sx):VR G (.sx k e) (.int k (e.eval G.ρ))
 |bool (b:Bool):VR G (.bool b) (.bool b)
 |aj (s:ByteArray) (l:qA) (h:s.data.toList=l):VR G (.aj l) (.string s)
 |b0:VR G .b0 (.pointer none)
 |bD:VR G .bD (.map none)
 |ch:VR G .ch .nilFunc
 |ag:VR G .ag (.slice none 0 0)
 |ptr {r off b o x:Nat} (h:G.β r=some (b,o,x)):VR G (.ptr r off) (.pointer (some ⟨b,o+off,none⟩))
 |bI {cs:qu}{b o:Nat} (vs:Nat->Value) (hF:∀j,j<cs.length->G.F b (o+j)=some (vs j))
  (hv:∀(j:Nat) (c:AV),cs[j]?=some c->VR G c (vs j)):VR G (.bI cs) (.pointer (some ⟨b,o,none⟩))
 |sl {r off len z b o x cap:Nat} (h:G.β r=some (b,o,x)) (hl:len<=cap) (hc:off+cap*z<=x) :
  VR G (.sl r off len z) (.slice (some ⟨b,o+off,none⟩) len cap)
 |az {xs:List qu}{b o cap z:Nat} (vs:Nat->Nat->Value) (hz:∀(i:Nat) (row:qu),xs[i]?=some row->row.length=z)
  (hF:∀i j,i<xs.length->j<z->G.F b (o+i*z+j)=some (vs i j))
  (hv:∀(i j:Nat) (row:qu) (c:AV),xs[i]?=some row->row[j]?=some c->VR G c (vs i j)) (hc:xs.length<=cap) :
  VR G (.az xs) (.slice (some ⟨b,o,none⟩) xs.length cap)
 |lst0 (a:Option Addr) (cap:Nat):VR G (.az []) (.slice a 0 cap)
 |map {r b o x:Nat} (h:G.β r=some (b,o,x)):VR G (.map r) (.map (some b))
 |bJ {f:Nat}{cs:qu}{vs:qH} (hl:cs.length=vs.length) (hv:∀(i:Nat) c v,cs[i]?=some c->vs[i]?=some v->VR G c v) :
  VR G (.bJ f cs) (.func (.func f) #[] vs.toArray)
 |agg {cs:qu}{vs:qH} (hl:cs.length=vs.length) (hv:∀(i:Nat) c v,cs[i]?=some c->vs[i]?=some v->VR G c v) :
  VR G (.agg cs) (.agg vs.toArray)
 |a6 {cs:qu}{vs:qH} (hl:cs.length=vs.length) (hv:∀(i:Nat) c v,cs[i]?=some c->vs[i]?=some v->VR G c v) :
  VR G (.a6 cs) (.tuple vs.toArray)
def cc(G:Gh)(cs:qu)(vs:qH):Prop:=cs.length=vs.length/\∀(i:Nat) c v,cs[i]?=some c->vs[i]?=some v->VR G c v
def cc.nil(G:Gh):cc G [] []:=⟨rfl,aw⟩
def mc:=@cc.nil
def cc.cons(h:VR G c v)(U:cc G cs vs):cc G (c::cs) (v::vs):=by
 refine⟨by simp[U.1],fun i M j hc Z=>?_⟩;cases i with
 |zero=>simp_all
 |succ i=>exact U.2 i M j CE xR
def jJ:=@cc.cons
def cc.bp(h:cc G (c::cs) (v::vs)):VR G c v/\cc G cs vs:=
 ⟨h.2 0 c v rfl rfl,by simpa using h.1,fun i M j hc Z=>h.2 (i+1) M j CE xR⟩
def cc.append{Y:qu}{us:qH}(h:cc G cs vs)(U:cc G Y us):cc G (cs++Y) (vs++us):=by
 refine⟨by simp[h.1,U.1],fun i c v hc Z=>?_⟩;have O:=h.1;by_cases I:i<cs.length
 .rw[rD I]at hc;rw[rD ac]at Z;exact h.2 i c v hc Z
 .rw[uW ac]at hc;rw[uW ac]at Z;rw[<-O]at Z;exact U.2 _ c v hc Z
def cc.drop(h:cc G cs vs)(n:Nat):cc G (cs.drop n) (vs.drop n):=
 ⟨by simp[h.1],fun i c v hc Z=>h.2 (n+i) c v CE xR⟩
def cc.take(h:cc G cs vs)(n:Nat):cc G (cs.take n) (vs.take n):=by
 refine⟨by simp[h.1],fun i c v hc Z=>?_⟩;rw[uX]at hc Z;split at hc
 .rename_i I;rw[ai I]at Z;exact h.2 i c v hc Z
 .simp at hc
structure Ext (G G':Gh):Prop where
 β:∀r p,G.β r=some p->G'.β r=some p
 F:∀b o v,G.F b o=some v->G'.F b o=some v
 ρ:G'.ρ=G.ρ
def Ext.refl(G:Gh):Ext G G:=⟨fun _ _ h=>h,fun _ _ _ h=>h,rfl⟩
def xT:=@Ext.refl
def Ext.trans{a b c:Gh}(h:Ext a b)(k:Ext b c):Ext a c:=⟨fun r p hp=>k.β r p (h.β r p hp),fun x y v Z=>k.F x y v (h.F x y v Z),k.ρ.trans h.ρ⟩
def VR.mono(e:Ext G J)(h:VR G c v):VR J c v:=by
 induction h with
 |int k n=>exact .int k n
 |sx k x=>rw[<-e.ρ];exact .sx k x
 |bool b=>exact .bool b
 |aj s l h=>exact .aj s l h
 |b0=>exact .b0
 |bD=>exact .bD
 |ch=>exact .ch
 |ag=>exact .ag
 |ptr h=>exact .ptr (e.β _ _ h)
 |bI vs Z _ ih=>exact .bI vs (fun j Y=>e.F _ _ _ (Z j Y)) ih
 |sl h O hc=>exact .sl (e.β _ _ h) O hc
 |az vs C Z _ hc ih=>exact .az vs C (fun i j I Y=>e.F _ _ _ (Z i j I Y)) ih hc
 |lst0 a z=>exact .lst0 a z
 |map h=>exact .map (e.β _ _ h)
 |bJ O _ ih=>exact .bJ O ih
 |agg O _ ih=>exact .agg O ih
 |a6 O _ ih=>exact .a6 O ih
def cc.mono(e:Ext G J){c:qu}{v:qH}(h:cc G c v):cc J c v:=⟨h.1,fun i a b O hb=>(h.2 i a b O hb).mono e⟩
theorem VR.co(h:VR G c v):v.oneCell'=c.one:=by cases h<;>rfl
def VR.cells{G:Gh}{c:AV}{v:Value}(h:VR G c v):cc G c.cells v.cells.toList:=by
 cases h with
 |agg O Z=>exact⟨by simpa [AV.cells,Value.cells]using O,by simpa [AV.cells,Value.cells]using Z⟩
 |_=>exact jJ (by constructor<;>assumption) (mc _)
def jK(G:Gh)(w:World)(b o:Nat)(cs:qu):Prop:=∀(j:Nat) (c:AV),cs[j]?=some c->∃v,w.cell? ⟨b,o+j,none⟩=some v/\VR G c v
def fz(x:Nat)(cs:qu):Bool->Nat
 |true=>x
 |false=>cs.length
def tF(G:Gh)(I:qR)(ms:List MapEntry):Prop:=
 I.length=ms.length/\∀(i:Nat) e m,I[i]?=some e->ms[i]?=some m->VR G e.1 m.key/\VR G e.2 m.val
structure R (B:Bs) (H:Hp) (w:World) (G:Gh):Prop where
 ci:B.eY<=w.heap.size
 dv:∀r p,G.β r=some p->r<H.next
 lt:∀r b o x,G.β r=some (b,o,x)->B.eY<=b/\b<w.heap.size
 cells:∀r b o x cs imm tip,G.β r=some (b,o,x)->H.get r=some (.cells cs imm tip)->jK G w b o cs
 aP:∀r b o x cs imm tip,G.β r=some (b,o,x)->H.get r=some (.cells cs imm tip)->∀j,j<imm->j<cs.length->∃v,G.F b (o+j)=some v
 ext:∀r b o x cs imm tip,G.β r=some (b,o,x)->H.get r=some (.cells cs imm tip)->cs.length<=fz x cs tip
 bM:∀r b o x cs imm tip,G.β r=some (b,o,x)->H.get r=some (.cells cs imm tip)->∀j,imm<=j->j<fz x cs tip ->
  (∃v,w.cell? ⟨b,o+j,none⟩=some v)/\w.frozen? ⟨b,o+j,none⟩=false/\G.F b (o+j)=none
 apart:∀r b o x cs imm tip r' b' o' x' cs' imm' tip',G.β r=some (b,o,x)->H.get r=some (.cells cs imm tip) ->
  G.β r'=some (b',o',x')->H.get r'=some (.cells cs' imm' tip')->r≠r' ->
  ∀j j',imm<=j->j<fz x cs tip->imm'<=j'->j'<fz x' cs' tip'->b=b'->o+j≠o'+j'
 map:∀r b o x es,G.β r=some (b,o,x)->H.get r=some (.map es)->∃ms clock,w.heap[b]?=some (.map ms clock)/\tF G es ms.toList
 aZ:∀r b o x es r' b' o' x',G.β r=some (b,o,x)->H.get r=some (.map es)->G.β r'=some (b',o',x')->(H.get r').isSome->r≠r'->b≠b'
 dB:∀b o v,G.F b o=some v->w.cell? ⟨b,o,none⟩=some v
 val:G.ρ=B.ρ
 ec:pO B.cC.dI B.ρ
 b7:∀r b o x cs imm tip,G.β r=some (b,o,x)->H.get r=some (.cells cs imm tip)->cs.length<=x
structure Fr (G:Gh) (w w':World):Prop where
 os:w'.os=w.os
 tape:w'.tape=w.tape
 output:w'.output=w.output
 size:w.heap.size<=w'.heap.size
 block:∀k,k<w.heap.size->(∀r b o x,G.β r=some (b,o,x)->b≠k)->w'.heap[k]?=w.heap[k]?
def Fr.refl(G:Gh)(w:World):Fr G w w:=⟨rfl,rfl,rfl,ay _,fun _ _ _=>rfl⟩
def zQ:=@Fr.refl
def tG(G J:Gh)(w:World):Prop:=∀r b o x,J.β r=some (b,o,x)->G.β r=some (b,o,x)\/w.heap.size<=b\/∃j V Z,G.β j=some (b,V,Z)
def Fr.trans{a b c:World}(h:Fr G a b)(k:Fr J b c)(n:tG G J a):Fr G a c:=
 ⟨k.os.trans h.os,k.tape.trans h.tape,k.output.trans h.output,dw h.size k.size,fun i I Z=>
  (k.block i (lh I h.size) (fun r b o x hr Y=>by
    rcases n r b o x hr with m|m|⟨j,V,U,m⟩
    .exact Z r b o x m Y
    .omega
    grind)).trans (h.block i I Z)⟩
def tG.refl(G:Gh)(w:World):tG G G w:=fun _ _ _ _ h=>.inl h
def ww:=@tG.refl
def tG.trans{O:Gh}(h:tG G J w)(k:tG J O w')(U:w.heap.size<=w'.heap.size):tG G O w:=fun r b o x hr=>by
 rcases k r b o x hr with m|m|⟨Z,V,Y,m⟩
 .exact h r b o x m
 .omega
 .rcases h Z b V Y m with j|j|j
  .exact .inr (.inr ⟨Z,V,Y,j⟩)
  .exact .inr (.inl j)
  simp_all
structure Step (B:Bs) (nx:Nat) (G:Gh) (w:World) (H':Hp) (w':World) (G':Gh):Prop where
 r:R B H' w' G'
 ext:Ext G G'
 fr:Fr G w w'
 new:tG G G' w
 cL:∀r p,G'.β r=some p->G.β r=some p\/nx<=r
 mono:nx<=H'.next
 dj:∀b o v,G'.F b o=some v->G.F b o=some v\/B.eY<=b
variable{r:Nat}
def Step.refl(h:R B H w G):Step B H.next G w H w G:=⟨h,xT _,zQ _ _,ww _ _,fun _ _ h=>.inl h,ay _,fun _ _ _ h=>.inl h⟩
def md:=@Step.refl
def Step.trans{Z:Hp}{O:Gh}{U:World}(h:Step B z G w H' w' J)(k:Step B H'.next J w' Z U O):Step B z G w Z U O:=
 ⟨k.r,h.ext.trans k.ext,h.fr.trans k.fr h.new,h.new.trans k.new h.fr.size,fun r p hr=>by
  rcases k.cL r p hr with m|m
  .exact h.cL r p m
  .exact .inr (dw h.mono m),dw h.mono k.mono,fun b o v Y=>by
  rcases k.dj b o v Y with m|m
  .exact h.dj b o v m
  .exact .inr m⟩
structure TR (N:Nat) (G:Gh) (E:aq) (a:Act):Prop where
 size:a.tmps.size=N
 b8:∀t,VR G (E.at t) (a.tmps.getD t undef)
def TR.mono{N:Nat}{E:aq}{a:Act}(e:Ext G J)(h:TR N G E a):TR N J E a:=⟨h.size,fun t=>(h.b8 t).mono e⟩
def VR.undef(G:Gh):VR G dH Go.undef:=.a6 (cs:=[]) (vs:=[]) rfl aw
def zR:=@VR.undef
@[simp] theorem tH {α:Type} (x y:α):kJ true x y=x:=rfl
@[simp] theorem nR {α:Type} (x y:α):kJ false x y=y:=rfl
theorem zS(k:Nat):(T.e:T I).get k=none:=rfl
theorem wy(v:Option I)(l r:T I)(k:Nat):
 (T.n v l r).get k=kJ (Nat.beq k 0) v (kJ (Nat.beq (Nat.mod k 2) 1) (l.get (Nat.div k 2)) (r.get (Nat.sub (Nat.div k 2) 1))):=rfl
theorem CJ(v:Option I)(f:Nat)(t:T I)(k:Nat):jR v (f+1) t k=T.casesOn t
 (kJ (Nat.beq k 0) (.n v .e .e) (kJ (Nat.beq (Nat.mod k 2) 1) (.n none (jR v f .e (Nat.div k 2)) .e) (.n none .e (jR v f .e (Nat.sub (Nat.div k 2) 1)))))
 (fun u l r=>kJ (Nat.beq k 0) (.n v l r) (kJ (Nat.beq (Nat.mod k 2) 1) (.n u (jR v f l (Nat.div k 2)) r) (.n u l (jR v f r (Nat.sub (Nat.div k 2) 1))))):=rfl
def Vl{O:Type}(v:Option O):∀(f:Nat) (t:T O) (k j:Nat),k<f->(jR v f t k).get j=if j=k then v else t.get j:=by
 intro f;induction f with
 |zero=>omega
 |succ f ih=>
  intro t k j h;have hd:∀n:Nat,Nat.div n 2=n/2:=fun _=>rfl;have M:∀n:Nat,Nat.mod n 2=n%2:=fun _=>rfl;have J:∀n:Nat,Nat.sub n 1=n-1:=fun _=>rfl;have C:∀n m:Nat,Nat.beq n m=decide (n=m):=fun n m=>by
   cases h:Nat.beq n m with
   |true=>simp_all
   |false=>have e:=zM h;simp[e]
  rw[CJ];cases t with
  |e=>
   simp only[];by_cases Y:k=0
   .subst Y;simp only[C,nP,tH,wy,zS];by_cases U:j=0<;>simp[U] ;cases decide (j.mod 2=1)<;>rfl
   .simp only[C,Y,l0,nR];by_cases I:Nat.mod k 2=1
    .simp only[I,nP,tH,wy,C];by_cases Z:j=0
     .subst Z;simp[zS];omega
     .simp only[Z,l0,nR];by_cases V:Nat.mod j 2=1
      .simp only[V,nP,tH];rw[ih _ _ _ (by rw[hd];omega)];rw[hd,hd,M]at *;by_cases e:j=k
       .subst e;simp
       .rw[af ac,af e];rfl
      .simp only[V,l0,nR,zS]
       grind
    .simp only[I,l0,nR,wy,C];by_cases Z:j=0
     .subst Z;simp[zS];omega
     .simp only[Z,l0,nR];by_cases V:Nat.mod j 2=1
      .simp only[V,nP,tH,zS]
       grind
      .simp only[V,l0,nR];rw[ih _ _ _ aX];rw[hd,hd,J,J];rw[M]at I V;by_cases e:j=k
       .subst e;simp
       .rw[af ac,af e];rfl
  |n u l r=>
   simp only[];by_cases Y:k=0
   .subst Y;simp only[C,nP,tH,wy];by_cases U:j=0<;>simp[U]
   .simp only[C,Y,l0,nR];by_cases I:Nat.mod k 2=1
    .simp only[I,nP,tH,wy,C];by_cases Z:j=0
     .subst Z;simp;omega
     .simp only[Z,l0,nR];by_cases V:Nat.mod j 2=1
      .simp only[V,nP,tH]
       grind
      .simp only[V,l0,nR]
       grind
    .simp only[I,l0,nR,wy,C];by_cases Z:j=0
     .subst Z;simp;omega
     .simp only[Z,l0,nR];by_cases V:Nat.mod j 2=1
      .simp only[V,nP,tH]
       grind
      .simp only[V,l0,nR]
       grind
def T.get_set{I:Type}(t:T I)(k j:Nat)(v:Option I):(t.set k v).get j=if j=k then v else t.get j:=Vl v (k+1) t k j ac
def CK:=@T.get_set
def Hp.get_set(h:Hp)(r j:Nat)(b:HB):(h.set r b).get j=if j=r then some b else h.get j:=CK _ _ _ _
def aM:=@Hp.get_set
def iy(h:Hp)(r j:Nat):(h.a0 r).get j=if j=r then none else h.get j:=CK _ _ _ _
def aD(h:Hp)(j:Nat)(b:HB):(h.alloc b).get j=if j=h.next then some b else h.get j:=CK _ _ _ _
@[simp] theorem bq (h:Hp) (r:Nat) (b:HB):(h.set r b).next=h.next:=rfl
@[simp] theorem tI (h:Hp) (r:Nat):(h.a0 r).next=h.next:=rfl
@[simp] theorem aU (h:Hp) (b:HB):(h.alloc b).next=h.next+1:=rfl
theorem xU(E:aq)(d t:Nat)(v:AV):aq.at (T.set E d (some v)) t=if t=d then v else E.at t:=by
 unfold aq.at;rw[CK];split<;>rfl
def TR.put{N:Nat}{G:Gh}{E Z:aq}{a:Act}(h:TR N G E a){U:Option Tmp}{c:AV}{v:Value}(O:VR G c v)(V:fN N E U c=some Z):TR N G Z (a.put U v):=by
 cases U with
 |none=>simp[fN]at V;subst V;exact h
 |some d=>
  simp only[fN]at V;split at V
  .rename_i hd;simp only[aQ]at V;subst V;have Y:d<N:=bb;refine⟨by simp[Act.put,h.size],fun t=>?_⟩;rw[xU];simp only[Act.put];by_cases e:t=d
   .subst e;rw[ai rfl];simpa [Array.getD,h.size,Y]using O
   .rw[af e];have:=h.b8 t;simpa [lK,zN,Ne.symm e]using this
  .simp at V
def rE(h:w.cell? ⟨b,o,none⟩=some v):b<w.heap.size:=World.block_lt_of_cell? w ⟨b,o,none⟩ h
def R.congr(h:R B H w G)(z:H'.next=H.next)(hg:∀r,(G.β r).isSome->H'.get r=H.get r):R B H' w G:=by
 have k:∀r p,G.β r=some p->H'.get r=H.get r:=fun r p hr=>hg r (by simp[hr]);exact{
  ci:=h.ci
  dv:=fun r p hr=>by rw[z];exact h.dv r p hr
  lt:=h.lt
  cells:=fun r b o x I imm C hr hc=>h.cells r b o x I imm C hr bb
  aP:=fun r b o x I imm C hr hc=>h.aP r b o x I imm C hr bb
  ext:=fun r b o x I imm C hr hc=>h.ext r b o x I imm C hr bb
  b7:=fun r b o x I imm C hr hc=>h.b7 r b o x I imm C hr bb
  bM:=fun r b o x I imm C hr hc=>h.bM r b o x I imm C hr bb
  apart:=fun r b o x I imm C j b' Y O M U V hr hc Z m=>h.apart r b o x I imm C j b' Y O M U V hr bb Z bb
  map:=fun r b o x J hr hc=>h.map r b o x J hr bb
  aZ:=fun r b o x J j b' Y O hr hc Z hs=>h.aZ r b o x J j b' Y O hr bb Z bb
  dB:=h.dB
  val:=h.val
  ec:=h.ec}
def R.a0{B:Bs}{H:Hp}{w:World}{G:Gh}(h:R B H w G)(br:Nat):R B (H.a0 br) w G:=by
 have k:∀j b,(H.a0 br).get j=some b->H.get j=some b:=fun j b hj=>by
  rw[iy]at hj;simp_all
 exact{
  ci:=h.ci
  dv:=h.dv
  lt:=h.lt
  cells:=fun r b o x I imm C hr hc=>h.cells r b o x I imm C hr (k _ _ hc)
  aP:=fun r b o x I imm C hr hc=>h.aP r b o x I imm C hr (k _ _ hc)
  ext:=fun r b o x I imm C hr hc=>h.ext r b o x I imm C hr (k _ _ hc)
  b7:=fun r b o x I imm C hr hc=>h.b7 r b o x I imm C hr (k _ _ hc)
  bM:=fun r b o x I imm C hr hc=>h.bM r b o x I imm C hr (k _ _ hc)
  apart:=fun r b o x I imm C Y b' O M J U V hr hc Z z=>h.apart r b o x I imm C Y b' O M J U V hr (k _ _ hc) Z (k _ _ z)
  map:=fun r b o x m hr hc=>h.map r b o x m hr (k _ _ hc)
  aZ:=fun r b o x m Y b' O M hr hc Z hs=>h.aZ r b o x m Y b' O M hr (k _ _ hc) Z (by
   cases hh:(H.a0 br).get Y with
   |none=>simp[hh]at hs
   |some b=>simp_all)
  dB:=h.dB
  val:=h.val
  ec:=h.ec}
def Gh.add(G:Gh)(r:Nat)(p:Nat×Nat×Nat):Gh:={β:=fun k=>if k=r then some p else G.β k,F:=G.F,ρ:=G.ρ}
def tJ(G:Gh)(r:Nat)(p:Nat×Nat×Nat):(G.add r p).β r=some p:=by simp[Gh.add]
def GN{p:Nat×Nat×Nat}(h:∀q,G.β r=some q->False):Ext G (G.add r p):=
 ⟨fun k q z=>by
  simp only[Gh.add]
  grind,fun _ _ _ h=>h,rfl⟩
def jK.mono(e:Ext G J)(h:jK G w b o cs):jK J w b o cs:=
 fun j c Y=>let ⟨v,m,Z⟩:=h j c Y;⟨v,m,Z.mono e⟩
def tF.mono{I:qR}{ms:List MapEntry}(e:Ext G J)(h:tF G I ms):tF J I ms:=
 ⟨h.1,fun i a b O hb=>⟨(h.2 i a b O hb).1.mono e,(h.2 i a b O hb).2.mono e⟩⟩
def Lc{nx br:Nat}(h:R B X w G)(hno:∀q,G.β br=some q->False)(hlt0:br<X.next)(Z:X.get br=some (.cells cs 0 true))(hnx:nx<=br)
 (hv:cc G cs vs) (m:qH) (e:TypeId) :
 Step B nx G w X (w.alloc (.cells (vs++m).toArray e)) (G.add br (w.heap.size,0,vs.length+m.length)):=by
 have M:Ext G (G.add br (w.heap.size,0,vs.length+m.length)):=GN hno;have hold:∀k b' o',k<w.heap.size->b'=k->(w.alloc (.cells (vs++m).toArray e)).cell? ⟨b',o',none⟩=w.cell? ⟨b',o',none⟩:=fun k b' o' hk hb=>World.cell?_alloc_lt _ _ _ (by simpa [hb]using hk);have hnew:∀j,(w.alloc (.cells (vs++m).toArray e)).cell? ⟨w.heap.size,j,none⟩=(vs++m)[j]?:=fun j=>by
  rw[World.cell?_alloc_new];simp
 have Y:∀r p,(G.add br (w.heap.size,0,vs.length+m.length)).β r=some p->(r=br/\p=(w.heap.size,0,vs.length+m.length))\/(r≠br/\G.β r=some p):=fun r p hr=>by
  simp only[Gh.add]at hr;split at hr
  .rename_i e;exact .inl ⟨e,by simpa using hr.symm⟩
  .rename_i e;exact .inr ⟨e,hr⟩
 refine⟨?_,M,⟨rfl,rfl,rfl,aw,fun k hk _=>?_⟩,fun r b o x hr=>?_,fun r p hr=>(Y r p hr).elim (fun e=>.inr (by rw[e.1];exact hnx)) (fun e=>.inl e.2),ac,fun _ _ _ h=>.inl h⟩
 .exact{
   ci:=by have:=h.ci;simp;omega
   dv:=fun r p hr=>by
    rcases Y r p hr with⟨rfl,_⟩|⟨_,I⟩
    .exact hlt0
    .exact h.dv r p I
   lt:=fun r b o x hr=>by
    rcases Y r _ hr with⟨rfl,hp⟩|⟨_,I⟩
    .simp only[iw]at hp;obtain⟨rfl,rfl,rfl⟩:=hp;exact⟨h.ci,aw⟩
    .have:=h.lt r b o x I;exact⟨this.1,cb⟩
   cells:=fun r b o x U imm C hr hc=>by
    rcases Y r _ hr with⟨rfl,hp⟩|⟨V,I⟩
    .simp only[iw]at hp;obtain⟨rfl,rfl,rfl⟩:=hp;rw[Z]at hc;simp only[aQ,HB.cells.injEq]at hc;obtain⟨rfl,rfl,rfl⟩:=hc;intro j c hj;have O:j<cs.length:=(gZ.1 hj).1;have hjv:j<vs.length:=by have:=hv.1;omega
     refine⟨vs[j],?_,(hv.2 j c _ hj (bj hjv)).mono M⟩;rw[bR,hnew,rD hjv,bj hjv]
    .intro j c hj;obtain⟨v,h1,h2⟩:=h.cells r b o x U imm C I hc j c hj;exact⟨v,by rw[hold _ _ _ (rE h1) rfl];exact h1,h2.mono M⟩
   aP:=fun r b o x U imm C hr hc j hj O=>by
    rcases Y r _ hr with⟨rfl,hp⟩|⟨V,I⟩
    .rw[Z]at hc;simp only[aQ,HB.cells.injEq]at hc;obtain⟨rfl,rfl,rfl⟩:=hc;omega
    .exact h.aP r b o x U imm C I hc j hj O
   ext:=fun r b o x U imm C hr hc=>by
    rcases Y r _ hr with⟨rfl,hp⟩|⟨V,I⟩
    .simp only[iw]at hp;obtain⟨rfl,rfl,rfl⟩:=hp;rw[Z]at hc;simp only[aQ,HB.cells.injEq]at hc;obtain⟨rfl,rfl,rfl⟩:=hc;have:=hv.1;simp only[fz];omega
    .exact h.ext r b o x U imm C I hc
   b7:=fun r b o x U imm C hr hc=>by
    rcases Y r _ hr with⟨rfl,hp⟩|⟨V,I⟩
    .simp only[iw]at hp;obtain⟨rfl,rfl,rfl⟩:=hp;rw[Z]at hc;simp only[aQ,HB.cells.injEq]at hc;obtain⟨rfl,rfl,rfl⟩:=hc;have:=hv.1;omega
    .exact h.b7 r b o x U imm C I hc
   bM:=fun r b o x U imm C hr hc j hj O=>by
    rcases Y r _ hr with⟨rfl,hp⟩|⟨V,I⟩
    .simp only[iw]at hp;obtain⟨rfl,rfl,rfl⟩:=hp;rw[Z]at hc;simp only[aQ,HB.cells.injEq]at hc;obtain⟨rfl,rfl,rfl⟩:=hc;simp only[fz]at O;refine⟨⟨(vs++m)[j]' cb,?_⟩,?_,?_⟩
     .rw[bR,hnew,bj]
     .simp
     .cases hf:G.F w.heap.size (0+j)with
      |none=>exact hf
      |some v=>have:=rE (h.dB _ _ _ hf);omega
    .obtain⟨⟨v,h1⟩,h2,h3⟩:=h.bM r b o x U imm C I hc j hj O;exact⟨⟨v,by rw[hold _ _ _ (rE h1) rfl];exact h1⟩,La,h3⟩
   apart:=fun r b o x cs1 imm C r' b' o' x' cs2 imm' tip' hr hc I hc' V j j' hj O hj' hjl' he=>by
    rcases Y r _ hr with⟨rfl,hp⟩|⟨hn1,J⟩
    .simp only[iw]at hp;obtain⟨rfl,rfl,rfl⟩:=hp;rcases Y r' _ I with⟨rfl,hp⟩|⟨hn2,z⟩
     .exact(V rfl).elim
     .have:=(h.lt r' b' o' x' z).2;omega
    .rcases Y r' _ I with⟨rfl,hp⟩|⟨hn2,z⟩
     .simp only[iw]at hp;obtain⟨rfl,rfl,rfl⟩:=hp;have:=(h.lt r b o x J).2;omega
     .exact h.apart r b o x cs1 imm C r' b' o' x' cs2 imm' tip' J hc z hc' V j j' hj O hj' hjl' he
   map:=fun r b o x es hr hc=>by
    rcases Y r _ hr with⟨rfl,hp⟩|⟨V,I⟩
    .rw[Z]at hc;simp at hc
    .obtain⟨ms,clock,h1,h2⟩:=h.map r b o x es I hc;refine⟨ms,clock,?_,h2.mono M⟩;rw[CG _ _ _ (h.lt r b o x I).2];exact h1
   aZ:=fun r b o x es r' b' o' x' hr hc I hs V=>by
    rcases Y r _ hr with⟨rfl,hp⟩|⟨hn1,J⟩
    .rw[Z]at hc;simp at hc
    .rcases Y r' _ I with⟨rfl,hp⟩|⟨hn2,z⟩
     .simp only[iw]at hp;obtain⟨rfl,rfl,rfl⟩:=hp;have:=(h.lt r b o x J).2;omega
     .exact h.aZ r b o x es r' b' o' x' J hc z hs V
   dB:=fun b o v hf=>by
    have:=h.dB b o v hf;rw[hold _ _ _ (rE this) rfl];exact this
   val:=h.val
   ec:=h.ec}
 .exact CG _ _ _ hk
 grind
def Ld{nx br:Nat}(h:R B X w G)(hno:∀q,G.β br=some q->False)(hlt0:br<X.next)(Z:X.get br=some (.map []))(hnx:nx<=br):
 Step B nx G w X (w.alloc (.map #[] 0)) (G.add br (w.heap.size,0,0)):=by
 have J:Ext G (G.add br (w.heap.size,0,0)):=GN hno;have z:∀k b' o',k<w.heap.size->b'=k->(w.alloc (.map #[] 0)).cell? ⟨b',o',none⟩=w.cell? ⟨b',o',none⟩:=fun k b' o' hk hb=>World.cell?_alloc_lt _ _ _ (by simpa [hb]using hk);have Y:∀r p,(G.add br (w.heap.size,0,0)).β r=some p->(r=br/\p=(w.heap.size,0,0))\/(r≠br/\G.β r=some p):=fun r p hr=>by
  simp only[Gh.add]at hr;split at hr
  .rename_i e;exact .inl ⟨e,by simpa using hr.symm⟩
  .rename_i e;exact .inr ⟨e,hr⟩
 refine⟨?_,J,⟨rfl,rfl,rfl,aw,fun k hk _=>?_⟩,fun r b o x hr=>?_,fun r p hr=>(Y r p hr).elim (fun e=>.inr (by rw[e.1];exact hnx)) (fun e=>.inl e.2),ac,fun _ _ _ h=>.inl h⟩
 .exact{
   ci:=by have:=h.ci;simp;omega
   dv:=fun r p hr=>by
    rcases Y r p hr with⟨rfl,_⟩|⟨_,I⟩
    .exact hlt0
    .exact h.dv r p I
   lt:=fun r b o x hr=>by
    rcases Y r _ hr with⟨rfl,hp⟩|⟨_,I⟩
    .simp only[iw]at hp;obtain⟨rfl,rfl,rfl⟩:=hp;exact⟨h.ci,aw⟩
    .have:=h.lt r b o x I;exact⟨this.1,cb⟩
   cells:=fun r b o x U imm C hr hc=>by
    rcases Y r _ hr with⟨rfl,hp⟩|⟨V,I⟩
    .rw[Z]at hc;simp at hc
    .intro j c hj;obtain⟨v,h1,h2⟩:=h.cells r b o x U imm C I hc j c hj;exact⟨v,by rw[z _ _ _ (rE h1) rfl];exact h1,h2.mono J⟩
   aP:=fun r b o x U imm C hr hc j hj O=>by
    rcases Y r _ hr with⟨rfl,hp⟩|⟨V,I⟩
    .rw[Z]at hc;simp at hc
    .exact h.aP r b o x U imm C I hc j hj O
   ext:=fun r b o x U imm C hr hc=>by
    rcases Y r _ hr with⟨rfl,hp⟩|⟨V,I⟩
    .rw[Z]at hc;simp at hc
    .exact h.ext r b o x U imm C I hc
   b7:=fun r b o x U imm C hr hc=>by
    rcases Y r _ hr with⟨rfl,hp⟩|⟨V,I⟩
    .rw[Z]at hc;simp at hc
    .exact h.b7 r b o x U imm C I hc
   bM:=fun r b o x U imm C hr hc j hj O=>by
    rcases Y r _ hr with⟨rfl,hp⟩|⟨V,I⟩
    .rw[Z]at hc;simp at hc
    .obtain⟨⟨v,h1⟩,h2,h3⟩:=h.bM r b o x U imm C I hc j hj O;exact⟨⟨v,by rw[z _ _ _ (rE h1) rfl];exact h1⟩,La,h3⟩
   apart:=fun r b o x cs1 imm C r' b' o' x' cs2 imm' tip' hr hc I hc' V j j' hj O hj' hjl' he=>by
    rcases Y r _ hr with⟨rfl,hp⟩|⟨hn1,m⟩
    .rw[Z]at hc;simp at hc
    .rcases Y r' _ I with⟨rfl,hp⟩|⟨hn2,M⟩
     .rw[Z]at hc';simp at hc'
     .exact h.apart r b o x cs1 imm C r' b' o' x' cs2 imm' tip' m hc M hc' V j j' hj O hj' hjl' he
   map:=fun r b o x es hr hc=>by
    rcases Y r _ hr with⟨rfl,hp⟩|⟨V,I⟩
    .simp only[iw]at hp;obtain⟨rfl,rfl,rfl⟩:=hp;rw[Z]at hc;simp only[aQ,HB.map.injEq]at hc;subst hc;exact⟨#[],0,by show(w.heap.push _)[w.heap.size]?=_;simp,rfl,aw⟩
    .obtain⟨ms,clock,h1,h2⟩:=h.map r b o x es I hc;refine⟨ms,clock,?_,h2.mono J⟩;rw[CG _ _ _ (h.lt r b o x I).2];exact h1
   aZ:=fun r b o x es r' b' o' x' hr hc I hs V=>by
    rcases Y r _ hr with⟨rfl,hp⟩|⟨hn1,m⟩
    .simp only[iw]at hp;obtain⟨rfl,rfl,rfl⟩:=hp;rcases Y r' _ I with⟨rfl,hp⟩|⟨hn2,M⟩
     .exact(V rfl).elim
     .have:=(h.lt r' b' o' x' M).2;omega
    .rcases Y r' _ I with⟨rfl,hp⟩|⟨hn2,M⟩
     .simp only[iw]at hp;obtain⟨rfl,rfl,rfl⟩:=hp;have:=(h.lt r b o x m).2;omega
     .exact h.aZ r b o x es r' b' o' x' m hc M hs V
   dB:=fun b o v hf=>by
    have:=h.dB b o v hf;rw[z _ _ _ (rE this) rfl];exact this
   val:=h.val
   ec:=h.ec}
 .exact CG _ _ _ hk
 grind
def R.more(h:R B H w G)(z:H.next<=X.next)(hg:∀r,r<H.next->X.get r=H.get r):R B X w G:=by
 have k:∀r p,G.β r=some p->X.get r=H.get r:=fun r p hr=>hg r (h.dv r p hr);exact{
  ci:=h.ci
  dv:=fun r p hr=>lh (h.dv r p hr) z
  lt:=h.lt
  cells:=fun r b o x I imm C hr hc=>h.cells r b o x I imm C hr aX
  aP:=fun r b o x I imm C hr hc=>h.aP r b o x I imm C hr aX
  ext:=fun r b o x I imm C hr hc=>h.ext r b o x I imm C hr aX
  b7:=fun r b o x I imm C hr hc=>h.b7 r b o x I imm C hr aX
  bM:=fun r b o x I imm C hr hc=>h.bM r b o x I imm C hr aX
  apart:=fun r b o x I imm C j b' Y O M U V hr hc Z m=>h.apart r b o x I imm C j b' Y O M U V hr aX Z aX
  map:=fun r b o x J hr hc=>h.map r b o x J hr aX
  aZ:=fun r b o x J j b' Y O hr hc Z hs=>h.aZ r b o x J j b' Y O hr aX Z aX
  dB:=h.dB
  val:=h.val
  ec:=h.ec}
def R.alloc(h:R B H w G)(M:HB):R B (H.alloc M) w G:=
 h.more (cG _) (fun r hr=>em)
def CL(h:R B H w G)(Z:cc G cs vs)(m:qH)(e:TypeId):
 Step B H.next G w (H.alloc (.cells cs 0 true)) (w.alloc (.cells (vs++m).toArray e)) (G.add H.next (w.heap.size,0,vs.length+m.length)):=
 Lc (h.alloc _) (fun q U=>GJ) aw fc (ay _) Z m e
def Vm(h:R B H w G):
 Step B H.next G w (H.alloc (.map [])) (w.alloc (.map #[] 0)) (G.add H.next (w.heap.size,0,0)):=
 Ld (h.alloc _) (fun q U=>GJ) aw fc (ay _)
inductive zis (G:Gh):HB->Obj->Nat->Prop
 |cells (cs:qu) (vs spare:qH) (e:TypeId) (hv:cc G cs vs):zis G (.cells cs 0 true) (.cells (vs++spare).toArray e) (vs.length+spare.length)
 |map:zis G (.map []) (.map #[] 0) 0
def Le{U br:Nat}{M:HB}{z:Obj}{ext:Nat}(h:R B X w G)(Y:∀q,G.β br=some q->False)(Z:br<X.next)(hg:X.get br=some M)(V:U<=br)(O:zis G M z ext):
 Step B U G w X (w.alloc z) (G.add br (w.heap.size,0,ext)):=by
 cases O with
 |cells I vs m e J=>exact Lc h Y Z hg V J m e
 |map=>exact Ld h Y Z hg V
def rF(P:Program)(G:Gh)(w:World)(s:Sem I)(f:Value->I)(c:AV)(H H':Hp):Prop:=
 ∃M z ext v,H'=H.alloc M/\s.run P w=.ok (f v) (w.alloc z)/\zis G M z ext/\∀J:Gh,J.β H.next=some (w.heap.size,0,ext)->VR J c v
def rF.sim(h:R B H w G)(Y:rF P G w s id c H H'):∃v I J,s.run P w=.ok v I/\VR J c v/\Step B H.next G w H' I J:=by
 obtain⟨M,z,ext,v,rfl,m,j,C⟩:=Y;exact⟨v,_,_,m,C _ (tJ _ _ _),Le (h.alloc _) (fun q U=>GJ) aw fc (ay _) j⟩
def rF.next(Y:rF P G w s id c H H'):rF P G w (do pure (.value (<-s)):Sem Next) Next.value c H H':=by
 obtain⟨M,z,ext,v,m,Z,j,C⟩:=Y;exact⟨M,z,ext,v,m,by simp[Z],j,C⟩
def Vn{C V:Nat}(h:b=C->o≠V):(⟨b,o,none⟩:Addr)≠⟨C,V,none⟩:=fun e=>by
 simp_all
theorem Vo(h:R B H w G){x:Nat}{cs':qu}{imm:Nat}{tip:Bool}(hr:G.β r=some (b,o,x))(hc:H.get r=some (.cells cs imm tip))
  (hj:imm<=j) (hjl:j<fz x cs tip) 
 (hcs:∀(i:Nat) c,cs'[i]?=some c->(i=j/\VR G c v)\/(i≠j/\cs[i]?=some c)) (hl:cs'.length<=fz x cs tip) (hl':tip=false->cs'.length=cs.length) :
 Step B H.next G w (H.set r (.cells cs' imm tip)) (w.setCell ⟨b,o+j,none⟩ v) G:=by
 obtain⟨⟨u,hu⟩,hfz,hF⟩:=h.bM r b o x cs imm tip hr hc j hj hjl;have hsame:(w.setCell ⟨b,o+j,none⟩ v).cell? ⟨b,o+j,none⟩=some v:=World.cell?_setCell_same _ _ _ hu;have hother:∀b' o',(b'=b->o'≠o+j)->(w.setCell ⟨b,o+j,none⟩ v).cell? ⟨b',o',none⟩=w.cell? ⟨b',o',none⟩:=fun b' o' hne=>
  World.cell?_setCell_other _ _ _ _ (Vn fun e e'=>hne e.symm e'.symm)
 have hreach:fz x cs' tip=fz x cs tip:=by
  cases tip with
  |true=>rfl
  |false=>exact hl' rfl
 have U:∀k,k≠r->(H.set r (.cells cs' imm tip)).get k=H.get k:=fun k hk=>by rw[aM,af hk]
 have hgetr:(H.set r (.cells cs' imm tip)).get r=some (.cells cs' imm tip):=fO;have hkeep:∀b' o' v',G.F b' o'=some v'->(b'=b->o'≠o+j):=fun b' o' v' hf e e'=>bb;have hcell:∀b' o',(∃v',w.cell? ⟨b',o',none⟩=some v')->∃v',(w.setCell ⟨b,o+j,none⟩ v).cell? ⟨b',o',none⟩=some v':=fun b' o' ⟨v',hv'⟩=>by
  grind
 refine⟨?_,xT _,⟨rfl,rfl,rfl,aw,fun k hk hn=>?_⟩,ww _ _,fun _ _ h=>.inl h,ay _,fun _ _ _ h=>.inl h⟩
 .exact{
   ci:=by have:=h.ci;simp_all
   dv:=h.dv
   lt:=fun r b o x hr=>by have:=h.lt r b o x hr;simp_all
   cells:=fun I V O M z Z m Y C=>by
    by_cases e:I=r
    .subst e;rw[hr]at Y;simp only[dB]at Y;obtain⟨rfl,rfl,rfl⟩:=Y;rw[hgetr]at C;simp only[aQ,HB.cells.injEq]at C;obtain⟨rfl,rfl,rfl⟩:=C;intro i c hi;rcases hcs i c hi with⟨rfl,hv⟩|⟨hne,hi'⟩
     .simp_all
     .obtain⟨v',h1,h2⟩:=h.cells I b o x cs imm tip hr hc i c hi';simp_all
    .rw[U I e]at C;intro i c hi;obtain⟨v',h1,h2⟩:=h.cells I V O M z Z m Y C i c hi;refine⟨v',?_,h2⟩;rw[hother]
     .exact h1
     .have J:i<z.length:=(gZ.1 hi).1;have hex:=h.ext I V O M z Z m Y C;by_cases hi1:Z<=i
      .exact h.apart I V O M z Z m r b o x cs imm tip Y C hr hc e i j hi1 ac hj hjl
      .obtain⟨u',hu'⟩:=h.aP I V O M z Z m Y C i ac J
       grind
   aP:=fun I V O M z Z m Y C i hi J=>by
    by_cases e:I=r
    .subst e;rw[hr]at Y;simp only[dB]at Y;obtain⟨rfl,rfl,rfl⟩:=Y;rw[hgetr]at C;simp only[aQ,HB.cells.injEq]at C;obtain⟨rfl,rfl,rfl⟩:=C;rcases hcs i _ (bj J)with⟨rfl,_⟩|⟨_,hi'⟩
     .omega
     .exact h.aP I b o x cs imm tip hr hc i hi (gZ.1 hi').1
    .rw[U I e]at C;exact h.aP I V O M z Z m Y C i hi J
   ext:=fun I V O M z Z m Y C=>by
    by_cases e:I=r
    .simp_all
    .rw[U I e]at C;exact h.ext I V O M z Z m Y C
   b7:=fun I V O M z Z m Y C=>by
    by_cases e:I=r
    .subst e;rw[hr]at Y;simp only[dB]at Y;obtain⟨rfl,rfl,rfl⟩:=Y;rw[hgetr]at C;simp only[aQ,HB.cells.injEq]at C;obtain⟨rfl,rfl,rfl⟩:=C;rcases Bool.eq_false_or_eq_true tip with e1|e1
     .subst e1;exact hl
     .rw[hl' e1];exact h.b7 _ _ _ _ _ _ _ hr hc
    .rw[U I e]at C;exact h.b7 I V O M z Z m Y C
   bM:=fun I V O M z Z m Y C i hi J=>by
    by_cases e:I=r
    .subst e;rw[hr]at Y;simp only[dB]at Y;obtain⟨rfl,rfl,rfl⟩:=Y;rw[hgetr]at C;simp only[aQ,HB.cells.injEq]at C;obtain⟨rfl,rfl,rfl⟩:=C;rw[hreach]at J;obtain⟨h1,h2,h3⟩:=h.bM I b o x cs imm tip hr hc i hi J;exact⟨hcell _ _ h1,bb,h3⟩
    .rw[U I e]at C;obtain⟨h1,h2,h3⟩:=h.bM I V O M z Z m Y C i hi J;exact⟨hcell _ _ h1,bb,h3⟩
   apart:=fun I V O M z Z m r2 b2 o2 x2 cs2 imm2 tip2 Y C hr2 hc2 hne i i' hi J hi' hil'=>by
    have key:∀k bk ok xk csk immk tipk,G.β k=some (bk,ok,xk)->(H.set r (.cells cs' imm tip)).get k=some (.cells csk immk tipk) ->
     ∃cs0,H.get k=some (.cells cs0 immk tipk)/\fz xk cs0 tipk=fz xk csk tipk:=fun k bk ok xk csk immk tipk hk hck=>by
     grind
    obtain⟨c1,g1,e1⟩:=key I V O M z Z m Y C;obtain⟨c2,g2,e2⟩:=key r2 b2 o2 x2 cs2 imm2 tip2 hr2 hc2;exact h.apart I V O M c1 Z m r2 b2 o2 x2 c2 imm2 tip2 Y g1 hr2 g2 hne i i' hi ac hi' ac
   map:=fun I V O M es Y C=>by
    by_cases e:I=r
    .simp_all
    .rw[U I e]at C;obtain⟨ms,clock,h1,h2⟩:=h.map I V O M es Y C;refine⟨ms,clock,?_,h2⟩;have hb:V≠b:=fun eb=>by
      subst eb;unfold World.cell? at hu;simp_all
     rw[Below.heap_setCell _ _ _ _ hb];exact h1
   aZ:=fun I V O M es r2 b2 o2 x2 Y C hr2 hs hne=>by
    by_cases e:I=r
    .simp_all
    .rw[U I e]at C;refine h.aZ I V O M es r2 b2 o2 x2 Y C hr2 ?_ hne
     grind
   dB:=fun b' o' v' hf=>by rw[hother _ _ (hkeep _ _ _ hf)];exact h.dB _ _ _ hf
   val:=h.val
   ec:=h.ec}
 .exact Below.heap_setCell _ _ _ _ (fun e=>hn r b o x hr e.symm)
def Vp(P:Program)(h:R B H w G){x:Nat}{imm:Nat}{tip:Bool}(hr:G.β r=some (b,o,x))(M:H.get r=some (.cells cs imm tip))
  (Y:imm<=j) (V:j<fz x cs tip)  (U:v.oneCell'=true) :
 (store ⟨b,o+j,none⟩ v).run P w=.ok () (w.setCell ⟨b,o+j,none⟩ v):=by
 obtain⟨⟨u,Z⟩,J,_⟩:=h.bM r b o x cs imm tip hr M j Y V;rw[run_store P w _ v _ U,Z];simp[J]
def Vq(cs:qu)(off:Nat)(c:AV)(O:qu)(h:off<=cs.length):splice cs off (c::O)=splice (splice cs off [c]) (off+1) O:=by
 unfold splice;have m:(List.take off cs++[c]++List.drop (off+[c].length) cs).take (off+1)=List.take off cs++[c]:=by
  rw[GL cb,gQ cb]
 have j:(List.take off cs++[c]++List.drop (off+[c].length) cs).drop (off+1+O.length)=List.drop (off+(O.length+1)) cs:=by
  rw[List.drop_append,CH cb];simp only[iR,oL,l8,CI,lL]
  congr 1
  omega
 simp_all
def Vr(cs:qu)(off:Nat):splice cs off []=cs:=by simp[splice]
def Vs(cs:qu)(off:Nat)(O:qu)(h:off+O.length<=cs.length):(splice cs off O).length=cs.length:=by simp[splice];omega
def Vt(cs:qu)(off:Nat)(O:qu)(h:off<=cs.length):(splice cs off O).length=max cs.length (off+O.length):=by simp[splice];omega
def Lf(cs O:qu):splice cs cs.length O=cs++O:=by simp[splice]
def splice_one(c:AV)(Y:j<=cs.length){d:AV}(h:(splice cs j [c])[i]?=some d):(i=j/\d=c)\/(i≠j/\cs[i]?=some d):=by
 unfold splice at h;by_cases I:i<j
 .grind
 .by_cases e:i=j
  .simp_all
  .rw[uW cb]at h
   grind
def oM(b o i:Nat):(⟨b,o,none⟩:Addr).add i=⟨b,o+i,none⟩:=by
 unfold Addr.add;simp_all
def Step.congr(h:Step B z G w H w' J)(Z:H'.next=H.next)(hg:∀r,(J.β r).isSome->H'.get r=H.get r):Step B z G w H' w' J:=
 ⟨h.r.congr Z hg,h.ext,h.fr,h.new,h.cL,by rw[Z];exact h.mono,h.dj⟩
theorem GO(P:Program){x:Nat}{imm:Nat}{tip:Bool}(hr:G.β r=some (b,o,x))(off:Nat):∀(O:qu) (vs:qH) (I:qu) (i:Nat) (H:Hp) (w:World),R B H w G ->
 H.get r=some (.cells I imm tip)->cc G O vs->(∀v∈vs,v.oneCell'=true)->imm<=off+i->off+i<=I.length->off+i+O.length<=fz x I tip->(tip=false->off+i+O.length<=I.length) ->
 ∃m,(storeCells ⟨b,o+off,none⟩ vs i).run P w=.ok () m/\Step B H.next G w (H.set r (.cells (splice I (off+i) O) imm tip)) m G:=by
 intro O;induction O with
 |nil=>
  intro vs I i H w V hc hv Z hi U z _;have Y:vs=[]:=by have:=hv.1;simpa using this.symm
  subst Y;refine⟨w,rfl,(md V).congr rfl fun k _=>?_⟩;rw[aM,Vr];simp_all
 |cons c O ih=>
  intro vs I i H w V hc hv Z hi U z C;cases vs with
  |nil=>have:=hv.1;simp at this
  |cons v vs=>
   obtain⟨hv1,Y⟩:=hv.bp;simp only[gF]at z C;have hl1:(splice I (off+i) [c]).length=max I.length (off+i+1):=Vt _ _ _ U;have hext:=V.ext r b o x I imm tip hr hc;have M:=Vo V hr hc (j:=off+i) (cs':=splice I (off+i) [c]) (v:=v) hi ac
    (fun k d hk=>by
      rcases splice_one c U hk with⟨e1,e2⟩|h2
      .simp_all
      .exact .inr h2)
    ac
    (fun ht=>aX)
   have J:=Vp P V hr hc (j:=off+i) hi ac (v:=v) (Z v aw);have hg1:(H.set r (.cells (splice I (off+i) [c]) imm tip)).get r=some (.cells (splice I (off+i) [c]) imm tip):=fO;have hreach:fz x (splice I (off+i) [c]) tip=fz x I tip:=by
    cases tip with
    |true=>rfl
    |false=>have:=C rfl;simp only[fz];omega
   obtain⟨m,hw',hs'⟩:=ih vs (splice I (off+i) [c]) (i+1) _ _ M.r hg1 Y (fun u hu=>Z u (by simp[hu])) ac (by rw[hl1];omega) ac (fun ht=>aX);refine⟨m,?_,(M.trans hs').congr rfl fun k _=>?_⟩
   .simp only[storeCells,fU];rw[oM,iH,J];exact hw'
   .rw[aM,aM,aM,Vq _ _ _ _ U]
    grind
def Lg(h:R B H w G){x:Nat}{imm:Nat}(hr:G.β r=some (b,o,x))(hc:H.get r=some (.cells cs imm true)){off:Nat}(hoff:off<=cs.length):
 Step B H.next G w ((H.a0 r).alloc (.cells (cs.drop off) (imm-off) true)) w (G.add H.next (b,o+off,x-off)):=by
 have hno:∀q,G.β H.next=some q->False:=fun q hq=>by have:=h.dv _ _ hq;omega
 have hext:Ext G (G.add H.next (b,o+off,x-off)):=GN hno;have hrn:r≠H.next:=fun e=>by subst e;exact hno _ hr
 have I:∀k p,(G.add H.next (b,o+off,x-off)).β k=some p->(k=H.next/\p=(b,o+off,x-off))\/(k≠H.next/\G.β k=some p):=fun k p z=>by
  simp only[Gh.add]at z;split at z
  .rename_i e;exact .inl ⟨e,by simpa using z.symm⟩
  .rename_i e;exact .inr ⟨e,z⟩
 have U:∀k q,k≠H.next->((H.a0 r).alloc (.cells (cs.drop off) (imm-off) true)).get k=some q->k≠r/\H.get k=some q:=fun k q z hq=>by
  rw[aD,tI,af z,iy]at hq;split at hq
  .simp at hq
  .rename_i e;exact⟨e,hq⟩
 have Y:((H.a0 r).alloc (.cells (cs.drop off) (imm-off) true)).get H.next=some (.cells (cs.drop off) (imm-off) true):=by rw[aD,tI,ai rfl]
 have hlen:=h.ext r b o x cs imm true hr hc;simp only[fz]at hlen;refine⟨?_,hext,zQ _ _,fun k b' o' x' z=>?_,fun k p z=>(I k p z).elim (fun e=>.inr (by rw[e.1];exact ay _)) (fun e=>.inl e.2),aw,fun _ _ _ h=>.inl h⟩
 .exact{
   ci:=h.ci
   dv:=fun k p z=>by
    rcases I k p z with⟨rfl,_⟩|⟨_,M⟩
    .simp
    .have:=h.dv k p M;simp;omega
   lt:=fun k b' o' x' z=>by
    rcases I k _ z with⟨rfl,hp⟩|⟨_,M⟩
    .simp only[iw]at hp;obtain⟨rfl,rfl,rfl⟩:=hp;exact h.lt r _ _ _ hr
    .exact h.lt k b' o' x' M
   cells:=fun k b' o' x' m V O z Z=>by
    rcases I k _ z with⟨rfl,hp⟩|⟨C,M⟩
    .simp only[iw]at hp;obtain⟨rfl,rfl,rfl⟩:=hp;rw[Y]at Z;simp only[aQ,HB.cells.injEq]at Z;obtain⟨rfl,rfl,rfl⟩:=Z;intro j c hj;rw[zO]at hj;obtain⟨v,h1,h2⟩:=h.cells r _ _ _ _ _ _ hr hc (off+j) c hj;exact⟨v,by rw[iH];exact h1,h2.mono hext⟩
    .obtain⟨_,J⟩:=U k _ C Z;exact(h.cells k b' o' x' m V O M J).mono hext
   aP:=fun k b' o' x' m V O z Z j hj hjl=>by
    rcases I k _ z with⟨rfl,hp⟩|⟨C,M⟩
    .simp only[iw]at hp;obtain⟨rfl,rfl,rfl⟩:=hp;rw[Y]at Z;simp only[aQ,HB.cells.injEq]at Z;obtain⟨rfl,rfl,rfl⟩:=Z;rw[nQ]at hjl;rw[iH];exact h.aP r _ _ _ _ _ _ hr hc (off+j) ac ac
    .obtain⟨_,J⟩:=U k _ C Z;exact h.aP k b' o' x' m V O M J j hj hjl
   ext:=fun k b' o' x' m V O z Z=>by
    rcases I k _ z with⟨rfl,hp⟩|⟨C,M⟩
    .simp only[iw]at hp;obtain⟨rfl,rfl,rfl⟩:=hp;rw[Y]at Z;simp only[aQ,HB.cells.injEq]at Z;obtain⟨rfl,rfl,rfl⟩:=Z;simp only[fz,nQ];omega
    .obtain⟨_,J⟩:=U k _ C Z;exact h.ext k b' o' x' m V O M J
   b7:=fun k b' o' x' m V O z Z=>by
    rcases I k _ z with⟨rfl,hp⟩|⟨C,M⟩
    .simp only[iw]at hp;obtain⟨rfl,rfl,rfl⟩:=hp;rw[Y]at Z;simp only[aQ,HB.cells.injEq]at Z;obtain⟨rfl,rfl,rfl⟩:=Z;simp only[nQ];omega
    .obtain⟨_,J⟩:=U k _ C Z;exact h.b7 k b' o' x' m V O M J
   bM:=fun k b' o' x' m V O z Z j hj hjl=>by
    rcases I k _ z with⟨rfl,hp⟩|⟨C,M⟩
    .simp only[iw]at hp;obtain⟨rfl,rfl,rfl⟩:=hp;rw[Y]at Z;simp only[aQ,HB.cells.injEq]at Z;obtain⟨rfl,rfl,rfl⟩:=Z;simp only[fz]at hjl;rw[iH];exact h.bM r _ _ _ _ _ _ hr hc (off+j) ac zK
    .obtain⟨_,J⟩:=U k _ C Z;exact h.bM k b' o' x' m V O M J j hj hjl
   apart:=fun k1 b1 o1 x1 cs1 imm1 tip1 k2 b2 o2 x2 cs2 imm2 tip2 hk1 hc1 hk2 hc2 C j1 j2 hj1 hl1 hj2 hl2 he=>by
    rcases I k1 _ hk1 with⟨rfl,hp⟩|⟨hn1,hk1'⟩
    .simp only[iw]at hp;obtain⟨rfl,rfl,rfl⟩:=hp;rw[Y]at hc1;simp only[aQ,HB.cells.injEq]at hc1;obtain⟨rfl,rfl,rfl⟩:=hc1;simp only[fz]at hl1;rcases I k2 _ hk2 with⟨rfl,hp⟩|⟨hn2,hk2'⟩
     .exact(C rfl).elim
     .obtain⟨hr2,hc2'⟩:=U k2 _ hn2 hc2;rw[iH];exact h.apart r _ _ _ _ _ _ k2 b2 o2 x2 cs2 imm2 tip2 hr hc hk2' hc2' (Ne.symm hr2) (off+j1) j2 ac zK hj2 hl2 he
    .obtain⟨hr1,hc1'⟩:=U k1 _ hn1 hc1;rcases I k2 _ hk2 with⟨rfl,hp⟩|⟨hn2,hk2'⟩
     .simp only[iw]at hp;obtain⟨rfl,rfl,rfl⟩:=hp;rw[Y]at hc2;simp only[aQ,HB.cells.injEq]at hc2;obtain⟨rfl,rfl,rfl⟩:=hc2;simp only[fz]at hl2;rw[iH];exact h.apart k1 b1 o1 x1 cs1 imm1 tip1 r _ _ _ _ _ _ hk1' hc1' hr hc hr1 j1 (off+j2) hj1 hl1 ac zK he
     .obtain⟨hr2,hc2'⟩:=U k2 _ hn2 hc2;exact h.apart k1 b1 o1 x1 cs1 imm1 tip1 k2 b2 o2 x2 cs2 imm2 tip2 hk1' hc1' hk2' hc2' C j1 j2 hj1 hl1 hj2 hl2 he
   map:=fun k b' o' x' es z Z=>by
    rcases I k _ z with⟨rfl,hp⟩|⟨C,M⟩
    .rw[Y]at Z;simp at Z
    .obtain⟨_,J⟩:=U k _ C Z;obtain⟨ms,clock,h1,h2⟩:=h.map k b' o' x' es M J;exact⟨ms,clock,h1,h2.mono hext⟩
   aZ:=fun k1 b1 o1 x1 es k2 b2 o2 x2 hk1 hc1 hk2 hs C=>by
    rcases I k1 _ hk1 with⟨rfl,hp⟩|⟨hn1,hk1'⟩
    .rw[Y]at hc1;simp at hc1
    .obtain⟨hr1,hc1'⟩:=U k1 _ hn1 hc1;rcases I k2 _ hk2 with⟨rfl,hp⟩|⟨hn2,hk2'⟩
     .simp only[iw]at hp;obtain⟨rfl,rfl,rfl⟩:=hp;exact h.aZ k1 b1 o1 x1 es r _ _ _ hk1' hc1' hr (by rw[hc];rfl) hr1
     .cases hh:((H.a0 r).alloc (.cells (cs.drop off) (imm-off) true)).get k2 with
      |none=>simp[hh]at hs
      |some q=>
       obtain⟨_,hq⟩:=U k2 q hn2 hh;exact h.aZ k1 b1 o1 x1 es k2 b2 o2 x2 hk1' hc1' hk2' (by rw[hq];rfl) C
   dB:=h.dB
   val:=h.val
   ec:=h.ec}
 grind
def Gh.aG(G:Gh)(w:World)(b o n:Nat):Gh:={β:=G.β,F:=fun b' V=>match G.F b' V with
 |some v=>some v
 |none=>if b'=b/\o<=V/\V<o+n then w.cell? ⟨b',V,none⟩else none,ρ:=G.ρ}
def Vu(G:Gh)(w:World)(b o n:Nat):Ext G (G.aG w b o n):=⟨fun _ _ h=>h,fun b' V v h=>by simp[Gh.aG,h],rfl⟩
def zT(h:R B H w G){x:Nat}{imm:Nat}{tip:Bool}(hr:G.β r=some (b,o,x))(hc:H.get r=some (.cells cs imm tip)){n:Nat}(himm:imm<=n)(hn:n<=cs.length)(Y:Bool)(ht:Y=true->tip=true):
 Step B H.next G w (H.set r (.cells cs n Y)) w (G.aG w b o n):=by
 have hext:Ext G (G.aG w b o n):=Vu _ _ _ _ _;have O:∀k,k≠r->(H.set r (.cells cs n Y)).get k=H.get k:=fun k z=>ju;have I:(H.set r (.cells cs n Y)).get r=some (.cells cs n Y):=fO;have hex:=h.ext r b o x cs imm tip hr hc;have hreach:∀j,n<=j->j<fz x cs Y->j<fz x cs tip:=fun j hj C=>by
  cases Y with
  |true=>simp_all
  |false=>simp only[fz]at C;omega
 have hF:∀b' V v,(G.aG w b o n).F b' V=some v->w.cell? ⟨b',V,none⟩=some v:=fun b' V v hf=>by
  simp only[Gh.aG]at hf;split at hf
  .rename_i u hu;simp only[aQ]at hf;subst hf;exact h.dB _ _ _ hu
  simp_all
 have hFin:∀j,j<n->∃v,(G.aG w b o n).F b (o+j)=some v:=fun j hj=>by
  obtain⟨v,h1,_⟩:=h.cells r b o x cs imm tip hr hc j _ (bj ac);simp only[Gh.aG]
  grind
 have hFout:∀b' V,G.F b' V=none->(b'=b->V<o\/o+n<=V)->(G.aG w b o n).F b' V=none:=fun b' V hf hne=>by
  simp only[Gh.aG,hf]
  grind
 refine⟨?_,hext,zQ _ _,ww _ _,fun _ _ h=>.inl h,ay _,fun b' V v' hv=>?_⟩;rotate_left
 .simp only[Gh.aG]at hv;split at hv
  .simp_all
  .split at hv
   .rename_i hc';exact .inr (by rw[hc'.1];exact(h.lt r b o x hr).1)
   .simp at hv
 exact{
  ci:=h.ci
  dv:=h.dv
  lt:=h.lt
  cells:=fun k b' V x' J U m z Z=>by
   by_cases e:k=r
   .subst e;have M:G.β k=some (b',V,x'):=z;rw[hr]at M;simp only[dB]at M;obtain⟨rfl,rfl,rfl⟩:=M;rw[I]at Z;simp only[aQ,HB.cells.injEq]at Z;obtain⟨rfl,rfl,rfl⟩:=Z;exact(h.cells k _ _ _ _ _ _ hr hc).mono hext
   .rw[O k e]at Z;exact(h.cells k b' V x' J U m z Z).mono hext
  aP:=fun k b' V x' J U m z Z j hj C=>by
   by_cases e:k=r
   .subst e;have M:G.β k=some (b',V,x'):=z;simp_all
   .rw[O k e]at Z;obtain⟨v,hv⟩:=h.aP k b' V x' J U m z Z j hj C;exact⟨v,hext.F _ _ _ hv⟩
  ext:=fun k b' V x' J U m z Z=>by
   by_cases e:k=r
   .subst e;have M:G.β k=some (b',V,x'):=z;rw[hr]at M;simp only[dB]at M;obtain⟨rfl,rfl,rfl⟩:=M;rw[I]at Z;simp only[aQ,HB.cells.injEq]at Z;obtain⟨rfl,rfl,rfl⟩:=Z;cases Y with
    |true=>simp_all
    |false=>exact ay _
   .rw[O k e]at Z;exact h.ext k b' V x' J U m z Z
  b7:=fun k b' V x' J U m z Z=>by
   by_cases e:k=r
   .subst e;have M:G.β k=some (b',V,x'):=z;rw[hr]at M;simp only[dB]at M;obtain⟨rfl,rfl,rfl⟩:=M;rw[I]at Z;simp only[aQ,HB.cells.injEq]at Z;obtain⟨rfl,rfl,rfl⟩:=Z;exact h.b7 _ _ _ _ _ _ _ hr hc
   .rw[O k e]at Z;exact h.b7 k b' V x' J U m z Z
  bM:=fun k b' V x' J U m z Z j hj C=>by
   by_cases e:k=r
   .subst e;have M:G.β k=some (b',V,x'):=z;rw[hr]at M;simp only[dB]at M;obtain⟨rfl,rfl,rfl⟩:=M;rw[I]at Z;simp only[aQ,HB.cells.injEq]at Z;obtain⟨rfl,rfl,rfl⟩:=Z;have h1:=hreach j hj C;obtain⟨g1,g2,g3⟩:=h.bM k _ _ _ _ _ _ hr hc j ac h1;simp_all
   .rw[O k e]at Z;obtain⟨g1,g2,g3⟩:=h.bM k b' V x' J U m z Z j hj C;refine⟨g1,g2,hFout _ _ g3 (fun eb=>?_)⟩;by_cases hin:o<=V+j/\V+j<o+n
    .exfalso;have hj0:V+j-o<cs.length:=ac;have hj1:V+j-o<fz x cs tip:=ac;by_cases hi:imm<=V+j-o
     .exact h.apart k b' V x' J U m r b o x cs imm tip z Z hr hc e j (V+j-o) hj C hi hj1 eb ac
     .obtain⟨v,hv⟩:=h.aP r b o x cs imm tip hr hc (V+j-o) ac hj0;simp_all
    .omega
  apart:=fun k1 b1 o1 x1 cs1 imm1 m k2 b2 o2 x2 cs2 imm2 tip2 hk1 hc1 hk2 hc2 hne j1 j2 hj1 hl1 hj2 hl2 he=>by
   have key:∀k bk ok xk csk immk tipk j,G.β k=some (bk,ok,xk)->(H.set r (.cells cs n Y)).get k=some (.cells csk immk tipk)->immk<=j->j<fz xk csk tipk ->
    ∃cs0 imm0 tip0,H.get k=some (.cells cs0 imm0 tip0)/\imm0<=j/\j<fz xk cs0 tip0:=fun k bk ok xk csk immk tipk j z Z hj C=>by
    grind
   obtain⟨c1,i1,t1,g1,a1,l1⟩:=key k1 b1 o1 x1 cs1 imm1 m j1 hk1 hc1 hj1 hl1;obtain⟨c2,i2,t2,g2,a2,l2⟩:=key k2 b2 o2 x2 cs2 imm2 tip2 j2 hk2 hc2 hj2 hl2;exact h.apart k1 b1 o1 x1 c1 i1 t1 k2 b2 o2 x2 c2 i2 t2 hk1 g1 hk2 g2 hne j1 j2 a1 l1 a2 l2 he
  map:=fun k b' V x' es z Z=>by
   by_cases e:k=r
   .simp_all
   .rw[O k e]at Z;obtain⟨ms,clock,h1,h2⟩:=h.map k b' V x' es z Z;exact⟨ms,clock,h1,h2.mono hext⟩
  aZ:=fun k1 b1 o1 x1 es k2 b2 o2 x2 hk1 hc1 hk2 hs hne=>by
   by_cases e:k1=r
   .simp_all
   .rw[O k1 e]at hc1;refine h.aZ k1 b1 o1 x1 es k2 b2 o2 x2 hk1 hc1 hk2 ?_ hne
    grind
  dB:=hF
  val:=h.val
  ec:=h.ec}
def Vv(h:R B H w G){x:Nat}(hr:G.β r=some (b,o,x))(hx:cs.length<=x)(hc:jK G w b o cs)(hF:∀j,j<cs.length->∃v,G.F b (o+j)=some v)
 (hmap:∀r1 b1 o1 x1 es,G.β r1=some (b1,o1,x1)->H.get r1=some (.map es)->b1≠b) :
 Step B H.next G w (H.set r (.cells cs cs.length false)) w G:=by
 have Y:∀k,k≠r->(H.set r (.cells cs cs.length false)).get k=H.get k:=fun k z=>ju;have hgetr:(H.set r (.cells cs cs.length false)).get r=some (.cells cs cs.length false):=fO;have hβ:∀k b' M J,k=r->G.β k=some (b',M,J)->b'=b/\M=o/\J=x:=fun k b' M J e z=>by
  simp_all
 have m:∀O U V,(H.set r (.cells cs cs.length false)).get r=some (.cells O U V)->O=cs/\U=cs.length/\V=false:=fun O U V z=>by
  grind
 refine⟨?_,xT _,zQ _ _,ww _ _,fun _ _ h=>.inl h,ay _,fun _ _ _ h=>.inl h⟩;exact{
  ci:=h.ci
  dv:=h.dv
  lt:=h.lt
  cells:=fun k b' M J O U V z Z=>by
   by_cases e:k=r
   .grind
   .rw[Y k e]at Z;exact h.cells k b' M J O U V z Z
  aP:=fun k b' M J O U V z Z j hj I=>by
   by_cases e:k=r
   .grind
   .rw[Y k e]at Z;exact h.aP k b' M J O U V z Z j hj I
  ext:=fun k b' M J O U V z Z=>by
   by_cases e:k=r
   .subst e;obtain⟨rfl,rfl,rfl⟩:=m _ _ _ Z;exact ay _
   .rw[Y k e]at Z;exact h.ext k b' M J O U V z Z
  b7:=fun k b' M J O U V z Z=>by
   by_cases e:k=r
   .grind
   .rw[Y k e]at Z;exact h.b7 k b' M J O U V z Z
  bM:=fun k b' M J O U V z Z j hj I=>by
   by_cases e:k=r
   .subst e;obtain⟨rfl,rfl,rfl⟩:=m _ _ _ Z;simp only[fz]at I;omega
   .rw[Y k e]at Z;exact h.bM k b' M J O U V z Z j hj I
  apart:=fun k1 b1 o1 x1 cs1 imm1 tip1 k2 b2 o2 x2 cs2 imm2 tip2 hk1 C hk2 hc2 hne j1 j2 hj1 hl1 hj2 hl2 he=>by
   by_cases e1:k1=r
   .subst e1;obtain⟨rfl,rfl,rfl⟩:=m _ _ _ C;simp only[fz]at hl1;omega
   .by_cases e2:k2=r
    .subst e2;obtain⟨rfl,rfl,rfl⟩:=m _ _ _ hc2;simp only[fz]at hl2;omega
    .rw[Y k1 e1]at C;rw[Y k2 e2]at hc2;exact h.apart k1 b1 o1 x1 cs1 imm1 tip1 k2 b2 o2 x2 cs2 imm2 tip2 hk1 C hk2 hc2 hne j1 j2 hj1 hl1 hj2 hl2 he
  map:=fun k b' M J es z Z=>by
   by_cases e:k=r
   .grind
   .rw[Y k e]at Z;exact h.map k b' M J es z Z
  aZ:=fun k1 b1 o1 x1 es k2 b2 o2 x2 hk1 C hk2 hs hne=>by
   by_cases e:k1=r
   .grind
   .rw[Y k1 e]at C;by_cases e2:k2=r
    .grind
    .rw[Y k2 e2]at hs;exact h.aZ k1 b1 o1 x1 es k2 b2 o2 x2 hk1 C hk2 hs hne
  dB:=h.dB
  val:=h.val
  ec:=h.ec}
def wz(P:Program)(B:Bs)(H:Hp)(G:Gh)(w:World)(s:Sem Next)(c:AV)(H':Hp):Prop:=
 ∃n I J v,s.run P w=.ok n I/\(n=.value v\/(n=.skip/\v=undef))/\VR J c v/\Step B H.next G w H' I J
theorem Lh(h:zt v=some c):VR G c v:=by
 unfold zt at h;split at h<;>simp only[aQ,reduceCtorEq]at h<;>subst h<;>constructor;rfl
theorem Li{G:Gh}:∀{vs:qH}{I:qu},vs.mapM zt=some I->cc G I vs
 |[],I,h=>by simp at h;subst h;exact mc G
 |v::vs,I,h=>by
  rw[List.mapM_cons]at h;simp only[Option.bind_eq_bind,gG,Option.pure_def,aQ]at h;obtain⟨c,hc,V,Z,rfl⟩:=h;exact jJ (Lh hc) (Li Z)
def xV(h:xK v=some c):VR G c v:=by
 unfold xK at h;split at h
 .rename_i I;simp only[sC]at h;obtain⟨l,O,rfl⟩:=h;have:=Li (G:=G) O;exact .agg (vs:=I.toList) this.1 this.2
 .exact Lh h
theorem jK.list{G:Gh}{w:World}{b:Nat}:∀{cs:qu}{o:Nat},jK G w b o cs->∃vs,cc G cs vs/\∀(j:Nat) v,vs[j]?=some v->w.cell? ⟨b,o+j,none⟩=some v
 |[],o,_=>⟨[],mc G,aw⟩
 |c::cs,o,h=>by
  obtain⟨v,m,Z⟩:=h 0 c rfl;obtain⟨vs,O,C⟩:=jK.list (cs:=cs) (o:=o+1) (fun j d Y=>by
   obtain⟨u,z,J⟩:=h (j+1) d zL;exact⟨u,by rw[show o+1+j=o+(j+1) by omega];exact z,J⟩)
  refine⟨v::vs,jJ Z O,fun j u Y=>?_⟩
  grind
def jK.drop(h:jK G w b o cs)(n:Nat):jK G w b (o+n) (cs.drop n):=fun j c Y=>by
 rw[zO]at Y;rw[iH];exact h (n+j) c Y
def jK.take(h:jK G w b o cs)(n:Nat):jK G w b o (cs.take n):=fun j c Y=>by
 rw[uX]at Y;split at Y
 .exact h j c Y
 .simp at Y
section
variable {P:Program} {w:World} {t:TypeId}
def eG(h:P.underlying t=some d):(underlying t).run P w=.ok d w:=by simp[underlying,h]
def xW{i:TypeInfo}(h:P.info? t=some i):(typeInfo t).run P w=.ok i w:=by simp[typeInfo,h]
def Lj{s:Nat}(h:bL P t=some s):∃i,P.info? t=some i/\i.size=s:=by simpa [bL,sC]using h
def mg{s:Nat}(h:bL P t=some s):(sizeOf t).run P w=.ok s w:=by
 obtain⟨i,m,j⟩:=Lj h;simp[sizeOf,xW m,j]
def Lk(h:tB P t=some c):∃i v,P.info? t=some i/\i.zero=some v/\xK v=some c:=by
 unfold tB at h
 grind
def Vw(h:tB P t=some c):∃v,(∀w,(zeroValue t).run P w=.ok v w)/\∀G,VR G c v:=by
 obtain⟨i,v,m,j,C⟩:=Lk h;exact⟨v,fun w=>by simp[zeroValue,xW m,j],fun G=>xV C⟩
def GP{z:qu}(h:cQ P t=some z):∃i v c,P.info? t=some i/\i.zero=some v/\xK v=some c/\c.cells=z:=by
 unfold cQ at h;split at h
 .rename_i c hc;simp only[aQ]at h;obtain⟨i,v,m,j,C⟩:=Lk hc;simp_all
 .simp at h
def zU{z:qu}(h:cQ P t=some z):∃v,(∀w,(zeroValue t).run P w=.ok v w)/\∀G,cc G z v.cells.toList:=by
 obtain⟨i,v,c,m,j,C,rfl⟩:=GP h;exact⟨v,fun w=>by simp[zeroValue,xW m,j],fun G=>(xV C).cells⟩
def GQ:TypeDesc->Bool
 | .struct _|.array _ _=>true
 |_=>false
theorem CM(h:P.underlying t=some d):(isAgg t).run P w=.ok (GQ d) w:=by
 simp only[isAgg,fU,eG h,fV];cases d<;>rfl
def Ll{off:Nat}(h:dc P t cs off=some c):
 (∃d s,P.underlying t=some d/\GQ d=true/\bL P t=some s/\((cs.drop off).take s).length=s/\c=.agg ((cs.drop off).take s)) \/
 (∃d,P.underlying t=some d/\GQ d=false/\cs[off]?=some c):=by
 unfold dc at h;split at h
 .rename_i f hd;split at h
  .rename_i s U;simp only[]at h;split at h
   .rename_i O;simp only[aQ]at h;exact .inl ⟨_,s,hd,rfl,U,O,h.symm⟩
   .simp at h
  .simp at h
 .rename_i n e hd;split at h
  .rename_i s U;simp only[]at h;split at h
   .rename_i O;simp only[aQ]at h;exact .inl ⟨_,s,hd,rfl,U,O,h.symm⟩
   .simp at h
  .simp at h
 .rename_i d m j hd;refine .inr ⟨d,hd,?_,h⟩;cases d<;>first|rfl|exact(m _ rfl).elim|exact(j _ _ rfl).elim
 .simp at h
def Lm{off:Nat}(Y:jK G w b o cs)(h:dc P t cs off=some c):
 ∃v,(loadVar t ⟨b,o+off,none⟩).run P w=.ok v w/\VR G c v:=by
 rcases Ll h with⟨d,s,hd,O,U,M,rfl⟩|⟨d,hd,O,hc⟩
 .obtain⟨vs,m,Z⟩:=((Y.drop off).take s).list;refine⟨.agg vs.toArray,?_,.agg m.1 m.2⟩;simp only[loadVar,fU,CM hd,O,fV,ft,mg U];have z:vs.length=s:=by rw[<-m.1];exact M
  rw[<-z,run_loadCells_list _ _ vs (fun j v V=>by rw[oM];exact Z j v V)];rfl
 .obtain⟨v,m,Z⟩:=Y off c hc;refine⟨v,?_,Z⟩;simp[loadVar,CM hd,O,m]
def CN{off:Nat}(Z:cc G cs vs)(h:dc P t cs off=some c):
 ∃v,(part t vs.toArray off).run P w=.ok v w/\VR G c v:=by
 rcases Ll h with⟨d,s,hd,O,U,Y,rfl⟩|⟨d,hd,O,hc⟩
 .have m:=(Z.drop off).take s;refine⟨.agg ((vs.drop off).take s).toArray,?_,.agg m.1 m.2⟩;simp only[part,fU,CM hd,O,fV,ft,mg U,l7];simp_all
 .have J:off<cs.length:=(gZ.1 hc).1;have z:off<vs.length:=by have:=Z.1;omega
  refine⟨vs[off],?_,Z.2 off c _ hc (bj z)⟩;simp[part,CM hd,O,z]
end
def xX(h:R B H w G){s:Sem Next}(hr:s.run P w=.ok (.value v) w)(Z:VR G c v):wz P B H G w s c H:=
 ⟨.value v,w,G,v,hr,.inl rfl,Z,md h⟩
def lM{x:qE}(h:ret H x=some (c,H')):x=some c/\H'=H:=by
 cases x with
 |none=>simp[ret]at h
 |some v=>simp[ret]at h;simp_all
section
variable {P:Program} {B:Bs} {G:Gh} {H H':Hp} {w:World} (h:R B H w G) {c:AV}
include h
def Ln(V:VR G a Y)(O:gX P H t a=some c):∃v,(Instr.loadAt t Y).run P w=.ok v w/\VR G c v:=by
 unfold gX at O;split at O
 .rename_i r M;cases V with
  |ptr hr=>
   split at O
   .rename_i I z C hc;obtain⟨v,m,Z⟩:=Lm (h.cells _ _ _ _ _ _ _ hr hc) O;exact⟨v,Lb,Z⟩
   .simp at O
 .rename_i I;cases V with
  |bI vs hF hv=>
   rename_i b o;have J:jK G w b o I:=fun j d U=>⟨vs j,h.dB _ _ _ (hF j (gZ.1 U).1),hv j d U⟩;obtain⟨v,m,Z⟩:=Lm J O;exact⟨v,Lb,Z⟩
 .simp at O
def Vx{av:Value}(ha:VR G a av)(hx:VR G x V)(U:lW P H t a x=some H'):
 ∃I,(Instr.storeAt t av V).run P w=.ok () I/\Step B H.next G w H' I G:=by
 unfold lW at U;split at U
 .rename_i r M;cases ha with
  |ptr hr=>
   rename_i b o ex;split at U
   .rename_i cs J C s hc j;split at U
    .rename_i O;obtain⟨h1,h2,h3,h4⟩:=O;simp only[aQ]at U;subst U;have Z:=hx.cells;have z:V.cells.toList.length=s:=by rw[<-Z.1];exact h1
     have Y:∀v∈V.cells.toList,v.oneCell'=true:=fun v hv=>by
      obtain⟨i,hi,rfl⟩:=GM hv;have hi':i<x.cells.length:=by rw[Z.1];exact hi
      rw[(Z.2 i _ _ (bj hi') (bj hi)).co];simp_all
     have hex:=h.ext r b o ex cs J C hr hc;obtain⟨I,hw,hst⟩:=GO P hr M x.cells V.cells.toList cs 0 H w h hc Z Y ac ac ac (fun _=>ac);refine⟨I,?_,by simpa using hst⟩;have m:V.cells.size=s:=by simpa using z
     simp only[Instr.storeAt,Instr.sureAddr,fU,l7,fV,storeVar,mg j,m];simpa using hw
    .simp at U
   .simp at U
 .simp at U
end
section
variable {P:Program} {B:Bs} {G:Gh} {H H':Hp} {w:World}
def Vy(O:VR G a Y)(Z:uK P t a i=some c):∃v,(Instr.fieldAt t Y i).run P w=.ok v w/\VR G c v:=by
 unfold uK at Z;split at Z
 .rename_i C hd;split at Z
  .rename_i f V;split at Z
   .rename_i s J;have U:∀b o,Y=.pointer (some ⟨b,o,none⟩)->(Instr.fieldAt t Y i).run P w=.ok (.pointer (some ⟨b,o+f.offset,none⟩)) w:=fun b o e=>by
     subst e;simp only[Instr.fieldAt,fU,eG hd,fV];simp[V,Instr.sureAddr,fieldPlace,mg J,oM]
    split at Z
    .rename_i r I;simp only[aQ]at Z;subst Z;cases O with
     |ptr hr=>exact⟨_,U _ _ rfl,GK⟩
    .rename_i m;simp only[aQ]at Z;subst Z;cases O with
     |bI vs z hv=>
      refine⟨_,U _ _ rfl,.bI (fun j=>vs (f.offset+j)) (fun j M=>?_) (fun j d M=>?_)⟩
      .rw[nQ]at M;rw[iH];exact z _ ac
      simp_all
    .simp at Z
   .simp at Z
  .simp at Z
 .simp at Z
def Vz(O:VR G a Y)(j:wi P t a i=some c):∃v,(Instr.field t Y i).run P w=.ok v w/\VR G c v:=by
 unfold wi at j;split at j
 .rename_i C I hd;cases O with
  |agg U M=>
   rename_i vs;split at j
   .rename_i f Z;obtain⟨v,m,V⟩:=CN (P:=P) (w:=w) ⟨U,M⟩ j;refine⟨v,?_,V⟩;simp only[Instr.field,fU,eG hd,fV];simp only[Z,fU,asAgg,l7,fV];exact m
   .simp at j
 .simp at j
def VA{i:AV}{av iv:Value}(J:VR G a av)(hi:VR G i iv)(Z:el P t a i=some c):∃v,(Instr.indexAt t av iv).run P w=.ok v w/\VR G c v:=by
 unfold el at Z;split at Z
 .rename_i kk k;cases hi;split at Z
  .rename_i e hd;split at Z
   .rename_i s M;split at Z
    .rename_i r U I z;split at Z
     .rename_i Y;simp only[aQ]at Z;subst Z;cases J with
      |sl hr hl hc=>
       rename_i b o x O;refine⟨.pointer (some ⟨b,o+U+k*s,none⟩),?_,GK⟩;simp only[Instr.indexAt,asIntOf,fU,l7,fV,eG hd];have h1:(0:Int)<=Int.ofNat k:=Int.natCast_nonneg k;have h2:(Int.ofNat k)<(I:Int):=zL;simp[mg M,Y,oM]
     .simp at Z
    .rename_i xs;split at Z
     .rename_i C V;split at Z
      .rename_i hrl;simp only[aQ]at Z;subst Z;have Y:k<xs.length:=(gZ.1 V).1;cases J with
       |az vs hz hF hv hc=>
        rename_i b o O z;have m:s=z:=aX;subst m;refine⟨.pointer (some ⟨b,o+k*s,none⟩),?_,.bI (vs k) (fun j hj=>hF k j Y ac) (fun j d hj=>hv k j C d V hj)⟩;simp only[Instr.indexAt,asIntOf,fU,l7,fV,eG hd];simp[mg M,Y,oM]
       |lst0 a O=>simp at Y
      .simp at Z
     .simp at Z
    .simp at Z
   .simp at Z
  .rename_i n e hd;split at Z
   .rename_i s M;split at Z
    .rename_i r U;split at Z
     .rename_i Y;simp only[aQ]at Z;subst Z;cases J with
      |ptr hr=>
       rename_i b o x;refine⟨.pointer (some ⟨b,o+U+k*s,none⟩),?_,GK⟩;simp only[Instr.indexAt,asIntOf,fU,l7,fV,eG hd];simp[mg M,Y,oM,Instr.sureAddr]
     .simp at Z
    .simp at Z
   .simp at Z
  .simp at Z
 .simp at Z
def VB{i:AV}(V:VR G a Z)(I:VR G i Y)(j:rC P t a i=some c):∃v,(Instr.index t Z Y).run P w=.ok v w/\VR G c v:=by
 unfold rC at j;split at j
 .rename_i kk k;cases I;split at j
  .rename_i s hd;split at j
   .rename_i b hb;simp only[aQ]at j;subst j;cases V with
    |aj U l O=>
     subst O;refine⟨_,?_,.int .u8 b.toNat⟩;have z:k<U.size:=by
      have:=(gZ.1 hb).1;simpa using this
     have hg:U[k]?=some b:=by
      rw[ByteArray.getElem?_lt' _ _ z];have:=(gZ.1 hb).2;simp at this;rw[<-this];rfl
     simp only[Instr.index,asIntOf,fU,l7,fV,eG hd];simp[hg]
   .simp at j
  .rename_i n e cs hd;split at j
   .rename_i z;split at j
    .rename_i s M;cases V with
     |agg O C=>
      rename_i vs;obtain⟨v,m,J⟩:=CN (P:=P) (w:=w) ⟨O,C⟩ j;refine⟨v,?_,J⟩;simp only[Instr.index,asIntOf,fU,l7,fV,eG hd];simp[mg M,z,m]
    .simp at j
   .simp at j
  .simp at j
 .simp at j
def VC(O:VR G a Z)(j:extract a i=some c):∃v,(Instr.extract Z i).run P w=.ok v w/\VR G c v:=by
 unfold extract at j;split at j
 .rename_i Y;cases O with
  |a6 M V=>
   rename_i vs;have U:i<Y.length:=(gZ.1 j).1;have I:i<vs.length:=ac;exact⟨vs[i],by simp[Instr.extract,I],V i c _ j (bj I)⟩
 .simp at j
def GR{op:BinOp}{a b:Int}(m:op≠.shl/\op≠.shr)(h:kK op k a b=some c)(V:TypeId):∃v,(binOp op V (.int k a) (.int k b)).run P w=.ok v w/\VR G c v:=by
 cases op<;>simp only[kK,aQ,reduceCtorEq]at h<;>first
  |(subst h;exact⟨_,by simp[binOp,Op.intArith,Op.intBits,Op.intCmp];rfl,tE⟩)
  |(subst h;exact⟨.int k (k.wrap (BitVec.ofInt k.bits a &&& ~~~ BitVec.ofInt k.bits b).toNat),by simp[binOp,Op.intBits],tE⟩)
  |(split at h
    ·simp at h
    .rename_i hb;simp only[aQ]at h;subst h;exact⟨_,by simp[binOp,Op.intDiv,hb];rfl,tE⟩)
  |simp at m
theorem VD{op:BinOp}{a b:ByteArray}(h:xL op a.data.toList b.data.toList=some c)(V:TypeId):∃v,(binOp op V (.string a) (.string b)).run P w=.ok v w/\VR G c v:=by
 have J:∀x y,uL x y=Op.bytesLess x y:=fun x=>by
  induction x with
  |nil=>intro y;cases y<;>rfl
  |cons p x ih=>intro y;cases y with
   |nil=>rfl
   |cons q y=>simp[uL,Op.bytesLess,ih]
 cases op<;>simp only[xL,aQ,reduceCtorEq,J]at h<;>first
  |(subst h;exact⟨.bool (a.data.toList == b.data.toList),xS,tE⟩)
  |(subst h;exact⟨.bool !(a.data.toList == b.data.toList),xS,tE⟩)
  |(subst h;exact⟨.bool (Op.bytesLess a.data.toList b.data.toList),xS,tE⟩)
  |(subst h;exact⟨.bool !(Op.bytesLess a.data.toList b.data.toList),xS,tE⟩)
  |(subst h;exact⟨.bool (Op.bytesLess a.data.toList b.data.toList||a.data.toList == b.data.toList),xS,tE⟩)
  |(subst h;exact⟨.bool !(Op.bytesLess a.data.toList b.data.toList||a.data.toList == b.data.toList),xS,tE⟩)
  |(split at h
    ·rename_i hb;simp only[aQ]at h;subst h;refine⟨.string (a++b),?_,.aj _ _ ?_⟩
     .have z:¬((a.size+b.size:Nat):Int) > IntKind.i64.max:=by
       have m:a.size+b.size<=70368744177664:=by simpa [ee]using hb
       have j:IntKind.i64.max=9223372036854775807:=rfl;rw[j];omega
      simp only[binOp,Op.stringOp,af z];rfl
     .simp
    .simp at h)
def Lo(Y:Nat){r:Bool}{Z:TypeId}(C:VR G x V)(U:VR G y O)(h:Cl P Z x y=some r):(Op.equalIn (Y+1) Z V O).run P w=.ok r w:=by
 unfold Cl at h;split at h;all_goals first
  |(rename_i hd
    split at h<;>simp only[aQ,reduceCtorEq]at h<;>subst h<;>cases C<;>cases U<;>simp[Op.equalIn,eG hd]
    done)
  |(rename_i e hd
    split at h<;>simp only[aQ,reduceCtorEq]at h<;>subst h<;>cases C<;>cases U<;>simp[Op.equalIn,eG hd]
    done)
  |(rename_i m M hd
    split at h<;>simp only[aQ,reduceCtorEq]at h<;>subst h<;>cases C<;>cases U<;>simp[Op.equalIn,eG hd]
    done)
  |(rename_i m M J hd
    split at h<;>simp only[aQ,reduceCtorEq]at h<;>subst h<;>cases C<;>cases U<;>simp[Op.equalIn,eG hd]
    done)
  |simp at h
def CO{op:BinOp}{x y:Operand}{d:AV}{cv dv:Value}(M:VR G c cv)(hd:VR G d dv)(h:∀l m,c=.agg l->d=.agg m->False):(eqGuard op t x y cv dv).run P w=.ok () w:=by
 cases op<;>first|rfl|(cases M<;>cases hd<;>first|rfl|exact(h _ _ rfl rfl).elim)
def VE(a b:ByteArray):(a == b)=(a.data.toList == b.data.toList):=by
 cases a with
 |mk x=>cases b with
  |mk y=>
   show(x == y)=_;simp_all
def Lp(V:Nat){r:Bool}{Y:TypeId}(C:VR G x Z)(U:VR G y O)(h:tC P Y x y=some r):(Op.equalIn (V+1) Y Z O).run P w=.ok r w:=by
 unfold tC at h;split at h
 .split at h
  .rename_i hd;split at h
   .rename_i z;simp only[aQ]at h;subst h z;cases C;cases U;simp[Op.equalIn,eG hd]
   .simp at h
  .simp at h
 .split at h
  .rename_i hd;simp only[aQ]at h;subst h;cases C with
   |aj a J M=>cases U with
    |aj b I hb=>
     subst M hb;simp only[Op.equalIn,fU,eG hd,fV,l7,VE]
  .simp at h
 .exact Lo V C U h
theorem GS{xs z:qu}{j yv:qH}(Z:cc G xs j)(U:cc G z yv)(V:Nat):∀(M:List Field) (r:Bool),xM P xs z M=some r ->
 Sem.run P (forIn M (none,()) fun(f:Field) (_:qJ×Unit)=>
         if f.name="_" then pure (ForInStep.yield (none,()))
         else do
          let a <-part f.type j.toArray f.offset
          let b <-part f.type yv.toArray f.offset
          let c <-Op.equalIn (V+1) f.type a b
          if c=false then pure (ForInStep.done (some false,()))else pure (ForInStep.yield (none,())))
  w=.ok (match r with|true=>(none,())|false=>(some false,())) w
 |[],r,h=>by
  simp only[xM,aQ]at h;subst h;rfl
 |f::M,r,h=>by
  unfold xM at h;rw[List.forIn_cons];split at h
  .rename_i J;rw[ai CF];simp only[fU,l7,fV];exact GS Z U V M r h
  .rename_i J;rw[af CF];split at h
   .rename_i a b ha hb;obtain⟨av,O,m⟩:=CN (P:=P) (w:=w) Z ha;obtain⟨bv,I,C⟩:=CN (P:=P) (w:=w) U hb;split at h
    .rename_i Y;have:=Lp (P:=P) (w:=w) V m C Y;simp only[fU,O,I,this,fV,zP,fG,l7];exact GS Z U V M r h
    .rename_i Y;have:=Lp (P:=P) (w:=w) V m C Y;simp_all
    .simp at h
   .simp at h
def VF(d:Nat){C:Array Field}{xs I:Array Value}(hd:P.underlying t=some (.struct C))(U:P.stoodInHeld t=false):
 (Op.equalIn (d+1) t (.agg xs) (.agg I)).run P w=(Sem.run P (forIn C.toList (none,()) fun(f:Field) (_:qJ×Unit)=>
   if f.name="_" then pure (ForInStep.yield (none,()))
   else do
    let a <-part f.type xs f.offset
    let b <-part f.type I f.offset
    let c <-Op.equalIn d f.type a b
    if c=false then pure (ForInStep.done (some false,()))else pure (ForInStep.yield (none,())))
   w).andThen fun a Z=>Sem.run P (match a.1 with|some r=>pure r|none=>pure true) Z:=by
 simp[Op.equalIn,eG hd,U]
 grind
def VG(V:Nat){r:Bool}{U:TypeId}(M:VR G x Y)(z:VR G y O)(h:wl P U x y=some r):(Op.equalIn (V+2) U Y O).run P w=.ok r w:=by
 unfold wl at h;split at h
 .unfold Cm at h;split at h
  .rename_i C hd;split at h
   .simp at h
   .rename_i hg;simp only[jv]at hg;cases M with
    |agg Z j=>cases z with
     |agg I J=>
      have:=GS (P:=P) (w:=w) ⟨Z,j⟩ ⟨I,J⟩ V C.toList r h;rw[VF (V+1) hd hg.1,this];cases r<;>rfl
  .simp at h
 .exact Lo (V+1) M z h
def VH{r:Bool}{Z:TypeId}(C:VR G x V)(U:VR G y O)(h:wl P Z x y=some r):(Op.equal Z V O).run P w=.ok r w:=VG 9998 C U h
def VI{op:BinOp}{x y:Operand}{xs I:qu}(C:VR G (.agg xs) V)(U:VR G (.agg I) O){r:Bool}(h:Cm P t xs I=some r):(eqGuard op t x y V O).run P w=.ok () w:=by
 unfold Cm at h;split at h
 .split at h
  .simp at h
  .rename_i hg;simp only[jv]at hg;cases C;cases U;cases op<;>first|rfl|simp[eqGuard,hg.2]
 .simp at h
def VJ{op:BinOp}{V:TypeId}{ox oy:Operand}(C:VR G x Z)(U:VR G y O)(Y:∀k a k' b,x=.int k a->y=.int k' b->False)
 (z:∀a b,x=.aj a->y=.aj b->False) (J:∀k a,x=.sx k a->False) (M:∀k a k' b,x=.int k a->y=.sx k' b->False) (h:GG P op V x y=some c) :
 ∃v,(do eqGuard op V ox oy Z O;binOp op V Z O:Sem Value).run P w=.ok v w/\VR G c v:=by
 unfold GG at h;have m:∃r,wl P V x y=some r/\((op=.eql/\c=.bool r)\/(op=.neq/\c=.bool !r)):=by
  grind
 obtain⟨r,hr,hop⟩:=m;have hg:(eqGuard op V ox oy Z O).run P w=.ok () w:=by
  have I:=hr;unfold wl at I;split at I
  .exact VI C U I
  .rename_i j;exact CO C U j
 have he:=VH (P:=P) (w:=w) C U hr;simp only[fU,hg,fV];rcases hop with⟨rfl,rfl⟩|⟨rfl,rfl⟩
 .refine⟨.bool r,?_,.bool r⟩;have:binOp .eql V Z O=(do pure (.bool (<-Op.equal V Z O)):Sem Value):=by
   cases C<;>cases U<;>first|rfl|exact(Y _ _ _ _ rfl rfl).elim|exact(z _ _ rfl rfl).elim|exact(J _ _ rfl).elim|exact(M _ _ _ _ rfl rfl).elim
  simp_all
 .refine⟨.bool !r,?_,.bool _⟩;have:binOp .neq V Z O=(do pure (.bool (!(<-Op.equal V Z O))):Sem Value):=by
   cases C<;>cases U<;>first|rfl|exact(Y _ _ _ _ rfl rfl).elim|exact(z _ _ rfl rfl).elim|exact(J _ _ rfl).elim|exact(M _ _ _ _ rfl rfl).elim
  simp_all
def Lq{e:Sx}(C:VR G x V)(h:Ci x=some (k,e)):V=.int k (e.eval G.ρ):=by
 unfold Ci at h;split at h
 .simp only[dB]at h;obtain⟨rfl,rfl⟩:=h;cases C;rfl
 .simp only[dB]at h;obtain⟨rfl,rfl⟩:=h;cases C;rfl
 .simp at h
def VK{op:BinOp}{a b n:Int}(h:kK op k a b=some (.int k n)):GE op k a b=n:=by simp[GE,h]
def VL(Z:pO D G.ρ){op:BinOp}{a b:Sx}(h:GF D op k a b=some c)(V:TypeId):
 ∃v,(binOp op V (.int k (a.eval G.ρ)) (.int k (b.eval G.ρ))).run P w=.ok v w/\VR G c v:=by
 have z:∀(op:BinOp) (n:Int),(op≠.shl/\op≠.shr)->kK op k (a.eval G.ρ) (b.eval G.ρ)=some (.int k n)->c=.sx k (.dn op k a b) ->
  ∃v,(binOp op V (.int k (a.eval G.ρ)) (.int k (b.eval G.ρ))).run P w=.ok v w/\VR G c v:=fun op n m I hc=>by
  obtain⟨v,Y,j⟩:=GR (P:=P) (w:=w) (G:=G) m I V;cases j;refine⟨_,Y,?_⟩;subst hc;have:VR G (.sx k (.dn op k a b)) (.int k ((Sx.dn op k a b).eval G.ρ)):=.sx _ _;simp only[Sx.eval,VK I]at this;exact this
 have C:D .eql b (.lit 0)=some false->b.eval G.ρ≠0:=fun hd=>by
  have:=Z _ k _ _ _ hd;simp[kK,Sx.eval]at this;exact this
 cases op<;>simp only[GF,aQ,reduceCtorEq]at h<;>first
  |exact z _ _ aw rfl h.symm
  |(split at h
    ·rename_i hd;simp only[aQ]at h;first
      |exact z .quo (k.wrap ((a.eval G.ρ).tdiv (b.eval G.ρ))) aw (by simp only[kK,af (C hd)]) h.symm
      |exact z .rem ((a.eval G.ρ).tmod (b.eval G.ρ)) aw (by simp only[kK,af (C hd)]) h.symm
    .simp at h)
  |(split at h
    ·rename_i r hd;simp only[aQ]at h;subst h;exact GR (P:=P) (w:=w) (G:=G) aw (Z _ k _ _ _ hd) V
    .simp at h)
def Lr(j:pO D G.ρ){op:BinOp}{V:TypeId}{I J:Operand}(C:VR G x Z)(z:VR G y O)(M:∀l m,x=.agg l->y=.agg m->False)(h:Ck D op x y=some c):
 ∃v,(do eqGuard op V I J Z O;binOp op V Z O:Sem Value).run P w=.ok v w/\VR G c v:=by
 have hg:=CO (P:=P) (w:=w) (op:=op) (t:=V) (x:=I) (y:=J) C z M;simp only[fU,hg,fV];unfold Ck at h;split at h
 .rename_i k a k' b Y U;have e1:=Lq C Y;have e2:=Lq z U;subst e1 e2;split at h
  .rename_i hk;subst hk;exact VL j h V
  .simp at h
 .simp at h
def VM(m:pO D G.ρ){op:BinOp}{V:TypeId}{I J:Operand}(C:VR G x Z)(U:VR G y O)(h:eD P D op V x y=some c):
 ∃v,(do eqGuard op V I J Z O;binOp op V Z O:Sem Value).run P w=.ok v w/\VR G c v:=by
 unfold eD at h;split at h
 .rename_i k a k' b;have hg:=CO (P:=P) (w:=w) (op:=op) (t:=V) (x:=I) (y:=J) C U aw;simp only[fU,hg,fV];cases C;cases U;unfold uM at h;split at h
  .unfold xN at h;split at h
   .simp only[aQ]at h;subst h;refine⟨_,?_,.int _ _⟩;simp only[binOp,Op.shift];rw[af aw];rfl
   .simp at h
  .unfold xN at h;split at h
   .simp only[aQ]at h;subst h;refine⟨_,?_,.int _ _⟩;simp only[binOp,Op.shift];rw[af aw];rfl
   .simp at h
  .rename_i Y j;split at h
   .rename_i z;subst z;exact GR ⟨Y,j⟩ h V
   .simp at h
 .rename_i a b;have hg:=CO (P:=P) (w:=w) (op:=op) (t:=V) (x:=I) (y:=J) C U aw;simp only[fU,hg,fV];cases C with
  |aj sa _ M=>
   cases U with
   |aj sb _ hb=>
    subst M hb;exact VD h V
 .exact Lr m C U aw h
 .exact Lr m C U aw h
 .exact VJ C U lZ lZ lZ lZ h
def VN{op:UnOp}(C:VR G x V)(h:uN op x=some c):∃v,(Op.unary op V).run P w=.ok v w/\VR G c v:=by
 unfold uN at h;split at h
 .cases C;simp only[aQ]at h;subst h;refine⟨_,rfl,?_⟩;exact .sx _ _
 .cases C;simp only[aQ]at h;subst h;refine⟨_,rfl,?_⟩;exact .sx _ _
 .cases C;simp only[kK,aQ]at h;subst h;exact⟨_,rfl,.int _ _⟩
 .cases C;simp only[kK,aQ]at h;subst h;exact⟨_,rfl,.int _ _⟩
 .cases C;simp only[aQ]at h;subst h;exact⟨_,rfl,.bool _⟩
 .simp at h
end
end Go.Ab
