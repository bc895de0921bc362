/- Parts: AbRel, AbMem, AbOps, AbOps2. -/
import Derived.Test.YtpbcimfiofmoeaaGreatPCA
import Derived.WalkKit
set_option linter.unusedSimpArgs false
set_option linter.unusedVariables false
set_option linter.unusedSectionVars false
set_option linter.defProp false
set_option maxHeartbeats 32000000
namespace Go.Ab
set_option maxRecDepth 20000
open Go
theorem au{P:Prop}(h:P:=by simp):P:=h
theorem za{P:Prop}(h:P:=by simpa using hc):P:=h
theorem zb{P:Prop}(h:P:=by simpa using U):P:=h
theorem ac{P:Prop}(h:P:=by omega):P:=h
theorem lF{P:Prop}(h:P:=by rw[<- k r _ hr];exact hc):P:=h
theorem cC{P:Prop}(h:P:=by simp;omega):P:=h
theorem Cl{P:Prop}(h:P:=by have:=h.dom _ _ L;omega):P:=h
theorem kV{P:Prop}(h:P:=by rw[zfk,if_pos rfl]):P:=h
theorem iA{P:Prop}(h:P:=by rw[Hp.get_set,if_pos rfl]):P:=h
theorem wB{P:Prop}(h:P:=by simp only[zgT];omega):P:=h
theorem Gp{P:Prop}(h:P:=by simpa [Instr.loadAt,Instr.sureAddr]using i):P:=h
theorem wC{P:Prop}(h:P:=by simpa using g):P:=h
theorem uJ{P:Prop}(h:P:=by simpa using Z):P:=h
theorem Cm{P:Prop}(h:P:=by rw[Nat.add_assoc];exact .ptr hr):P:=h
theorem wD{P:Prop}(h:P:=by simpa using V):P:=h
theorem qN{P:Prop}(h:P:=by constructor):P:=h
theorem uK{P:Prop}(h:P:=by simp[binOp,Op.stringOp,ByteArray.toList_eq]):P:=h
theorem wE{P:Prop}(h:P:=by simpa using z):P:=h
theorem jd{P:Prop}(h:P:=by assumption):P:=h
theorem hY{P:Prop}(h:P:=by rw[zfk,if_neg ac]):P:=h
def je:=@List.getElem?_append_left
def l0:=@List.getElem?_append_right
def pK:=@List.getElem?_take
def aq:=@if_pos
def aE:=@Nat.le_refl
def cJ:=@Nat.le_trans
def nr:=@Nat.lt_of_lt_of_le
def jf:=@Nat.eq_of_beq_eq_true
def Cn:=@Nat.ne_of_beq_eq_false
def jt:=@decide_true
def gE:=@decide_false
def af:=@if_neg
def az:=@Option.some.injEq
def jQ:=@Nat.blt_eq
def ju:=@Array.getD_eq_getD_getElem?
def uL:=@Array.getElem?_setIfInBounds
def gU:=@Prod.mk.injEq
def eG:=@List.getElem?_eq_some_iff
def aR:=@List.getElem?_eq_getElem
def b9:=@Nat.zero_add
def zd:=@Go.RowKit.Below.heap_alloc
def eh:=@Nat.le_succ
def Co:=@List.take_append_of_le_length
def fN:=@List.take_of_length_le
def Cp:=@List.drop_of_length_le
def fG:=@List.length_append
def jR:=@List.length_take
def dg:=@List.length_cons
def eM:=@List.length_nil
def Cq:=@List.drop_drop
def oo:=@List.nil_append
def nu:=@List.append_assoc
def rX:=@List.getElem?_drop
def eI:=@Go.Sem.run_bind
def jS:=@Nat.add_assoc
def ku:=@List.length_drop
def fH:=@Option.bind_eq_some_iff
def oq:=@Option.map_eq_some_iff
def eN:=@Go.Result.andThen_ok
def cV:=@if_true
def ky:=@Go.Sem.run_pure
def ou:=@Array.ext'
def tp:=@List.getElem_of_mem
def gF:=@List.all_eq_true
def dI:=@List.getElem_mem
def wF:=@Bool.eq_iff_iff
def ow:=@beq_iff_eq
def l7:=@Bool.true_eq_false
def cS:=@if_false
def gG:=@Bool.or_eq_false_iff
def cH:=And.intro @az.{0} @gU.{0,0}
end Go.Ab
namespace Go.Ab
set_option maxRecDepth 20000
open Go Go.RowKit
structure Gh where
 β:Nat->Option (Nat×Nat×Nat)
 F:Nat->Nat->Option Value
 ρ:Nat->Int
structure Bs where
 at':Nat
 ρ:Nat->Int
 cfg:Cfg
def ny(D:BinOp->Sx->Sx->Option Bool)(ρ:Nat->Int):Prop:=∀J k a b r,D J a b=some r->zhA J k (a.eval ρ) (b.eval ρ)=some (.bool r)
inductive VR (G:Gh):AV->Value->Prop
 |int (k:IntKind) (n:Int):VR G (.int k n) (.int k n)
 |sx (k:IntKind) (e:Sx):VR G (.sx k e) (.int k (e.eval G.ρ))
 |bool (b:Bool):VR G (.bool b) (.bool b)
 |str (s:ByteArray) (l:List UInt8) (h:s.data.toList=l):VR G (.str l) (.string s)
 |nilP:VR G .nilP (.pointer none)
 |nilM:VR G .nilM (.map none)
 |nilF:VR G .nilF .nilFunc
 |nilS:VR G .nilS (.slice none 0 0)
 |ptr {r off b o x:Nat} (h:G.β r=some (b,o,x)):VR G (.ptr r off) (.pointer (some ⟨b,o+off,none⟩))
 |iptr {cs:List AV}{b o:Nat} (vs:Nat->Value) (hF:∀j,j<cs.length->G.F b (o+j)=some (vs j))
  (hv:∀(j:Nat) (c:AV),cs[j]?=some c->VR G c (vs j)):VR G (.iptr cs) (.pointer (some ⟨b,o,none⟩))
 |sl {r off len z b o x cap:Nat} (h:G.β r=some (b,o,x)) (hl:len<=cap) (hc:off+cap*z<=x) :
  VR G (.sl r off len z) (.slice (some ⟨b,o+off,none⟩) len cap)
 |lst {xs:List (List AV)}{b o cap z:Nat} (vs:Nat->Nat->Value) (hz:∀(i:Nat) (row:List AV),xs[i]?=some row->row.length=z)
  (hF:∀i j,i<xs.length->j<z->G.F b (o+i*z+j)=some (vs i j))
  (hv:∀(i j:Nat) (row:List AV) (c:AV),xs[i]?=some row->row[j]?=some c->VR G c (vs i j)) (hc:xs.length<=cap) :
  VR G (.lst xs) (.slice (some ⟨b,o,none⟩) xs.length cap)
 |lst0 (a:Option Addr) (cap:Nat):VR G (.lst []) (.slice a 0 cap)
 |map {r b o x:Nat} (h:G.β r=some (b,o,x)):VR G (.map r) (.map (some b))
 |clo {f:Nat}{cs:List AV}{vs:List Value} (hl:cs.length=vs.length) (hv:∀(i:Nat) c v,cs[i]?=some c->vs[i]?=some v->VR G c v) :
  VR G (.clo f cs) (.func (.func f) #[] vs.toArray)
 |agg {cs:List AV}{vs:List Value} (hl:cs.length=vs.length) (hv:∀(i:Nat) c v,cs[i]?=some c->vs[i]?=some v->VR G c v) :
  VR G (.agg cs) (.agg vs.toArray)
 |tup {cs:List AV}{vs:List Value} (hl:cs.length=vs.length) (hv:∀(i:Nat) c v,cs[i]?=some c->vs[i]?=some v->VR G c v) :
  VR G (.tup cs) (.tuple vs.toArray)
def cn(G:Gh)(cs:List AV)(vs:List Value):Prop:=cs.length=vs.length/\∀(i:Nat) c v,cs[i]?=some c->vs[i]?=some v->VR G c v
theorem cn.nil(G:Gh):cn G [] []:=⟨rfl,au⟩
def oU:=@cn.nil
theorem cn.cons{G:Gh}{c:AV}{v:Value}{cs:List AV}{vs:List Value}(h:VR G c v)(K:cn G cs vs):cn G (c::cs) (v::vs):=by
 refine⟨by simp[K.1],fun i g O hc U=>?_⟩;cases i with
 |zero=>simp at hc U;subst hc U;exact h
 |succ i=>exact K.2 i g O za zb
def ox:=@cn.cons
theorem cn.of_cons{G:Gh}{c:AV}{v:Value}{cs:List AV}{vs:List Value}(h:cn G (c::cs) (v::vs)):VR G c v/\cn G cs vs:=
 ⟨h.2 0 c v rfl rfl,by simpa using h.1,fun i g O hc U=>h.2 (i+1) g O za zb⟩
theorem cn.append{G:Gh}{cs g:List AV}{vs us:List Value}(h:cn G cs vs)(Z:cn G g us):cn G (cs++g) (vs++us):=by
 refine⟨by simp[h.1,Z.1],fun i c v hc U=>?_⟩;have L:=h.1;by_cases I:i<cs.length
 .rw[je I]at hc;rw[je ac]at U;exact h.2 i c v hc U
 .rw[l0 ac]at hc;rw[l0 ac]at U;rw[<-L]at U;exact Z.2 _ c v hc U
theorem cn.drop{G:Gh}{cs:List AV}{vs:List Value}(h:cn G cs vs)(n:Nat):cn G (cs.drop n) (vs.drop n):=
 ⟨by simp[h.1],fun i c v hc U=>h.2 (n+i) c v za zb⟩
theorem cn.take{G:Gh}{cs:List AV}{vs:List Value}(h:cn G cs vs)(n:Nat):cn G (cs.take n) (vs.take n):=by
 refine⟨by simp[h.1],fun i c v hc U=>?_⟩;rw[pK]at hc U;split at hc
 .rename_i I;rw[aq I]at U;exact h.2 i c v hc U
 .simp at hc
structure Ext (G G':Gh):Prop where
 β:∀r p,G.β r=some p->G'.β r=some p
 F:∀b o v,G.F b o=some v->G'.F b o=some v
 ρ:G'.ρ=G.ρ
theorem Ext.refl(G:Gh):Ext G G:=⟨fun _ _ h=>h,fun _ _ _ h=>h,rfl⟩
def uM:=@Ext.refl
theorem Ext.trans{a b c:Gh}(h:Ext a b)(k:Ext b c):Ext a c:=⟨fun r p hp=>k.β r p (h.β r p hp),fun x y v U=>k.F x y v (h.F x y v U),k.ρ.trans h.ρ⟩
theorem VR.mono{G g:Gh}(e:Ext G g){c:AV}{v:Value}(h:VR G c v):VR g c v:=by
 induction h with
 |int k n=>exact .int k n
 |sx k x=>rw[<-e.ρ];exact .sx k x
 |bool b=>exact .bool b
 |str s l h=>exact .str s l h
 |nilP=>exact .nilP
 |nilM=>exact .nilM
 |nilF=>exact .nilF
 |nilS=>exact .nilS
 |ptr h=>exact .ptr (e.β _ _ h)
 |iptr vs Z _ ih=>exact .iptr vs (fun j Y=>e.F _ _ _ (Z j Y)) ih
 |sl h L hc=>exact .sl (e.β _ _ h) L hc
 |lst vs V Z _ hc ih=>exact .lst vs V (fun i j I Y=>e.F _ _ _ (Z i j I Y)) ih hc
 |lst0 a K=>exact .lst0 a K
 |map h=>exact .map (e.β _ _ h)
 |clo L _ ih=>exact .clo L ih
 |agg L _ ih=>exact .agg L ih
 |tup L _ ih=>exact .tup L ih
theorem cn.mono{G g:Gh}(e:Ext G g){c:List AV}{v:List Value}(h:cn G c v):cn g c v:=⟨h.1,fun i a b o Z=>(h.2 i a b o Z).mono e⟩
theorem VR.oneCell{G:Gh}{c:AV}{v:Value}(h:VR G c v):v.oneCell'=c.one:=by cases h<;>rfl
theorem VR.cells{G:Gh}{c:AV}{v:Value}(h:VR G c v):cn G c.cells v.cells.toList:=by
 cases h with
 |agg L U=>exact⟨by simpa [AV.cells,Value.cells]using L,by simpa [AV.cells,Value.cells]using U⟩
 |_=>exact ox (by constructor<;>assumption) (oU _)
def jg(G:Gh)(w:World)(b o:Nat)(cs:List AV):Prop:=∀(j:Nat) (c:AV),cs[j]?=some c->∃v,w.cell? ⟨b,o+j,none⟩=some v/\VR G c v
def zgT(x:Nat)(cs:List AV):Bool->Nat
 |true=>x
 |false=>cs.length
def qO(G:Gh)(V:List (AV×AV))(ms:List MapEntry):Prop:=
 V.length=ms.length/\∀(i:Nat) e m,V[i]?=some e->ms[i]?=some m->VR G e.1 m.key/\VR G e.2 m.val
structure R (B:Bs) (H:Hp) (w:World) (G:Gh):Prop where
 base:B.at'<=w.heap.size
 dom:∀r p,G.β r=some p->r<H.next
 lt:∀r b o x,G.β r=some (b,o,x)->B.at'<=b/\b<w.heap.size
 cells:∀r b o x cs imm tip,G.β r=some (b,o,x)->H.get r=some (.cells cs imm tip)->jg G w b o cs
 imm:∀r b o x cs imm tip,G.β r=some (b,o,x)->H.get r=some (.cells cs imm tip)->∀j,j<imm->j<cs.length->∃v,G.F b (o+j)=some v
 ext:∀r b o x cs imm tip,G.β r=some (b,o,x)->H.get r=some (.cells cs imm tip)->cs.length<=zgT x cs tip
 room:∀r b o x cs imm tip,G.β r=some (b,o,x)->H.get r=some (.cells cs imm tip)->∀j,imm<=j->j<zgT x cs tip ->
  (∃v,w.cell? ⟨b,o+j,none⟩=some v)/\w.frozen? ⟨b,o+j,none⟩=false/\G.F b (o+j)=none
 apart:∀r b o x cs imm tip r' b' o' x' cs' imm' tip',G.β r=some (b,o,x)->H.get r=some (.cells cs imm tip) ->
  G.β r'=some (b',o',x')->H.get r'=some (.cells cs' imm' tip')->r≠r' ->
  ∀j j',imm<=j->j<zgT x cs tip->imm'<=j'->j'<zgT x' cs' tip'->b=b'->o+j≠o'+j'
 map:∀r b o x es,G.β r=some (b,o,x)->H.get r=some (.map es)->∃ms clock,w.heap[b]?=some (.map ms clock)/\qO G es ms.toList
 mapApart:∀r b o x es r' b' o' x',G.β r=some (b,o,x)->H.get r=some (.map es)->G.β r'=some (b',o',x')->(H.get r').isSome->r≠r'->b≠b'
 frz:∀b o v,G.F b o=some v->w.cell? ⟨b,o,none⟩=some v
 val:G.ρ=B.ρ
 sym:ny B.cfg.dec B.ρ
 fits:∀r b o x cs imm tip,G.β r=some (b,o,x)->H.get r=some (.cells cs imm tip)->cs.length<=x
structure Fr (G:Gh) (w w':World):Prop where
 os:w'.os=w.os
 tape:w'.tape=w.tape
 output:w'.output=w.output
 size:w.heap.size<=w'.heap.size
 block:∀k,k<w.heap.size->(∀r b o x,G.β r=some (b,o,x)->b≠k)->w'.heap[k]?=w.heap[k]?
theorem Fr.refl(G:Gh)(w:World):Fr G w w:=⟨rfl,rfl,rfl,aE _,fun _ _ _=>rfl⟩
def wG:=@Fr.refl
def qP(G g:Gh)(w:World):Prop:=∀r b o x,g.β r=some (b,o,x)->G.β r=some (b,o,x)\/w.heap.size<=b\/∃O M Z,G.β O=some (b,M,Z)
theorem Fr.trans{G g:Gh}{a b c:World}(h:Fr G a b)(k:Fr g b c)(n:qP G g a):Fr G a c:=
 ⟨k.os.trans h.os,k.tape.trans h.tape,k.output.trans h.output,cJ h.size k.size,fun i I z=>
  (k.block i (nr I h.size) (fun r b o x hr Y=>by
    rcases n r b o x hr with Z|Z|⟨O,M,V,Z⟩
    .exact z r b o x Z Y
    .omega
    .exact z O b M V Z Y)).trans (h.block i I z)⟩
theorem qP.refl(G:Gh)(w:World):qP G G w:=fun _ _ _ _ h=>.inl h
def tq:=@qP.refl
theorem qP.trans{G Z V:Gh}{w w':World}(h:qP G Z w)(k:qP Z V w')(K:w.heap.size<=w'.heap.size):qP G V w:=fun r b o x hr=>by
 rcases k r b o x hr with i|i|⟨O,M,Y,i⟩
 .exact h r b o x i
 .exact .inr (.inl ac)
 .rcases h O b M Y i with g|g|g
  .exact .inr (.inr ⟨O,M,Y,g⟩)
  .exact .inr (.inl g)
  .exact .inr (.inr g)
structure Step (B:Bs) (nx:Nat) (G:Gh) (w:World) (H':Hp) (w':World) (G':Gh):Prop where
 r:R B H' w' G'
 ext:Ext G G'
 fr:Fr G w w'
 new:qP G G' w
 low:∀r p,G'.β r=some p->G.β r=some p\/nx<=r
 mono:nx<=H'.next
 icy:∀b o v,G'.F b o=some v->G.F b o=some v\/B.at'<=b
theorem Step.refl{B:Bs}{H:Hp}{G:Gh}{w:World}(h:R B H w G):Step B H.next G w H w G:=⟨h,uM _,wG _ _,tq _ _,fun _ _ h=>.inl h,aE _,fun _ _ _ h=>.inl h⟩
def lH:=@Step.refl
theorem Step.trans{B:Bs}{L:Nat}{H' K:Hp}{G g V:Gh}{w w' Y:World}(h:Step B L G w H' w' g)(k:Step B H'.next g w' K Y V):Step B L G w K Y V:=
 ⟨k.r,h.ext.trans k.ext,h.fr.trans k.fr h.new,h.new.trans k.new h.fr.size,fun r p hr=>by
  rcases k.low r p hr with i|i
  .exact h.low r p i
  .exact .inr (cJ h.mono i),cJ h.mono k.mono,fun b o v U=>by
  rcases k.icy b o v U with i|i
  .exact h.icy b o v i
  .exact .inr i⟩
structure TR (N:Nat) (G:Gh) (E:aw) (a:Act):Prop where
 size:a.tmps.size=N
 slots:∀t,VR G (E.at t) (a.tmps.getD t undef)
theorem TR.mono{N:Nat}{G g:Gh}{E:aw}{a:Act}(e:Ext G g)(h:TR N G E a):TR N g E a:=⟨h.size,fun t=>(h.slots t).mono e⟩
theorem VR.undef(G:Gh):VR G zgA Go.undef:=.tup (cs:=[]) (vs:=[]) rfl au
def wH:=@VR.undef
@[simp] theorem qQ {α:Type} (x y:α):ke true x y=x:=rfl
@[simp] theorem zhR {α:Type} (x y:α):ke false x y=y:=rfl
theorem wI{i:Type}(k:Nat):(T.e:T i).get k=none:=rfl
theorem tt{i:Type}(v:Option i)(l r:T i)(k:Nat):
 (T.n v l r).get k=ke (Nat.beq k 0) v (ke (Nat.beq (Nat.mod k 2) 1) (l.get (Nat.div k 2)) (r.get (Nat.sub (Nat.div k 2) 1))):=rfl
theorem Pa{i:Type}(v:Option i)(f:Nat)(t:T i)(k:Nat):td v (f+1) t k=T.casesOn t
 (ke (Nat.beq k 0) (.n v .e .e) (ke (Nat.beq (Nat.mod k 2) 1) (.n none (td v f .e (Nat.div k 2)) .e) (.n none .e (td v f .e (Nat.sub (Nat.div k 2) 1)))))
 (fun u l r=>ke (Nat.beq k 0) (.n v l r) (ke (Nat.beq (Nat.mod k 2) 1) (.n u (td v f l (Nat.div k 2)) r) (.n u l (td v f r (Nat.sub (Nat.div k 2) 1))))):=rfl
theorem Pb{M:Type}(v:Option M):∀(f:Nat) (t:T M) (k j:Nat),k<f->(td v f t k).get j=if j=k then v else t.get j:=by
 intro f;induction f with
 |zero=>intro t k j h;omega
 |succ f ih=>
  intro t k j h;have hd:∀n:Nat,Nat.div n 2=n/2:=fun _=>rfl;have U:∀n:Nat,Nat.mod n 2=n%2:=fun _=>rfl;have K:∀n:Nat,Nat.sub n 1=n-1:=fun _=>rfl;have Y:∀n m:Nat,Nat.beq n m=decide (n=m):=fun n m=>by
   cases h:Nat.beq n m with
   |true=>have e:=jf h;simp[e]
   |false=>have e:=Cn h;simp[e]
  rw[Pa];cases t with
  |e=>
   simp only[];by_cases V:k=0
   .subst V;simp only[Y,jt,qQ,tt,wI];by_cases O:j=0<;>simp[O] ;cases decide (j.mod 2=1)<;>rfl
   .simp only[Y,V,gE,zhR];by_cases Z:Nat.mod k 2=1
    .simp only[Z,jt,qQ,tt,Y];by_cases g:j=0
     .subst g;simp[wI];omega
     .simp only[g,gE,zhR];by_cases i:Nat.mod j 2=1
      .simp only[i,jt,qQ];rw[ih _ _ _ (by rw[hd];omega)];rw[hd,hd,U]at *;by_cases e:j=k
       .subst e;simp
       .rw[af ac,af e];rfl
      .simp only[i,gE,zhR,wI];rw[af (by rintro rfl;exact i Z)]
    .simp only[Z,gE,zhR,tt,Y];by_cases g:j=0
     .subst g;simp[wI];omega
     .simp only[g,gE,zhR];by_cases i:Nat.mod j 2=1
      .simp only[i,jt,qQ,wI];rw[af (by rintro rfl;exact Z i)]
      .simp only[i,gE,zhR];rw[ih _ _ _ (by rw[hd,K];omega)];rw[hd,hd,K,K];rw[U]at Z i;by_cases e:j=k
       .subst e;simp
       .rw[af ac,af e];rfl
  |n u l r=>
   simp only[];by_cases V:k=0
   .subst V;simp only[Y,jt,qQ,tt];by_cases O:j=0<;>simp[O]
   .simp only[Y,V,gE,zhR];by_cases Z:Nat.mod k 2=1
    .simp only[Z,jt,qQ,tt,Y];by_cases g:j=0
     .subst g;simp;omega
     .simp only[g,gE,zhR];by_cases i:Nat.mod j 2=1
      .simp only[i,jt,qQ];rw[ih _ _ _ (by rw[hd];omega)];rw[U]at Z i;rw[hd,hd];by_cases e:j=k
       .subst e;simp
       .rw[af ac,af e]
      .simp only[i,gE,zhR];rw[af (by rintro rfl;exact i Z)]
    .simp only[Z,gE,zhR,tt,Y];by_cases g:j=0
     .subst g;simp;omega
     .simp only[g,gE,zhR];by_cases i:Nat.mod j 2=1
      .simp only[i,jt,qQ];rw[af (by rintro rfl;exact Z i)]
      .simp only[i,gE,zhR];rw[ih _ _ _ (by rw[hd,K];omega)];rw[U]at Z i;rw[hd,hd,K,K];by_cases e:j=k
       .subst e;simp
       .rw[af ac,af e]
theorem T.get_set{i:Type}(t:T i)(k j:Nat)(v:Option i):(t.set k v).get j=if j=k then v else t.get j:=Pb v (k+1) t k j ac
def ze:=@T.get_set
theorem Hp.get_set(h:Hp)(r j:Nat)(b:HB):(h.set r b).get j=if j=r then some b else h.get j:=ze _ _ _ _
def aQ:=@Hp.get_set
theorem zhm(h:Hp)(r j:Nat):(h.kill r).get j=if j=r then none else h.get j:=ze _ _ _ _
theorem zfk(h:Hp)(j:Nat)(b:HB):(h.alloc b).get j=if j=h.next then some b else h.get j:=ze _ _ _ _
@[simp] theorem zfI (h:Hp) (r:Nat) (b:HB):(h.set r b).next=h.next:=rfl
@[simp] theorem zh5 (h:Hp) (r:Nat):(h.kill r).next=h.next:=rfl
@[simp] theorem zfw (h:Hp) (b:HB):(h.alloc b).next=h.next+1:=rfl
theorem uN(E:aw)(d t:Nat)(v:AV):aw.at (T.set E d (some v)) t=if t=d then v else E.at t:=by
 unfold aw.at;rw[ze];split<;>rfl
theorem TR.put{N:Nat}{G:Gh}{E L:aw}{a:Act}(h:TR N G E a){K:Option Tmp}{c:AV}{v:Value}(U:VR G c v)(J:fk N E K c=some L):TR N G L (a.put K v):=by
 cases K with
 |none=>simp[fk]at J;subst J;exact h
 |some d=>
  simp only[fk]at J;split at J
  .rename_i hd;simp only[az]at J;subst J;have i:d<N:=by simpa [jQ]using hd
   refine⟨by simp[Act.put,h.size],fun t=>?_⟩;rw[uN];simp only[Act.put];by_cases e:t=d
   .subst e;rw[aq rfl];simpa [Array.getD,h.size,i]using U
   .rw[af e];have:=h.slots t;simpa [ju,uL,Ne.symm e]using this
  .simp at J
theorem oy{w:World}{b o:Nat}{v:Value}(h:w.cell? ⟨b,o,none⟩=some v):b<w.heap.size:=World.block_lt_of_cell? w ⟨b,o,none⟩ h
theorem R.congr{B:Bs}{H H':Hp}{w:World}{G:Gh}(h:R B H w G)(z:H'.next=H.next)(C:∀r,(G.β r).isSome->H'.get r=H.get r):R B H' w G:=by
 have k:∀r p,G.β r=some p->H'.get r=H.get r:=fun r p hr=>C r (by simp[hr]);exact{
  base:=h.base
  dom:=fun r p hr=>by rw[z];exact h.dom r p hr
  lt:=h.lt
  cells:=fun r b o x g imm I hr hc=>h.cells r b o x g imm I hr lF
  imm:=fun r b o x g imm I hr hc=>h.imm r b o x g imm I hr lF
  ext:=fun r b o x g imm I hr hc=>h.ext r b o x g imm I hr lF
  fits:=fun r b o x g imm I hr hc=>h.fits r b o x g imm I hr lF
  room:=fun r b o x g imm I hr hc=>h.room r b o x g imm I hr lF
  apart:=fun r b o x g imm I O Y V L i U M hr hc Z K=>h.apart r b o x g imm I O Y V L i U M hr lF Z (by rw[<-k O _ Z];exact K)
  map:=fun r b o x J hr hc=>h.map r b o x J hr lF
  mapApart:=fun r b o x J O Y V L hr hc Z m=>h.mapApart r b o x J O Y V L hr lF Z (by rw[<-k O _ Z];exact m)
  frz:=h.frz
  val:=h.val
  sym:=h.sym}
theorem R.kill{B:Bs}{H:Hp}{w:World}{G:Gh}(h:R B H w G)(zfK:Nat):R B (H.kill zfK) w G:=by
 have k:∀j b,(H.kill zfK).get j=some b->H.get j=some b:=fun j b Y=>by
  rw[zhm]at Y;split at Y
  .simp at Y
  .exact Y
 exact{
  base:=h.base
  dom:=h.dom
  lt:=h.lt
  cells:=fun r b o x g imm I hr hc=>h.cells r b o x g imm I hr (k _ _ hc)
  imm:=fun r b o x g imm I hr hc=>h.imm r b o x g imm I hr (k _ _ hc)
  ext:=fun r b o x g imm I hr hc=>h.ext r b o x g imm I hr (k _ _ hc)
  fits:=fun r b o x g imm I hr hc=>h.fits r b o x g imm I hr (k _ _ hc)
  room:=fun r b o x g imm I hr hc=>h.room r b o x g imm I hr (k _ _ hc)
  apart:=fun r b o x g imm I O V L K i U M hr hc Z J=>h.apart r b o x g imm I O V L K i U M hr (k _ _ hc) Z (k _ _ J)
  map:=fun r b o x C hr hc=>h.map r b o x C hr (k _ _ hc)
  mapApart:=fun r b o x C O V L K hr hc Z z=>h.mapApart r b o x C O V L K hr (k _ _ hc) Z (by
   cases m:(H.kill zfK).get O with
   |none=>simp[m]at z
   |some b=>rw[k _ _ m];rfl)
  frz:=h.frz
  val:=h.val
  sym:=h.sym}
def Gh.add(G:Gh)(r:Nat)(p:Nat×Nat×Nat):Gh:={β:=fun k=>if k=r then some p else G.β k,F:=G.F,ρ:=G.ρ}
theorem zh1(G:Gh)(r:Nat)(p:Nat×Nat×Nat):(G.add r p).β r=some p:=by simp[Gh.add]
theorem Cr{G:Gh}{r:Nat}{p:Nat×Nat×Nat}(h:∀q,G.β r=some q->False):Ext G (G.add r p):=
 ⟨fun k q j=>by
  simp only[Gh.add];split
  .rename_i e;subst e;exact(h q j).elim
  .exact j,fun _ _ _ h=>h,rfl⟩
theorem jg.mono{G g:Gh}{w:World}{b o:Nat}{cs:List AV}(e:Ext G g)(h:jg G w b o cs):jg g w b o cs:=
 fun j c Y=>let ⟨v,i,Z⟩:=h j c Y;⟨v,i,Z.mono e⟩
theorem qO.mono{G g:Gh}{V:List (AV×AV)}{ms:List MapEntry}(e:Ext G g)(h:qO G V ms):qO g V ms:=
 ⟨h.1,fun i a b o Z=>⟨(h.2 i a b o Z).1.mono e,(h.2 i a b o Z).2.mono e⟩⟩
theorem Gq{B:Bs}{nx zfK:Nat}{X:Hp}{w:World}{G:Gh}(h:R B X w G){cs:List AV}{vs:List Value}(hno:∀q,G.β zfK=some q->False)(hlt0:zfK<X.next)(m:X.get zfK=some (.cells cs 0 true))(hnx:nx<=zfK)
 (hv:cn G cs vs) (Y:List Value) (e:TypeId) :
 Step B nx G w X (w.alloc (.cells (vs++Y).toArray e)) (G.add zfK (w.heap.size,0,vs.length+Y.length)):=by
 have L:Ext G (G.add zfK (w.heap.size,0,vs.length+Y.length)):=Cr hno;have J:∀k z g,k<w.heap.size->z=k->(w.alloc (.cells (vs++Y).toArray e)).cell? ⟨z,g,none⟩=w.cell? ⟨z,g,none⟩:=fun k z g hk hb=>World.cell?_alloc_lt _ _ _ (by simpa [hb]using hk);have hnew:∀j,(w.alloc (.cells (vs++Y).toArray e)).cell? ⟨w.heap.size,j,none⟩=(vs++Y)[j]?:=fun j=>by
  rw[World.cell?_alloc_new];simp
 have V:∀r p,(G.add zfK (w.heap.size,0,vs.length+Y.length)).β r=some p->(r=zfK/\p=(w.heap.size,0,vs.length+Y.length))\/(r≠zfK/\G.β r=some p):=fun r p hr=>by
  simp only[Gh.add]at hr;split at hr
  .rename_i e;exact .inl ⟨e,by simpa using hr.symm⟩
  .rename_i e;exact .inr ⟨e,hr⟩
 refine⟨?_,L,⟨rfl,rfl,rfl,au,fun k hk _=>?_⟩,fun r b o x hr=>?_,fun r p hr=>(V r p hr).elim (fun e=>.inr (by rw[e.1];exact hnx)) (fun e=>.inl e.2),ac,fun _ _ _ h=>.inl h⟩
 .exact{
   base:=by have:=h.base;simp;omega
   dom:=fun r p hr=>by
    rcases V r p hr with⟨rfl,_⟩|⟨_,Z⟩
    .exact hlt0
    .exact h.dom r p Z
   lt:=fun r b o x hr=>by
    rcases V r _ hr with⟨rfl,hp⟩|⟨_,Z⟩
    .simp only[gU]at hp;obtain⟨rfl,rfl,rfl⟩:=hp;exact⟨h.base,au⟩
    .have:=h.lt r b o x Z;exact⟨this.1,cC⟩
   cells:=fun r b o x i imm I hr hc=>by
    rcases V r _ hr with⟨rfl,hp⟩|⟨U,Z⟩
    .simp only[gU]at hp;obtain⟨rfl,rfl,rfl⟩:=hp;rw[m]at hc;simp only[az,HB.cells.injEq]at hc;obtain⟨rfl,rfl,rfl⟩:=hc;intro j c C;have O:j<cs.length:=(eG.1 C).1;have hjv:j<vs.length:=by have:=hv.1;omega
     refine⟨vs[j],?_,(hv.2 j c _ C (aR hjv)).mono L⟩;rw[b9,hnew,je hjv,aR hjv]
    .intro j c C;obtain⟨v,h1,h2⟩:=h.cells r b o x i imm I Z hc j c C;exact⟨v,by rw[J _ _ _ (oy h1) rfl];exact h1,h2.mono L⟩
   imm:=fun r b o x i imm I hr hc j C O=>by
    rcases V r _ hr with⟨rfl,hp⟩|⟨U,Z⟩
    .rw[m]at hc;simp only[az,HB.cells.injEq]at hc;obtain⟨rfl,rfl,rfl⟩:=hc;omega
    .exact h.imm r b o x i imm I Z hc j C O
   ext:=fun r b o x i imm I hr hc=>by
    rcases V r _ hr with⟨rfl,hp⟩|⟨U,Z⟩
    .simp only[gU]at hp;obtain⟨rfl,rfl,rfl⟩:=hp;rw[m]at hc;simp only[az,HB.cells.injEq]at hc;obtain⟨rfl,rfl,rfl⟩:=hc;have:=hv.1;simp only[zgT];omega
    .exact h.ext r b o x i imm I Z hc
   fits:=fun r b o x i imm I hr hc=>by
    rcases V r _ hr with⟨rfl,hp⟩|⟨U,Z⟩
    .simp only[gU]at hp;obtain⟨rfl,rfl,rfl⟩:=hp;rw[m]at hc;simp only[az,HB.cells.injEq]at hc;obtain⟨rfl,rfl,rfl⟩:=hc;have:=hv.1;omega
    .exact h.fits r b o x i imm I Z hc
   room:=fun r b o x i imm I hr hc j C O=>by
    rcases V r _ hr with⟨rfl,hp⟩|⟨U,Z⟩
    .simp only[gU]at hp;obtain⟨rfl,rfl,rfl⟩:=hp;rw[m]at hc;simp only[az,HB.cells.injEq]at hc;obtain⟨rfl,rfl,rfl⟩:=hc;simp only[zgT]at O;refine⟨⟨(vs++Y)[j]' cC,?_⟩,?_,?_⟩
     .rw[b9,hnew,aR]
     .simp
     .cases hf:G.F w.heap.size (0+j)with
      |none=>exact hf
      |some v=>have:=oy (h.frz _ _ _ hf);omega
    .obtain⟨⟨v,h1⟩,h2,h3⟩:=h.room r b o x i imm I Z hc j C O;exact⟨⟨v,by rw[J _ _ _ (oy h1) rfl];exact h1⟩,by rw[World.frozen?_alloc_old _ _ _ (by have:=oy h1;simp;omega)];exact h2,h3⟩
   apart:=fun r b o x cs1 imm I r' z g x' cs2 imm' tip' hr hc Z hc' U j j' C O hj' hjl' he=>by
    rcases V r _ hr with⟨rfl,hp⟩|⟨hn1,M⟩
    .simp only[gU]at hp;obtain⟨rfl,rfl,rfl⟩:=hp;rcases V r' _ Z with⟨rfl,hp⟩|⟨hn2,K⟩
     .exact(U rfl).elim
     .have:=(h.lt r' z g x' K).2;omega
    .rcases V r' _ Z with⟨rfl,hp⟩|⟨hn2,K⟩
     .simp only[gU]at hp;obtain⟨rfl,rfl,rfl⟩:=hp;have:=(h.lt r b o x M).2;omega
     .exact h.apart r b o x cs1 imm I r' z g x' cs2 imm' tip' M hc K hc' U j j' C O hj' hjl' he
   map:=fun r b o x es hr hc=>by
    rcases V r _ hr with⟨rfl,hp⟩|⟨U,Z⟩
    .rw[m]at hc;simp at hc
    .obtain⟨ms,clock,h1,h2⟩:=h.map r b o x es Z hc;refine⟨ms,clock,?_,h2.mono L⟩;rw[zd _ _ _ (h.lt r b o x Z).2];exact h1
   mapApart:=fun r b o x es r' z g x' hr hc Z hs U=>by
    rcases V r _ hr with⟨rfl,hp⟩|⟨hn1,M⟩
    .rw[m]at hc;simp at hc
    .rcases V r' _ Z with⟨rfl,hp⟩|⟨hn2,K⟩
     .simp only[gU]at hp;obtain⟨rfl,rfl,rfl⟩:=hp;have:=(h.lt r b o x M).2;omega
     .exact h.mapApart r b o x es r' z g x' M hc K hs U
   frz:=fun b o v hf=>by
    have:=h.frz b o v hf;rw[J _ _ _ (oy this) rfl];exact this
   val:=h.val
   sym:=h.sym}
 .exact zd _ _ _ hk
 .rcases V r _ hr with⟨rfl,hp⟩|⟨_,Z⟩
  .simp only[gU]at hp;obtain⟨rfl,rfl,rfl⟩:=hp;exact .inr (.inl (aE _))
  .exact .inl Z
theorem Gs{B:Bs}{nx zfK:Nat}{X:Hp}{w:World}{G:Gh}(h:R B X w G)(hno:∀q,G.β zfK=some q->False)(hlt0:zfK<X.next)(m:X.get zfK=some (.map []))(hnx:nx<=zfK):
 Step B nx G w X (w.alloc (.map #[] 0)) (G.add zfK (w.heap.size,0,0)):=by
 have L:Ext G (G.add zfK (w.heap.size,0,0)):=Cr hno;have V:∀k M C,k<w.heap.size->M=k->(w.alloc (.map #[] 0)).cell? ⟨M,C,none⟩=w.cell? ⟨M,C,none⟩:=fun k M C hk hb=>World.cell?_alloc_lt _ _ _ (by simpa [hb]using hk);have Y:∀r p,(G.add zfK (w.heap.size,0,0)).β r=some p->(r=zfK/\p=(w.heap.size,0,0))\/(r≠zfK/\G.β r=some p):=fun r p hr=>by
  simp only[Gh.add]at hr;split at hr
  .rename_i e;exact .inl ⟨e,by simpa using hr.symm⟩
  .rename_i e;exact .inr ⟨e,hr⟩
 refine⟨?_,L,⟨rfl,rfl,rfl,au,fun k hk _=>?_⟩,fun r b o x hr=>?_,fun r p hr=>(Y r p hr).elim (fun e=>.inr (by rw[e.1];exact hnx)) (fun e=>.inl e.2),ac,fun _ _ _ h=>.inl h⟩
 .exact{
   base:=by have:=h.base;simp;omega
   dom:=fun r p hr=>by
    rcases Y r p hr with⟨rfl,_⟩|⟨_,Z⟩
    .exact hlt0
    .exact h.dom r p Z
   lt:=fun r b o x hr=>by
    rcases Y r _ hr with⟨rfl,hp⟩|⟨_,Z⟩
    .simp only[gU]at hp;obtain⟨rfl,rfl,rfl⟩:=hp;exact⟨h.base,au⟩
    .have:=h.lt r b o x Z;exact⟨this.1,cC⟩
   cells:=fun r b o x i imm I hr hc=>by
    rcases Y r _ hr with⟨rfl,hp⟩|⟨U,Z⟩
    .rw[m]at hc;simp at hc
    .intro j c g;obtain⟨v,z,h2⟩:=h.cells r b o x i imm I Z hc j c g;exact⟨v,by rw[V _ _ _ (oy z) rfl];exact z,h2.mono L⟩
   imm:=fun r b o x i imm I hr hc j g O=>by
    rcases Y r _ hr with⟨rfl,hp⟩|⟨U,Z⟩
    .rw[m]at hc;simp at hc
    .exact h.imm r b o x i imm I Z hc j g O
   ext:=fun r b o x i imm I hr hc=>by
    rcases Y r _ hr with⟨rfl,hp⟩|⟨U,Z⟩
    .rw[m]at hc;simp at hc
    .exact h.ext r b o x i imm I Z hc
   fits:=fun r b o x i imm I hr hc=>by
    rcases Y r _ hr with⟨rfl,hp⟩|⟨U,Z⟩
    .rw[m]at hc;simp at hc
    .exact h.fits r b o x i imm I Z hc
   room:=fun r b o x i imm I hr hc j g O=>by
    rcases Y r _ hr with⟨rfl,hp⟩|⟨U,Z⟩
    .rw[m]at hc;simp at hc
    .obtain⟨⟨v,z⟩,h2,h3⟩:=h.room r b o x i imm I Z hc j g O;exact⟨⟨v,by rw[V _ _ _ (oy z) rfl];exact z⟩,by rw[World.frozen?_alloc_old _ _ _ (by have:=oy z;simp;omega)];exact h2,h3⟩
   apart:=fun r b o x cs1 imm I r' M C x' cs2 imm' tip' hr hc Z hc' U j j' g O hj' hjl' he=>by
    rcases Y r _ hr with⟨rfl,hp⟩|⟨hn1,J⟩
    .rw[m]at hc;simp at hc
    .rcases Y r' _ Z with⟨rfl,hp⟩|⟨hn2,K⟩
     .rw[m]at hc';simp at hc'
     .exact h.apart r b o x cs1 imm I r' M C x' cs2 imm' tip' J hc K hc' U j j' g O hj' hjl' he
   map:=fun r b o x es hr hc=>by
    rcases Y r _ hr with⟨rfl,hp⟩|⟨U,Z⟩
    .simp only[gU]at hp;obtain⟨rfl,rfl,rfl⟩:=hp;rw[m]at hc;simp only[az,HB.map.injEq]at hc;subst hc;exact⟨#[],0,by show(w.heap.push _)[w.heap.size]?=_;simp,rfl,au⟩
    .obtain⟨ms,clock,z,h2⟩:=h.map r b o x es Z hc;refine⟨ms,clock,?_,h2.mono L⟩;rw[zd _ _ _ (h.lt r b o x Z).2];exact z
   mapApart:=fun r b o x es r' M C x' hr hc Z hs U=>by
    rcases Y r _ hr with⟨rfl,hp⟩|⟨hn1,J⟩
    .simp only[gU]at hp;obtain⟨rfl,rfl,rfl⟩:=hp;rcases Y r' _ Z with⟨rfl,hp⟩|⟨hn2,K⟩
     .exact(U rfl).elim
     .have:=(h.lt r' M C x' K).2;omega
    .rcases Y r' _ Z with⟨rfl,hp⟩|⟨hn2,K⟩
     .simp only[gU]at hp;obtain⟨rfl,rfl,rfl⟩:=hp;have:=(h.lt r b o x J).2;omega
     .exact h.mapApart r b o x es r' M C x' J hc K hs U
   frz:=fun b o v hf=>by
    have:=h.frz b o v hf;rw[V _ _ _ (oy this) rfl];exact this
   val:=h.val
   sym:=h.sym}
 .exact zd _ _ _ hk
 .rcases Y r _ hr with⟨rfl,hp⟩|⟨_,Z⟩
  .simp only[gU]at hp;obtain⟨rfl,rfl,rfl⟩:=hp;exact .inr (.inl (aE _))
  .exact .inl Z
theorem R.more{B:Bs}{H X:Hp}{w:World}{G:Gh}(h:R B H w G)(z:H.next<=X.next)(C:∀r,r<H.next->X.get r=H.get r):R B X w G:=by
 have k:∀r p,G.β r=some p->X.get r=H.get r:=fun r p hr=>C r (h.dom r p hr);exact{
  base:=h.base
  dom:=fun r p hr=>nr (h.dom r p hr) z
  lt:=h.lt
  cells:=fun r b o x g imm I hr hc=>h.cells r b o x g imm I hr lF
  imm:=fun r b o x g imm I hr hc=>h.imm r b o x g imm I hr lF
  ext:=fun r b o x g imm I hr hc=>h.ext r b o x g imm I hr lF
  fits:=fun r b o x g imm I hr hc=>h.fits r b o x g imm I hr lF
  room:=fun r b o x g imm I hr hc=>h.room r b o x g imm I hr lF
  apart:=fun r b o x g imm I O Y V L i U M hr hc Z K=>h.apart r b o x g imm I O Y V L i U M hr lF Z (by rw[<-k O _ Z];exact K)
  map:=fun r b o x J hr hc=>h.map r b o x J hr lF
  mapApart:=fun r b o x J O Y V L hr hc Z m=>h.mapApart r b o x J O Y V L hr lF Z (by rw[<-k O _ Z];exact m)
  frz:=h.frz
  val:=h.val
  sym:=h.sym}
theorem R.alloc{B:Bs}{H:Hp}{w:World}{G:Gh}(h:R B H w G)(U:HB):R B (H.alloc U) w G:=
 h.more (eh _) (fun r hr=>hY)
theorem zf{B:Bs}{H:Hp}{w:World}{G:Gh}(h:R B H w G){cs:List AV}{vs:List Value}(U:cn G cs vs)(o:List Value)(e:TypeId):
 Step B H.next G w (H.alloc (.cells cs 0 true)) (w.alloc (.cells (vs++o).toArray e)) (G.add H.next (w.heap.size,0,vs.length+o.length)):=
 Gq (h.alloc _) (fun q L=>Cl) au kV (aE _) U o e
theorem Pc{B:Bs}{H:Hp}{w:World}{G:Gh}(h:R B H w G):
 Step B H.next G w (H.alloc (.map [])) (w.alloc (.map #[] 0)) (G.add H.next (w.heap.size,0,0)):=
 Gs (h.alloc _) (fun q L=>Cl) au kV (aE _)
inductive Made (G:Gh):HB->Obj->Nat->Prop
 |cells (cs:List AV) (vs spare:List Value) (e:TypeId) (hv:cn G cs vs):Made G (.cells cs 0 true) (.cells (vs++spare).toArray e) (vs.length+spare.length)
 |map:Made G (.map []) (.map #[] 0) 0
theorem Gt{B:Bs}{L zfK:Nat}{X:Hp}{w:World}{G:Gh}{U:HB}{g:Obj}{ext:Nat}(h:R B X w G)(M:∀q,G.β zfK=some q->False)(j:zfK<X.next)(J:X.get zfK=some U)(Z:L<=zfK)(V:Made G U g ext):
 Step B L G w X (w.alloc g) (G.add zfK (w.heap.size,0,ext)):=by
 cases V with
 |cells O vs o e Y=>exact Gq h M j J Z Y o e
 |map=>exact Gs h M j J Z
def oV(P:Program)(G:Gh)(w:World){i:Type}(s:Sem i)(f:Value->i)(c:AV)(H H':Hp):Prop:=
 ∃U g ext v,H'=H.alloc U/\s.run P w=.ok (f v) (w.alloc g)/\Made G U g ext/\∀Z:Gh,Z.β H.next=some (w.heap.size,0,ext)->VR Z c v
theorem oV.sim{P:Program}{B:Bs}{H H':Hp}{w:World}{G:Gh}(h:R B H w G){s:Sem Value}{c:AV}(V:oV P G w s id c H H'):∃v Y g,s.run P w=.ok v Y/\VR g c v/\Step B H.next G w H' Y g:=by
 obtain⟨U,Z,ext,v,rfl,i,O,m⟩:=V;exact⟨v,_,_,i,m _ (zh1 _ _ _),Gt (h.alloc _) (fun q L=>Cl) au kV (aE _) O⟩
theorem oV.next{P:Program}{H H':Hp}{w:World}{G:Gh}{s:Sem Value}{c:AV}(V:oV P G w s id c H H'):oV P G w (do pure (.value (<-s)):Sem Next) Next.value c H H':=by
 obtain⟨U,g,ext,v,M,i,Z,m⟩:=V;exact⟨U,g,ext,v,M,by simp[i],Z,m⟩
theorem Pd{b o Z M:Nat}(h:b=Z->o≠M):(⟨b,o,none⟩:Addr)≠⟨Z,M,none⟩:=fun e=>by
 simp only[Addr.mk.injEq]at e;exact h e.1 e.2.1
theorem Pe{B:Bs}{H:Hp}{w:World}{G:Gh}(h:R B H w G){r b o x:Nat}{cs cs':List AV}{imm:Nat}{tip:Bool}(hr:G.β r=some (b,o,x))(hc:H.get r=some (.cells cs imm tip))
 {j:Nat} (hj:imm<=j) (hjl:j<zgT x cs tip) {v:Value}
 (hcs:∀(i:Nat) c,cs'[i]?=some c->(i=j/\VR G c v)\/(i≠j/\cs[i]?=some c)) (hl:cs'.length<=zgT x cs tip) (hl':tip=false->cs'.length=cs.length) :
 Step B H.next G w (H.set r (.cells cs' imm tip)) (w.setCell ⟨b,o+j,none⟩ v) G:=by
 obtain⟨⟨u,hu⟩,hfz,hF⟩:=h.room r b o x cs imm tip hr hc j hj hjl;have hsame:(w.setCell ⟨b,o+j,none⟩ v).cell? ⟨b,o+j,none⟩=some v:=World.cell?_setCell_same _ _ _ hu;have U:∀b' o',(b'=b->o'≠o+j)->(w.setCell ⟨b,o+j,none⟩ v).cell? ⟨b',o',none⟩=w.cell? ⟨b',o',none⟩:=fun b' o' hne=>
  World.cell?_setCell_other _ _ _ _ (Pd fun e e'=>hne e.symm e'.symm)
 have z:zgT x cs' tip=zgT x cs tip:=by
  cases tip with
  |true=>rfl
  |false=>exact hl' rfl
 have V:∀k,k≠r->(H.set r (.cells cs' imm tip)).get k=H.get k:=fun k hk=>by rw[aQ,af hk]
 have Y:(H.set r (.cells cs' imm tip)).get r=some (.cells cs' imm tip):=iA;have hkeep:∀b' o' v',G.F b' o'=some v'->(b'=b->o'≠o+j):=fun b' o' v' hf e e'=>by subst e;subst e';rw[hF]at hf;simp at hf
 have hcell:∀b' o',(∃v',w.cell? ⟨b',o',none⟩=some v')->∃v',(w.setCell ⟨b,o+j,none⟩ v).cell? ⟨b',o',none⟩=some v':=fun b' o' ⟨v',hv'⟩=>by
  by_cases e:b'=b/\o'=o+j
  .obtain⟨rfl,rfl⟩:=e;exact⟨v,hsame⟩
  .exact⟨v',by rw[U b' o' (fun e1 e2=>e ⟨e1,e2⟩)];exact hv'⟩
 refine⟨?_,uM _,⟨rfl,rfl,rfl,au,fun k hk hn=>?_⟩,tq _ _,fun _ _ h=>.inl h,aE _,fun _ _ _ h=>.inl h⟩
 .exact{
   base:=by have:=h.base;simpa using this
   dom:=h.dom
   lt:=fun r b o x hr=>by have:=h.lt r b o x hr;simpa using this
   cells:=fun C J L K m M Z O g=>by
    by_cases e:C=r
    .subst e;rw[hr]at O;simp only[cH]at O;obtain⟨rfl,rfl,rfl⟩:=O;rw[Y]at g;simp only[az,HB.cells.injEq]at g;obtain⟨rfl,rfl,rfl⟩:=g;intro i c hi;rcases hcs i c hi with⟨rfl,hv⟩|⟨hne,hi'⟩
     .exact⟨v,hsame,hv⟩
     .obtain⟨v',h1,h2⟩:=h.cells C b o x cs imm tip hr hc i c hi';exact⟨v',by rw[U _ _ (fun _=>ac)];exact h1,h2⟩
    .rw[V C e]at g;intro i c hi;obtain⟨v',h1,h2⟩:=h.cells C J L K m M Z O g i c hi;refine⟨v',?_,h2⟩;rw[U]
     .exact h1
     .have I:i<m.length:=(eG.1 hi).1;have hex:=h.ext C J L K m M Z O g;by_cases hi1:M<=i
      .exact h.apart C J L K m M Z r b o x cs imm tip O g hr hc e i j hi1 ac hj hjl
      .obtain⟨u',hu'⟩:=h.imm C J L K m M Z O g i ac I;exact hkeep _ _ _ hu'
   imm:=fun C J L K m M Z O g i hi I=>by
    by_cases e:C=r
    .subst e;rw[hr]at O;simp only[cH]at O;obtain⟨rfl,rfl,rfl⟩:=O;rw[Y]at g;simp only[az,HB.cells.injEq]at g;obtain⟨rfl,rfl,rfl⟩:=g;rcases hcs i _ (aR I)with⟨rfl,_⟩|⟨_,hi'⟩
     .omega
     .exact h.imm C b o x cs imm tip hr hc i hi (eG.1 hi').1
    .rw[V C e]at g;exact h.imm C J L K m M Z O g i hi I
   ext:=fun C J L K m M Z O g=>by
    by_cases e:C=r
    .subst e;rw[hr]at O;simp only[cH]at O;obtain⟨rfl,rfl,rfl⟩:=O;rw[Y]at g;simp only[az,HB.cells.injEq]at g;obtain⟨rfl,rfl,rfl⟩:=g;rw[z];exact hl
    .rw[V C e]at g;exact h.ext C J L K m M Z O g
   fits:=fun C J L K m M Z O g=>by
    by_cases e:C=r
    .subst e;rw[hr]at O;simp only[cH]at O;obtain⟨rfl,rfl,rfl⟩:=O;rw[Y]at g;simp only[az,HB.cells.injEq]at g;obtain⟨rfl,rfl,rfl⟩:=g;rcases Bool.eq_false_or_eq_true tip with e1|e1
     .subst e1;exact hl
     .rw[hl' e1];exact h.fits _ _ _ _ _ _ _ hr hc
    .rw[V C e]at g;exact h.fits C J L K m M Z O g
   room:=fun C J L K m M Z O g i hi I=>by
    by_cases e:C=r
    .subst e;rw[hr]at O;simp only[cH]at O;obtain⟨rfl,rfl,rfl⟩:=O;rw[Y]at g;simp only[az,HB.cells.injEq]at g;obtain⟨rfl,rfl,rfl⟩:=g;rw[z]at I;obtain⟨h1,h2,h3⟩:=h.room C b o x cs imm tip hr hc i hi I;exact⟨hcell _ _ h1,by rw[World.frozen?_setCell];exact h2,h3⟩
    .rw[V C e]at g;obtain⟨h1,h2,h3⟩:=h.room C J L K m M Z O g i hi I;exact⟨hcell _ _ h1,by rw[World.frozen?_setCell];exact h2,h3⟩
   apart:=fun C J L K m M Z r2 b2 o2 x2 cs2 imm2 tip2 O g hr2 hc2 hne i i' hi I hi' hil'=>by
    have key:∀k bk ok xk csk immk tipk,G.β k=some (bk,ok,xk)->(H.set r (.cells cs' imm tip)).get k=some (.cells csk immk tipk) ->
     ∃cs0,H.get k=some (.cells cs0 immk tipk)/\zgT xk cs0 tipk=zgT xk csk tipk:=fun k bk ok xk csk immk tipk hk hck=>by
     by_cases e:k=r
     .subst e;rw[hr]at hk;simp only[cH]at hk;obtain⟨rfl,rfl,rfl⟩:=hk;rw[Y]at hck;simp only[az,HB.cells.injEq]at hck;obtain⟨rfl,rfl,rfl⟩:=hck;exact⟨cs,hc,z.symm⟩
     .rw[V k e]at hck;exact⟨csk,hck,rfl⟩
    obtain⟨c1,g1,e1⟩:=key C J L K m M Z O g;obtain⟨c2,g2,e2⟩:=key r2 b2 o2 x2 cs2 imm2 tip2 hr2 hc2;exact h.apart C J L K c1 M Z r2 b2 o2 x2 c2 imm2 tip2 O g1 hr2 g2 hne i i' hi ac hi' ac
   map:=fun C J L K es O g=>by
    by_cases e:C=r
    .subst e;rw[Y]at g;simp at g
    .rw[V C e]at g;obtain⟨ms,clock,h1,h2⟩:=h.map C J L K es O g;refine⟨ms,clock,?_,h2⟩;have hb:J≠b:=fun eb=>by
      subst eb;unfold World.cell? at hu;rw[h1]at hu;simp at hu
     rw[Below.heap_setCell _ _ _ _ hb];exact h1
   mapApart:=fun C J L K es r2 b2 o2 x2 O g hr2 hs hne=>by
    by_cases e:C=r
    .subst e;rw[Y]at g;simp at g
    .rw[V C e]at g;refine h.mapApart C J L K es r2 b2 o2 x2 O g hr2 ?_ hne;by_cases e2:r2=r
     .subst e2;rw[hc];rfl
     .rw[V r2 e2]at hs;exact hs
   frz:=fun b' o' v' hf=>by rw[U _ _ (hkeep _ _ _ hf)];exact h.frz _ _ _ hf
   val:=h.val
   sym:=h.sym}
 .exact Below.heap_setCell _ _ _ _ (fun e=>hn r b o x hr e.symm)
theorem Pf{B:Bs}{H:Hp}{w:World}{G:Gh}(P:Program)(h:R B H w G){r b o x:Nat}{cs:List AV}{imm:Nat}{tip:Bool}(hr:G.β r=some (b,o,x))(V:H.get r=some (.cells cs imm tip))
 {j:Nat} (U:imm<=j) (O:j<zgT x cs tip) {v:Value} (Z:v.oneCell'=true) :
 (store ⟨b,o+j,none⟩ v).run P w=.ok () (w.setCell ⟨b,o+j,none⟩ v):=by
 obtain⟨⟨u,M⟩,Y,_⟩:=h.room r b o x cs imm tip hr V j U O;rw[run_store P w _ v _ Z,M];simp[Y]
theorem Pg(cs:List AV)(off:Nat)(c:AV)(Z:List AV)(h:off<=cs.length):splice cs off (c::Z)=splice (splice cs off [c]) (off+1) Z:=by
 unfold splice;have i:(List.take off cs++[c]++List.drop (off+[c].length) cs).take (off+1)=List.take off cs++[c]:=by
  rw[Co cC,fN cC]
 have g:(List.take off cs++[c]++List.drop (off+[c].length) cs).drop (off+1+Z.length)=List.drop (off+(Z.length+1)) cs:=by
  rw[List.drop_append,Cp cC];simp only[fG,jR,dg,eM,Cq,oo]
  congr 1
  omega
 rw[i,g];simp
theorem Ph(cs:List AV)(off:Nat):splice cs off []=cs:=by simp[splice]
theorem Pi(cs:List AV)(off:Nat)(Z:List AV)(h:off+Z.length<=cs.length):(splice cs off Z).length=cs.length:=by simp[splice];omega
theorem Pj(cs:List AV)(off:Nat)(Z:List AV)(h:off<=cs.length):(splice cs off Z).length=max cs.length (off+Z.length):=by simp[splice];omega
theorem Gu(cs Z:List AV):splice cs cs.length Z=cs++Z:=by simp[splice]
theorem splice_one{cs:List AV}{j:Nat}(c:AV)(Y:j<=cs.length){i:Nat}{d:AV}(h:(splice cs j [c])[i]?=some d):(i=j/\d=c)\/(i≠j/\cs[i]?=some d):=by
 unfold splice at h;by_cases I:i<j
 .rw[nu,je cC,pK,aq I]at h;exact .inr ⟨ac,h⟩
 .by_cases e:i=j
  .subst e;rw[nu,l0 cC]at h;have z:i-(List.take i cs).length=0:=cC;rw[z]at h;simp at h;exact .inl ⟨rfl,h.symm⟩
  .rw[l0 cC]at h;rw[rX]at h;refine .inr ⟨e,?_⟩;rw[<-h]
   congr 1
   simp;omega
theorem nA(b o i:Nat):(⟨b,o,none⟩:Addr).add i=⟨b,o+i,none⟩:=by
 unfold Addr.add;split
 .rename_i e;subst e;rfl
 .rfl
theorem Step.congr{B:Bs}{L:Nat}{G g:Gh}{w w':World}{H H':Hp}(h:Step B L G w H w' g)(z:H'.next=H.next)(J:∀r,(g.β r).isSome->H'.get r=H.get r):Step B L G w H' w' g:=
 ⟨h.r.congr z J,h.ext,h.fr,h.new,h.low,by rw[z];exact h.mono,h.icy⟩
theorem Cs{B:Bs}(P:Program){G:Gh}{r b o x:Nat}{imm:Nat}{tip:Bool}(hr:G.β r=some (b,o,x))(off:Nat):∀(Z:List AV) (vs:List Value) (g:List AV) (i:Nat) (H:Hp) (w:World),R B H w G ->
 H.get r=some (.cells g imm tip)->cn G Z vs->(∀v∈vs,v.oneCell'=true)->imm<=off+i->off+i<=g.length->off+i+Z.length<=zgT x g tip->(tip=false->off+i+Z.length<=g.length) ->
 ∃I,(storeCells ⟨b,o+off,none⟩ vs i).run P w=.ok () I/\Step B H.next G w (H.set r (.cells (splice g (off+i) Z) imm tip)) I G:=by
 intro Z;induction Z with
 |nil=>
  intro vs g i H w O hc z Y hi M U _;have C:vs=[]:=by have:=z.1;simpa using this.symm
  subst C;refine⟨w,rfl,(lH O).congr rfl fun k _=>?_⟩;rw[aQ,Ph];split
  .rename_i e;subst e;rw[hc]
  .rfl
 |cons c Z ih=>
  intro vs g i H w O hc z Y hi M U m;cases vs with
  |nil=>have:=z.1;simp at this
  |cons v vs=>
   obtain⟨hv1,C⟩:=z.of_cons;simp only[dg]at U m;have V:(splice g (off+i) [c]).length=max g.length (off+i+1):=Pj _ _ _ M;have hext:=O.ext r b o x g imm tip hr hc;have K:=Pe O hr hc (j:=off+i) (cs':=splice g (off+i) [c]) (v:=v) hi ac
    (fun k d hk=>by
      rcases splice_one c M hk with⟨e1,e2⟩|h2
      .subst e2;exact .inl ⟨e1,hv1⟩
      .exact .inr h2)
    (by rw[V];cases tip with
        |true=>simp only[zgT]at *;omega
        |false=>have:=m rfl;simp only[zgT]at *;omega)
    (fun ht=>by have:=m ht;rw[V];omega)
   have J:=Pf P O hr hc (j:=off+i) hi ac (v:=v) (Y v au);have hg1:(H.set r (.cells (splice g (off+i) [c]) imm tip)).get r=some (.cells (splice g (off+i) [c]) imm tip):=iA;have L:zgT x (splice g (off+i) [c]) tip=zgT x g tip:=by
    cases tip with
    |true=>rfl
    |false=>have:=m rfl;simp only[zgT];omega
   obtain⟨I,hw',hs'⟩:=ih vs (splice g (off+i) [c]) (i+1) _ _ K.r hg1 C (fun u hu=>Y u (by simp[hu])) ac (by rw[V];omega) (by rw[L];omega) (fun ht=>by have:=m ht;rw[V];omega);refine⟨I,?_,(K.trans hs').congr rfl fun k _=>?_⟩
   .simp only[storeCells,eI];rw[nA,jS,J];exact hw'
   .rw[aQ,aQ,aQ,Pg _ _ _ _ M];split
    .rfl
    .rfl
theorem Gv{B:Bs}{H:Hp}{w:World}{G:Gh}(h:R B H w G){r b o x:Nat}{cs:List AV}{imm:Nat}(hr:G.β r=some (b,o,x))(hc:H.get r=some (.cells cs imm true)){off:Nat}(hoff:off<=cs.length):
 Step B H.next G w ((H.kill r).alloc (.cells (cs.drop off) (imm-off) true)) w (G.add H.next (b,o+off,x-off)):=by
 have hno:∀q,G.β H.next=some q->False:=fun q hq=>by have:=h.dom _ _ hq;omega
 have hext:Ext G (G.add H.next (b,o+off,x-off)):=Cr hno;have hrn:r≠H.next:=fun e=>by subst e;exact hno _ hr
 have O:∀k p,(G.add H.next (b,o+off,x-off)).β k=some p->(k=H.next/\p=(b,o+off,x-off))\/(k≠H.next/\G.β k=some p):=fun k p K=>by
  simp only[Gh.add]at K;split at K
  .rename_i e;exact .inl ⟨e,by simpa using K.symm⟩
  .rename_i e;exact .inr ⟨e,K⟩
 have V:∀k q,k≠H.next->((H.kill r).alloc (.cells (cs.drop off) (imm-off) true)).get k=some q->k≠r/\H.get k=some q:=fun k q K hq=>by
  rw[zfk,zh5,af K,zhm]at hq;split at hq
  .simp at hq
  .rename_i e;exact⟨e,hq⟩
 have m:((H.kill r).alloc (.cells (cs.drop off) (imm-off) true)).get H.next=some (.cells (cs.drop off) (imm-off) true):=by rw[zfk,zh5,aq rfl]
 have hlen:=h.ext r b o x cs imm true hr hc;simp only[zgT]at hlen;refine⟨?_,hext,wG _ _,fun k b' o' x' K=>?_,fun k p K=>(O k p K).elim (fun e=>.inr (by rw[e.1];exact aE _)) (fun e=>.inl e.2),au,fun _ _ _ h=>.inl h⟩
 .exact{
   base:=h.base
   dom:=fun k p K=>by
    rcases O k p K with⟨rfl,_⟩|⟨_,Y⟩
    .simp
    .have:=h.dom k p Y;simp;omega
   lt:=fun k b' o' x' K=>by
    rcases O k _ K with⟨rfl,hp⟩|⟨_,Y⟩
    .simp only[gU]at hp;obtain⟨rfl,rfl,rfl⟩:=hp;exact h.lt r _ _ _ hr
    .exact h.lt k b' o' x' Y
   cells:=fun k b' o' x' i M L K z=>by
    rcases O k _ K with⟨rfl,hp⟩|⟨U,Y⟩
    .simp only[gU]at hp;obtain⟨rfl,rfl,rfl⟩:=hp;rw[m]at z;simp only[az,HB.cells.injEq]at z;obtain⟨rfl,rfl,rfl⟩:=z;intro j c hj;rw[rX]at hj;obtain⟨v,h1,h2⟩:=h.cells r _ _ _ _ _ _ hr hc (off+j) c hj;exact⟨v,by rw[jS];exact h1,h2.mono hext⟩
    .obtain⟨_,Z⟩:=V k _ U z;exact(h.cells k b' o' x' i M L Y Z).mono hext
   imm:=fun k b' o' x' i M L K z j hj hjl=>by
    rcases O k _ K with⟨rfl,hp⟩|⟨U,Y⟩
    .simp only[gU]at hp;obtain⟨rfl,rfl,rfl⟩:=hp;rw[m]at z;simp only[az,HB.cells.injEq]at z;obtain⟨rfl,rfl,rfl⟩:=z;rw[ku]at hjl;rw[jS];exact h.imm r _ _ _ _ _ _ hr hc (off+j) ac ac
    .obtain⟨_,Z⟩:=V k _ U z;exact h.imm k b' o' x' i M L Y Z j hj hjl
   ext:=fun k b' o' x' i M L K z=>by
    rcases O k _ K with⟨rfl,hp⟩|⟨U,Y⟩
    .simp only[gU]at hp;obtain⟨rfl,rfl,rfl⟩:=hp;rw[m]at z;simp only[az,HB.cells.injEq]at z;obtain⟨rfl,rfl,rfl⟩:=z;simp only[zgT,ku];omega
    .obtain⟨_,Z⟩:=V k _ U z;exact h.ext k b' o' x' i M L Y Z
   fits:=fun k b' o' x' i M L K z=>by
    rcases O k _ K with⟨rfl,hp⟩|⟨U,Y⟩
    .simp only[gU]at hp;obtain⟨rfl,rfl,rfl⟩:=hp;rw[m]at z;simp only[az,HB.cells.injEq]at z;obtain⟨rfl,rfl,rfl⟩:=z;simp only[ku];omega
    .obtain⟨_,Z⟩:=V k _ U z;exact h.fits k b' o' x' i M L Y Z
   room:=fun k b' o' x' i M L K z j hj hjl=>by
    rcases O k _ K with⟨rfl,hp⟩|⟨U,Y⟩
    .simp only[gU]at hp;obtain⟨rfl,rfl,rfl⟩:=hp;rw[m]at z;simp only[az,HB.cells.injEq]at z;obtain⟨rfl,rfl,rfl⟩:=z;simp only[zgT]at hjl;rw[jS];exact h.room r _ _ _ _ _ _ hr hc (off+j) ac wB
    .obtain⟨_,Z⟩:=V k _ U z;exact h.room k b' o' x' i M L Y Z j hj hjl
   apart:=fun k1 b1 o1 x1 cs1 imm1 tip1 k2 b2 o2 x2 cs2 imm2 tip2 hk1 g hk2 hc2 U j1 j2 hj1 hl1 hj2 hl2 he=>by
    rcases O k1 _ hk1 with⟨rfl,hp⟩|⟨hn1,J⟩
    .simp only[gU]at hp;obtain⟨rfl,rfl,rfl⟩:=hp;rw[m]at g;simp only[az,HB.cells.injEq]at g;obtain⟨rfl,rfl,rfl⟩:=g;simp only[zgT]at hl1;rcases O k2 _ hk2 with⟨rfl,hp⟩|⟨hn2,C⟩
     .exact(U rfl).elim
     .obtain⟨hr2,hc2'⟩:=V k2 _ hn2 hc2;rw[jS];exact h.apart r _ _ _ _ _ _ k2 b2 o2 x2 cs2 imm2 tip2 hr hc C hc2' (Ne.symm hr2) (off+j1) j2 ac wB hj2 hl2 he
    .obtain⟨hr1,I⟩:=V k1 _ hn1 g;rcases O k2 _ hk2 with⟨rfl,hp⟩|⟨hn2,C⟩
     .simp only[gU]at hp;obtain⟨rfl,rfl,rfl⟩:=hp;rw[m]at hc2;simp only[az,HB.cells.injEq]at hc2;obtain⟨rfl,rfl,rfl⟩:=hc2;simp only[zgT]at hl2;rw[jS];exact h.apart k1 b1 o1 x1 cs1 imm1 tip1 r _ _ _ _ _ _ J I hr hc hr1 j1 (off+j2) hj1 hl1 ac wB he
     .obtain⟨hr2,hc2'⟩:=V k2 _ hn2 hc2;exact h.apart k1 b1 o1 x1 cs1 imm1 tip1 k2 b2 o2 x2 cs2 imm2 tip2 J I C hc2' U j1 j2 hj1 hl1 hj2 hl2 he
   map:=fun k b' o' x' es K z=>by
    rcases O k _ K with⟨rfl,hp⟩|⟨U,Y⟩
    .rw[m]at z;simp at z
    .obtain⟨_,Z⟩:=V k _ U z;obtain⟨ms,clock,h1,h2⟩:=h.map k b' o' x' es Y Z;exact⟨ms,clock,h1,h2.mono hext⟩
   mapApart:=fun k1 b1 o1 x1 es k2 b2 o2 x2 hk1 g hk2 hs U=>by
    rcases O k1 _ hk1 with⟨rfl,hp⟩|⟨hn1,J⟩
    .rw[m]at g;simp at g
    .obtain⟨hr1,I⟩:=V k1 _ hn1 g;rcases O k2 _ hk2 with⟨rfl,hp⟩|⟨hn2,C⟩
     .simp only[gU]at hp;obtain⟨rfl,rfl,rfl⟩:=hp;exact h.mapApart k1 b1 o1 x1 es r _ _ _ J I hr (by rw[hc];rfl) hr1
     .cases hh:((H.kill r).alloc (.cells (cs.drop off) (imm-off) true)).get k2 with
      |none=>simp[hh]at hs
      |some q=>
       obtain⟨_,hq⟩:=V k2 q hn2 hh;exact h.mapApart k1 b1 o1 x1 es k2 b2 o2 x2 J I C (by rw[hq];rfl) U
   frz:=h.frz
   val:=h.val
   sym:=h.sym}
 .rcases O k _ K with⟨rfl,hp⟩|⟨_,Y⟩
  .simp only[gU]at hp;obtain⟨rfl,rfl,rfl⟩:=hp;exact .inr (.inr ⟨r,o,x,hr⟩)
  .exact .inl Y
def Gh.ice(G:Gh)(w:World)(b o n:Nat):Gh:={β:=G.β,F:=fun Z M=>match G.F Z M with
 |some v=>some v
 |none=>if Z=b/\o<=M/\M<o+n then w.cell? ⟨Z,M,none⟩else none,ρ:=G.ρ}
theorem Pk(G:Gh)(w:World)(b o n:Nat):Ext G (G.ice w b o n):=⟨fun _ _ h=>h,fun Z M v h=>by simp[Gh.ice,h],rfl⟩
theorem wJ{B:Bs}{H:Hp}{w:World}{G:Gh}(h:R B H w G){r b o x:Nat}{cs:List AV}{imm:Nat}{tip:Bool}(hr:G.β r=some (b,o,x))(hc:H.get r=some (.cells cs imm tip)){n:Nat}(himm:imm<=n)(hn:n<=cs.length)(Z:Bool)(ht:Z=true->tip=true):
 Step B H.next G w (H.set r (.cells cs n Z)) w (G.ice w b o n):=by
 have I:Ext G (G.ice w b o n):=Pk _ _ _ _ _;have Y:∀k,k≠r->(H.set r (.cells cs n Z)).get k=H.get k:=fun k K=>by rw[aQ,af K]
 have C:(H.set r (.cells cs n Z)).get r=some (.cells cs n Z):=iA;have hex:=h.ext r b o x cs imm tip hr hc;have hreach:∀j,n<=j->j<zgT x cs Z->j<zgT x cs tip:=fun j hj L=>by
  cases Z with
  |true=>rw[ht rfl];exact L
  |false=>simp only[zgT]at L;omega
 have hF:∀V M v,(G.ice w b o n).F V M=some v->w.cell? ⟨V,M,none⟩=some v:=fun V M v hf=>by
  simp only[Gh.ice]at hf;split at hf
  .rename_i u hu;simp only[az]at hf;subst hf;exact h.frz _ _ _ hu
  .split at hf
   .exact hf
   .simp at hf
 have hFin:∀j,j<n->∃v,(G.ice w b o n).F b (o+j)=some v:=fun j hj=>by
  obtain⟨v,h1,_⟩:=h.cells r b o x cs imm tip hr hc j _ (aR ac);simp only[Gh.ice];split
  .rename_i u _;exact⟨u,rfl⟩
  .rw[aq ⟨by trivial,ac,ac⟩];exact⟨v,h1⟩
 have hFout:∀V M,G.F V M=none->(V=b->M<o\/o+n<=M)->(G.ice w b o n).F V M=none:=fun V M hf hne=>by
  simp only[Gh.ice,hf];rw[af];rintro⟨e1,e2,e3⟩;have:=hne e1;omega
 refine⟨?_,I,wG _ _,tq _ _,fun _ _ h=>.inl h,aE _,fun V M v' hv=>?_⟩;rotate_left
 .simp only[Gh.ice]at hv;split at hv
  .rename_i v'' hF';exact .inl (by rw[hF'];exact hv)
  .split at hv
   .rename_i hc';exact .inr (by rw[hc'.1];exact(h.lt r b o x hr).1)
   .simp at hv
 exact{
  base:=h.base
  dom:=h.dom
  lt:=h.lt
  cells:=fun k V M J i U O K z=>by
   by_cases e:k=r
   .subst e;have m:G.β k=some (V,M,J):=K;rw[hr]at m;simp only[cH]at m;obtain⟨rfl,rfl,rfl⟩:=m;rw[C]at z;simp only[az,HB.cells.injEq]at z;obtain⟨rfl,rfl,rfl⟩:=z;exact(h.cells k _ _ _ _ _ _ hr hc).mono I
   .rw[Y k e]at z;exact(h.cells k V M J i U O K z).mono I
  imm:=fun k V M J i U O K z j hj L=>by
   by_cases e:k=r
   .subst e;have m:G.β k=some (V,M,J):=K;rw[hr]at m;simp only[cH]at m;obtain⟨rfl,rfl,rfl⟩:=m;rw[C]at z;simp only[az,HB.cells.injEq]at z;obtain⟨rfl,rfl,rfl⟩:=z;exact hFin j hj
   .rw[Y k e]at z;obtain⟨v,hv⟩:=h.imm k V M J i U O K z j hj L;exact⟨v,I.F _ _ _ hv⟩
  ext:=fun k V M J i U O K z=>by
   by_cases e:k=r
   .subst e;have m:G.β k=some (V,M,J):=K;rw[hr]at m;simp only[cH]at m;obtain⟨rfl,rfl,rfl⟩:=m;rw[C]at z;simp only[az,HB.cells.injEq]at z;obtain⟨rfl,rfl,rfl⟩:=z;cases Z with
    |true=>rw[ht rfl]at hex;exact hex
    |false=>exact aE _
   .rw[Y k e]at z;exact h.ext k V M J i U O K z
  fits:=fun k V M J i U O K z=>by
   by_cases e:k=r
   .subst e;have m:G.β k=some (V,M,J):=K;rw[hr]at m;simp only[cH]at m;obtain⟨rfl,rfl,rfl⟩:=m;rw[C]at z;simp only[az,HB.cells.injEq]at z;obtain⟨rfl,rfl,rfl⟩:=z;exact h.fits _ _ _ _ _ _ _ hr hc
   .rw[Y k e]at z;exact h.fits k V M J i U O K z
  room:=fun k V M J i U O K z j hj L=>by
   by_cases e:k=r
   .subst e;have m:G.β k=some (V,M,J):=K;rw[hr]at m;simp only[cH]at m;obtain⟨rfl,rfl,rfl⟩:=m;rw[C]at z;simp only[az,HB.cells.injEq]at z;obtain⟨rfl,rfl,rfl⟩:=z;have h1:=hreach j hj L;obtain⟨g1,g2,g3⟩:=h.room k _ _ _ _ _ _ hr hc j ac h1;exact⟨g1,g2,hFout _ _ g3 (fun _=>ac)⟩
   .rw[Y k e]at z;obtain⟨g1,g2,g3⟩:=h.room k V M J i U O K z j hj L;refine⟨g1,g2,hFout _ _ g3 (fun eb=>?_)⟩;by_cases hin:o<=M+j/\M+j<o+n
    .exfalso;have hj0:M+j-o<cs.length:=ac;have hj1:M+j-o<zgT x cs tip:=ac;by_cases hi:imm<=M+j-o
     .exact h.apart k V M J i U O r b o x cs imm tip K z hr hc e j (M+j-o) hj L hi hj1 eb ac
     .obtain⟨v,hv⟩:=h.imm r b o x cs imm tip hr hc (M+j-o) ac hj0;rw[show o+(M+j-o)=M+j by omega,<-eb,g3]at hv;simp at hv
    .omega
  apart:=fun k1 b1 o1 x1 cs1 imm1 O k2 b2 o2 x2 cs2 imm2 tip2 hk1 hc1 hk2 hc2 hne j1 j2 hj1 hl1 hj2 hl2 he=>by
   have key:∀k bk ok xk csk g tipk j,G.β k=some (bk,ok,xk)->(H.set r (.cells cs n Z)).get k=some (.cells csk g tipk)->g<=j->j<zgT xk csk tipk ->
    ∃cs0 imm0 tip0,H.get k=some (.cells cs0 imm0 tip0)/\imm0<=j/\j<zgT xk cs0 tip0:=fun k bk ok xk csk g tipk j K z hj L=>by
    by_cases e:k=r
    .subst e;have m:G.β k=some (bk,ok,xk):=K;rw[hr]at m;simp only[cH]at m;obtain⟨rfl,rfl,rfl⟩:=m;rw[C]at z;simp only[az,HB.cells.injEq]at z;obtain⟨rfl,rfl,rfl⟩:=z;exact⟨cs,imm,tip,hc,ac,hreach j hj L⟩
    .rw[Y k e]at z;exact⟨csk,g,tipk,z,hj,L⟩
   obtain⟨c1,i1,t1,g1,a1,l1⟩:=key k1 b1 o1 x1 cs1 imm1 O j1 hk1 hc1 hj1 hl1;obtain⟨c2,i2,t2,g2,a2,l2⟩:=key k2 b2 o2 x2 cs2 imm2 tip2 j2 hk2 hc2 hj2 hl2;exact h.apart k1 b1 o1 x1 c1 i1 t1 k2 b2 o2 x2 c2 i2 t2 hk1 g1 hk2 g2 hne j1 j2 a1 l1 a2 l2 he
  map:=fun k V M J es K z=>by
   by_cases e:k=r
   .subst e;rw[C]at z;simp at z
   .rw[Y k e]at z;obtain⟨ms,clock,h1,h2⟩:=h.map k V M J es K z;exact⟨ms,clock,h1,h2.mono I⟩
  mapApart:=fun k1 b1 o1 x1 es k2 b2 o2 x2 hk1 hc1 hk2 hs hne=>by
   by_cases e:k1=r
   .subst e;rw[C]at hc1;simp at hc1
   .rw[Y k1 e]at hc1;refine h.mapApart k1 b1 o1 x1 es k2 b2 o2 x2 hk1 hc1 hk2 ?_ hne;by_cases e2:k2=r
    .subst e2;rw[hc];rfl
    .rw[Y k2 e2]at hs;exact hs
  frz:=hF
  val:=h.val
  sym:=h.sym}
theorem Pm{B:Bs}{H:Hp}{w:World}{G:Gh}(h:R B H w G){r b o x:Nat}{cs:List AV}(hr:G.β r=some (b,o,x))(hx:cs.length<=x)(hc:jg G w b o cs)(hF:∀j,j<cs.length->∃v,G.F b (o+j)=some v)
 (hmap:∀r1 b1 o1 x1 es,G.β r1=some (b1,o1,x1)->H.get r1=some (.map es)->b1≠b) :
 Step B H.next G w (H.set r (.cells cs cs.length false)) w G:=by
 have Z:∀k,k≠r->(H.set r (.cells cs cs.length false)).get k=H.get k:=fun k Y=>by rw[aQ,af Y]
 have C:(H.set r (.cells cs cs.length false)).get r=some (.cells cs cs.length false):=iA;have hβ:∀k V O L,k=r->G.β k=some (V,O,L)->V=b/\O=o/\L=x:=fun k V O L e Y=>by
  subst e;rw[hr]at Y;simp only[cH]at Y;exact⟨Y.1.symm,Y.2.1.symm,Y.2.2.symm⟩
 have K:∀i U M,(H.set r (.cells cs cs.length false)).get r=some (.cells i U M)->i=cs/\U=cs.length/\M=false:=fun i U M Y=>by
  rw[C]at Y;simp only[az,HB.cells.injEq]at Y;exact⟨Y.1.symm,Y.2.1.symm,Y.2.2.symm⟩
 refine⟨?_,uM _,wG _ _,tq _ _,fun _ _ h=>.inl h,aE _,fun _ _ _ h=>.inl h⟩;exact{
  base:=h.base
  dom:=h.dom
  lt:=h.lt
  cells:=fun k V O L i U M Y z=>by
   by_cases e:k=r
   .obtain⟨rfl,rfl,rfl⟩:=hβ k _ _ _ e Y;subst e;obtain⟨rfl,rfl,rfl⟩:=K _ _ _ z;exact hc
   .rw[Z k e]at z;exact h.cells k V O L i U M Y z
  imm:=fun k V O L i U M Y z j hj J=>by
   by_cases e:k=r
   .obtain⟨rfl,rfl,rfl⟩:=hβ k _ _ _ e Y;subst e;obtain⟨rfl,rfl,rfl⟩:=K _ _ _ z;exact hF j J
   .rw[Z k e]at z;exact h.imm k V O L i U M Y z j hj J
  ext:=fun k V O L i U M Y z=>by
   by_cases e:k=r
   .subst e;obtain⟨rfl,rfl,rfl⟩:=K _ _ _ z;exact aE _
   .rw[Z k e]at z;exact h.ext k V O L i U M Y z
  fits:=fun k V O L i U M Y z=>by
   by_cases e:k=r
   .subst e;obtain⟨rfl,rfl,rfl⟩:=K _ _ _ z;obtain⟨_,_,rfl⟩:=hβ _ _ _ _ rfl Y;exact hx
   .rw[Z k e]at z;exact h.fits k V O L i U M Y z
  room:=fun k V O L i U M Y z j hj J=>by
   by_cases e:k=r
   .subst e;obtain⟨rfl,rfl,rfl⟩:=K _ _ _ z;simp only[zgT]at J;omega
   .rw[Z k e]at z;exact h.room k V O L i U M Y z j hj J
  apart:=fun k1 b1 o1 x1 cs1 imm1 tip1 k2 b2 o2 x2 cs2 imm2 tip2 I g m hc2 hne j1 j2 hj1 hl1 hj2 hl2 he=>by
   by_cases e1:k1=r
   .subst e1;obtain⟨rfl,rfl,rfl⟩:=K _ _ _ g;simp only[zgT]at hl1;omega
   .by_cases e2:k2=r
    .subst e2;obtain⟨rfl,rfl,rfl⟩:=K _ _ _ hc2;simp only[zgT]at hl2;omega
    .rw[Z k1 e1]at g;rw[Z k2 e2]at hc2;exact h.apart k1 b1 o1 x1 cs1 imm1 tip1 k2 b2 o2 x2 cs2 imm2 tip2 I g m hc2 hne j1 j2 hj1 hl1 hj2 hl2 he
  map:=fun k V O L es Y z=>by
   by_cases e:k=r
   .subst e;rw[C]at z;simp at z
   .rw[Z k e]at z;exact h.map k V O L es Y z
  mapApart:=fun k1 b1 o1 x1 es k2 b2 o2 x2 I g m hs hne=>by
   by_cases e:k1=r
   .subst e;rw[C]at g;simp at g
   .rw[Z k1 e]at g;by_cases e2:k2=r
    .obtain⟨rfl,rfl,rfl⟩:=hβ k2 _ _ _ e2 m;exact hmap k1 b1 o1 x1 es I g
    .rw[Z k2 e2]at hs;exact h.mapApart k1 b1 o1 x1 es k2 b2 o2 x2 I g m hs hne
  frz:=h.frz
  val:=h.val
  sym:=h.sym}
def tw(P:Program)(B:Bs)(H:Hp)(G:Gh)(w:World)(s:Sem Next)(c:AV)(H':Hp):Prop:=
 ∃n Y g v,s.run P w=.ok n Y/\(n=.value v\/(n=.skip/\v=undef))/\VR g c v/\Step B H.next G w H' Y g
theorem Gw{G:Gh}{v:Value}{c:AV}(h:wc v=some c):VR G c v:=by
 unfold wc at h;split at h<;>simp only[az,reduceCtorEq]at h<;>subst h<;>constructor;rfl
theorem Gx{G:Gh}:∀{vs:List Value}{g:List AV},vs.mapM wc=some g->cn G g vs
 |[],g,h=>by simp at h;subst h;exact oU G
 |v::vs,g,h=>by
  rw[List.mapM_cons]at h;simp only[Option.bind_eq_bind,fH,Option.pure_def,az]at h;obtain⟨c,hc,Z,i,rfl⟩:=h;exact ox (Gw hc) (Gx i)
theorem uO{G:Gh}{v:Value}{c:AV}(h:uD v=some c):VR G c v:=by
 unfold uD at h;split at h
 .rename_i g;simp only[oq]at h;obtain⟨l,L,rfl⟩:=h;have:=Gx (G:=G) L;exact .agg (vs:=g.toList) this.1 this.2
 .exact Gw h
theorem jg.list{G:Gh}{w:World}{b:Nat}:∀{cs:List AV}{o:Nat},jg G w b o cs->∃vs,cn G cs vs/\∀(j:Nat) v,vs[j]?=some v->w.cell? ⟨b,o+j,none⟩=some v
 |[],o,_=>⟨[],oU G,au⟩
 |c::cs,o,h=>by
  obtain⟨v,i,g⟩:=h 0 c rfl;obtain⟨vs,k1,Z⟩:=jg.list (cs:=cs) (o:=o+1) (fun j d Y=>by
   obtain⟨u,m,V⟩:=h (j+1) d (by simpa using Y);exact⟨u,by rw[show o+1+j=o+(j+1) by omega];exact m,V⟩)
  refine⟨v::vs,ox g k1,fun j u Y=>?_⟩;cases j with
  |zero=>simp at Y;subst Y;exact i
  |succ j=>rw[show o+(j+1)=o+1+j by omega];exact Z j u (by simpa using Y)
theorem jg.drop{G:Gh}{w:World}{b o:Nat}{cs:List AV}(h:jg G w b o cs)(n:Nat):jg G w b (o+n) (cs.drop n):=fun j c Y=>by
 rw[rX]at Y;rw[jS];exact h (n+j) c Y
theorem jg.take{G:Gh}{w:World}{b o:Nat}{cs:List AV}(h:jg G w b o cs)(n:Nat):jg G w b o (cs.take n):=fun j c Y=>by
 rw[pK]at Y;split at Y
 .exact h j c Y
 .simp at Y
section
variable {P:Program} {w:World} {t:TypeId}
theorem zgJ{d:TypeDesc}(h:P.underlying t=some d):(underlying t).run P w=.ok d w:=by simp[underlying,h]
theorem uQ{i:TypeInfo}(h:P.info? t=some i):(typeInfo t).run P w=.ok i w:=by simp[typeInfo,h]
theorem Gy{s:Nat}(h:zfF P t=some s):∃i,P.info? t=some i/\i.size=s:=by simpa [zfF,oq]using h
theorem zhK{s:Nat}(h:zfF P t=some s):(sizeOf t).run P w=.ok s w:=by
 obtain⟨i,Z,g⟩:=Gy h;simp[sizeOf,uQ Z,g]
theorem Gz{c:AV}(h:qL P t=some c):∃i v,P.info? t=some i/\i.zero=some v/\uD v=some c:=by
 unfold qL at h;split at h
 .rename_i x d s Y Z hp al fa J V ms g;exact⟨_,J,g,rfl,h⟩
 .simp at h
theorem Pn{c:AV}(h:qL P t=some c):∃v,(∀w,(zeroValue t).run P w=.ok v w)/\∀G,VR G c v:=by
 obtain⟨i,v,Z,g,m⟩:=Gz h;exact⟨v,fun w=>by simp[zeroValue,uQ Z,g],fun G=>uO m⟩
theorem Ct{z:List AV}(h:zge P t=some z):∃i v c,P.info? t=some i/\i.zero=some v/\uD v=some c/\c.cells=z:=by
 unfold zge at h;split at h
 .rename_i c hc;simp only[az]at h;obtain⟨i,v,Z,g,m⟩:=Gz hc;exact⟨i,v,c,Z,g,m,h⟩
 .simp at h
theorem wK{z:List AV}(h:zge P t=some z):∃v,(∀w,(zeroValue t).run P w=.ok v w)/\∀G,cn G z v.cells.toList:=by
 obtain⟨i,v,c,Z,g,m,rfl⟩:=Ct h;exact⟨v,fun w=>by simp[zeroValue,uQ Z,g],fun G=>(uO m).cells⟩
def Cu:TypeDesc->Bool
 | .struct _|.array _ _=>true
 |_=>false
theorem zg{d:TypeDesc}(h:P.underlying t=some d):(isAgg t).run P w=.ok (Cu d) w:=by
 simp only[isAgg,eI,zgJ h,eN];cases d<;>rfl
theorem GA{cs:List AV}{off:Nat}{c:AV}(h:zfy P t cs off=some c):
 (∃d s,P.underlying t=some d/\Cu d=true/\zfF P t=some s/\((cs.drop off).take s).length=s/\c=.agg ((cs.drop off).take s)) \/
 (∃d,P.underlying t=some d/\Cu d=false/\cs[off]?=some c):=by
 unfold zfy at h;split at h
 .rename_i f hd;split at h
  .rename_i s K;simp only[]at h;split at h
   .rename_i L;simp only[az]at h;exact .inl ⟨_,s,hd,rfl,K,L,h.symm⟩
   .simp at h
  .simp at h
 .rename_i n e hd;split at h
  .rename_i s K;simp only[]at h;split at h
   .rename_i L;simp only[az]at h;exact .inl ⟨_,s,hd,rfl,K,L,h.symm⟩
   .simp at h
  .simp at h
 .rename_i d i g hd;refine .inr ⟨d,hd,?_,h⟩;cases d<;>first|rfl|exact(i _ rfl).elim|exact(g _ _ rfl).elim
 .simp at h
theorem GB{G:Gh}{b o off:Nat}{cs:List AV}{c:AV}(m:jg G w b o cs)(h:zfy P t cs off=some c):
 ∃v,(loadVar t ⟨b,o+off,none⟩).run P w=.ok v w/\VR G c v:=by
 rcases GA h with⟨d,s,hd,Z,K,V,rfl⟩|⟨d,hd,Z,hc⟩
 .obtain⟨vs,i,g⟩:=((m.drop off).take s).list;refine⟨.agg vs.toArray,?_,.agg i.1 i.2⟩;simp only[loadVar,eI,zg hd,Z,eN,cV,zhK K];have L:vs.length=s:=by rw[<-i.1];exact V
  rw[<-L,run_loadCells_list _ _ vs (fun j v Y=>by rw[nA];exact g j v Y)];rfl
 .obtain⟨v,i,g⟩:=m off c hc;refine⟨v,?_,g⟩;simp[loadVar,zg hd,Z,i]
theorem zh{G:Gh}{off:Nat}{cs:List AV}{vs:List Value}{c:AV}(U:cn G cs vs)(h:zfy P t cs off=some c):
 ∃v,(part t vs.toArray off).run P w=.ok v w/\VR G c v:=by
 rcases GA h with⟨d,s,hd,o,K,L,rfl⟩|⟨d,hd,o,hc⟩
 .have Z:=(U.drop off).take s;refine⟨.agg ((vs.drop off).take s).toArray,?_,.agg Z.1 Z.2⟩;simp only[part,eI,zg hd,o,eN,cV,zhK K,ky]
  congr 2
  apply ou;simp
 .have O:off<cs.length:=(eG.1 hc).1;have i:off<vs.length:=by have:=U.1;omega
  refine⟨vs[off],?_,U.2 off c _ hc (aR i)⟩;simp[part,zg hd,o,i]
end
theorem uR{P:Program}{B:Bs}{G:Gh}{H:Hp}{w:World}(h:R B H w G){s:Sem Next}{c:AV}{v:Value}(hr:s.run P w=.ok (.value v) w)(U:VR G c v):tw P B H G w s c H:=
 ⟨.value v,w,G,v,hr,.inl rfl,U,lH h⟩
theorem zhG{H H':Hp}{x:Option AV}{c:AV}(h:ret H x=some (c,H')):x=some c/\H'=H:=by
 cases x with
 |none=>simp[ret]at h
 |some v=>simp[ret]at h;exact⟨by rw[h.1],h.2.symm⟩
section
variable {P:Program} {B:Bs} {G:Gh} {H H':Hp} {w:World} (h:R B H w G) {c:AV}
include h
theorem GC{t:TypeId}{a:AV}{V:Value}(Z:VR G a V)(L:iU P H t a=some c):∃v,(Instr.loadAt t V).run P w=.ok v w/\VR G c v:=by
 unfold iU at L;split at L
 .rename_i r m;cases Z with
  |ptr hr=>
   split at L
   .rename_i U O I hc;obtain⟨v,i,g⟩:=GB (h.cells _ _ _ _ _ _ _ hr hc) L;exact⟨v,Gp,g⟩
   .simp at L
 .rename_i U;cases Z with
  |iptr vs K J=>
   rename_i b o;have M:jg G w b o U:=fun j d Y=>⟨vs j,h.frz _ _ _ (K j (eG.1 Y).1),J j d Y⟩;obtain⟨v,i,g⟩:=GB M L;exact⟨v,Gp,g⟩
 .simp at L
theorem Po{t:TypeId}{a x:AV}{j M:Value}(ha:VR G a j)(hx:VR G x M)(K:nf P H t a x=some H'):
 ∃J,(Instr.storeAt t j M).run P w=.ok () J/\Step B H.next G w H' J G:=by
 unfold nf at K;split at K
 .rename_i r m;cases ha with
  |ptr hr=>
   rename_i b o ex;split at K
   .rename_i cs I C s hc z;split at K
    .rename_i L;obtain⟨h1,h2,h3,h4⟩:=L;simp only[az]at K;subst K;have U:=hx.cells;have Z:M.cells.toList.length=s:=by rw[<-U.1];exact h1
     have Y:∀v∈M.cells.toList,v.oneCell'=true:=fun v hv=>by
      obtain⟨i,hi,rfl⟩:=tp hv;have V:i<x.cells.length:=by rw[U.1];exact hi
      rw[(U.2 i _ _ (aR V) (aR hi)).oneCell];exact gF.1 h4 _ (dI V)
     have hex:=h.ext r b o ex cs I C hr hc;obtain⟨J,hw,g⟩:=Cs P hr m x.cells M.cells.toList cs 0 H w h hc U Y ac ac ac (fun _=>ac);refine⟨J,?_,wC⟩;have O:M.cells.size=s:=uJ;simp only[Instr.storeAt,Instr.sureAddr,eI,ky,eN,storeVar,zhK z,O];simpa using hw
    .simp at K
   .simp at K
 .simp at K
end
section
variable {P:Program} {B:Bs} {G:Gh} {H H':Hp} {w:World}
theorem Pp{t:TypeId}{a c:AV}{V:Value}{i:Nat}(M:VR G a V)(Z:zfu P t a i=some c):∃v,(Instr.fieldAt t V i).run P w=.ok v w/\VR G c v:=by
 unfold zfu at Z;split at Z
 .rename_i O hd;split at Z
  .rename_i f C;split at Z
   .rename_i s K;have Y:∀b o,V=.pointer (some ⟨b,o,none⟩)->(Instr.fieldAt t V i).run P w=.ok (.pointer (some ⟨b,o+f.offset,none⟩)) w:=fun b o e=>by
     subst e;simp only[Instr.fieldAt,eI,zgJ hd,eN];simp[C,Instr.sureAddr,fieldPlace,zhK K,nA]
    split at Z
    .rename_i r m;simp only[az]at Z;subst Z;cases M with
     |ptr hr=>exact⟨_,Y _ _ rfl,Cm⟩
    .rename_i g;simp only[az]at Z;subst Z;cases M with
     |iptr vs L J=>
      refine⟨_,Y _ _ rfl,.iptr (fun j=>vs (f.offset+j)) (fun j U=>?_) (fun j d U=>?_)⟩
      .rw[ku]at U;rw[jS];exact L _ ac
      .rw[rX]at U;exact J _ _ U
    .simp at Z
   .simp at Z
  .simp at Z
 .simp at Z
theorem Pq{t:TypeId}{a c:AV}{V:Value}{i:Nat}(o:VR G a V)(Z:zf5 P t a i=some c):∃v,(Instr.field t V i).run P w=.ok v w/\VR G c v:=by
 unfold zf5 at Z;split at Z
 .rename_i Y M hd;cases o with
  |agg L O=>
   rename_i vs;split at Z
   .rename_i f C;obtain⟨v,U,g⟩:=zh (P:=P) (w:=w) ⟨L,O⟩ Z;refine⟨v,?_,g⟩;simp only[Instr.field,eI,zgJ hd,eN];simp only[C,eI,asAgg,ky,eN];exact U
   .simp at Z
 .simp at Z
theorem Ps{t:TypeId}{a i c:AV}{C g:Value}(O:VR G a C)(hi:VR G i g)(Z:zgi P t a i=some c):∃v,(Instr.indexAt t C g).run P w=.ok v w/\VR G c v:=by
 unfold zgi at Z;split at Z
 .rename_i kk k;cases hi;split at Z
  .rename_i e hd;split at Z
   .rename_i s U;split at Z
    .rename_i r m M z;split at Z
     .rename_i V;simp only[az]at Z;subst Z;cases O with
      |sl hr hl hc=>
       rename_i b o x K;refine⟨.pointer (some ⟨b,o+m+k*s,none⟩),?_,Cm⟩;simp only[Instr.indexAt,asIntOf,eI,ky,eN,zgJ hd];have h1:(0:Int)<=Int.ofNat k:=Int.natCast_nonneg k;have h2:(Int.ofNat k)<(M:Int):=wD;simp[zhK U,V,nA]
     .simp at Z
    .rename_i xs;split at Z
     .rename_i J Y;split at Z
      .rename_i L;simp only[az]at Z;subst Z;have V:k<xs.length:=(eG.1 Y).1;cases O with
       |lst vs hz hF hv hc=>
        rename_i b o K z;have I:s=z:=by rw[<-L];exact hz k J Y
        subst I;refine⟨.pointer (some ⟨b,o+k*s,none⟩),?_,.iptr (vs k) (fun j hj=>hF k j V ac) (fun j d hj=>hv k j J d Y hj)⟩;simp only[Instr.indexAt,asIntOf,eI,ky,eN,zgJ hd];simp[zhK U,V,nA]
       |lst0 a K=>simp at V
      .simp at Z
     .simp at Z
    .simp at Z
   .simp at Z
  .rename_i n e hd;split at Z
   .rename_i s U;split at Z
    .rename_i r m;split at Z
     .rename_i V;simp only[az]at Z;subst Z;cases O with
      |ptr hr=>
       rename_i b o x;refine⟨.pointer (some ⟨b,o+m+k*s,none⟩),?_,Cm⟩;simp only[Instr.indexAt,asIntOf,eI,ky,eN,zgJ hd];simp[zhK U,V,nA,Instr.sureAddr]
     .simp at Z
    .simp at Z
   .simp at Z
  .simp at Z
 .simp at Z
theorem Pt{t:TypeId}{a i c:AV}{V Y:Value}(o:VR G a V)(I:VR G i Y)(Z:oS P t a i=some c):∃v,(Instr.index t V Y).run P w=.ok v w/\VR G c v:=by
 unfold oS at Z;split at Z
 .rename_i z k;cases I;split at Z
  .rename_i s hd;split at Z
   .rename_i b U;simp only[az]at Z;subst Z;cases o with
    |str K l L=>
     subst L;refine⟨_,?_,.int .u8 b.toNat⟩;have j:k<K.size:=by
      have:=(eG.1 U).1;simpa using this
     have J:K[k]?=some b:=by
      rw[ByteArray.getElem?_lt' _ _ j];have:=(eG.1 U).2;simp at this;rw[<-this];rfl
     simp only[Instr.index,asIntOf,eI,ky,eN,zgJ hd];simp[J]
   .simp at Z
  .rename_i n e m hd;split at Z
   .rename_i j;split at Z
    .rename_i s O;cases o with
     |agg L C=>
      rename_i vs;obtain⟨v,M,g⟩:=zh (P:=P) (w:=w) ⟨L,C⟩ Z;refine⟨v,?_,g⟩;simp only[Instr.index,asIntOf,eI,ky,eN,zgJ hd];simp[zhK O,j,M]
    .simp at Z
   .simp at Z
  .simp at Z
 .simp at Z
theorem Pu{a c:AV}{V:Value}{i:Nat}(o:VR G a V)(Z:extract a i=some c):∃v,(Instr.extract V i).run P w=.ok v w/\VR G c v:=by
 unfold extract at Z;split at Z
 .rename_i g;cases o with
  |tup L U=>
   rename_i vs;have I:i<g.length:=(eG.1 Z).1;have Y:i<vs.length:=ac;exact⟨vs[i],by simp[Instr.extract,Y],U i c _ Z (aR Y)⟩
 .simp at Z
theorem Cv{op:BinOp}{k:IntKind}{a b:Int}{c:AV}(m:op≠.shl/\op≠.shr)(h:zhA op k a b=some c)(z:TypeId):∃v,(binOp op z (.int k a) (.int k b)).run P w=.ok v w/\VR G c v:=by
 cases op<;>simp only[zhA,az,reduceCtorEq]at h<;>first
  |(subst h;exact⟨_,by simp[binOp,Op.intArith,Op.intBits,Op.intCmp];rfl,qN⟩)
  |(subst h;exact⟨.int k (k.wrap (BitVec.ofInt k.bits a &&& ~~~ BitVec.ofInt k.bits b).toNat),by simp[binOp,Op.intBits],qN⟩)
  |(split at h
    ·simp at h
    .rename_i o;simp only[az]at h;subst h;exact⟨_,by simp[binOp,Op.intDiv,o];rfl,qN⟩)
  |simp at m
theorem Pv{op:BinOp}{a b:ByteArray}{c:AV}(h:wh op a.data.toList b.data.toList=some c)(z:TypeId):∃v,(binOp op z (.string a) (.string b)).run P w=.ok v w/\VR G c v:=by
 have O:∀x y,rN x y=Op.bytesLess x y:=fun x=>by
  induction x with
  |nil=>intro y;cases y<;>rfl
  |cons p x ih=>intro y;cases y with
   |nil=>rfl
   |cons q y=>simp[rN,Op.bytesLess,ih]
 cases op<;>simp only[wh,az,reduceCtorEq,O]at h<;>first
  |(subst h;exact⟨.bool (a.data.toList == b.data.toList),uK,qN⟩)
  |(subst h;exact⟨.bool !(a.data.toList == b.data.toList),uK,qN⟩)
  |(subst h;exact⟨.bool (Op.bytesLess a.data.toList b.data.toList),uK,qN⟩)
  |(subst h;exact⟨.bool !(Op.bytesLess a.data.toList b.data.toList),uK,qN⟩)
  |(subst h;exact⟨.bool (Op.bytesLess a.data.toList b.data.toList||a.data.toList == b.data.toList),uK,qN⟩)
  |(subst h;exact⟨.bool !(Op.bytesLess a.data.toList b.data.toList||a.data.toList == b.data.toList),uK,qN⟩)
  |(split at h
    ·rename_i o;simp only[az]at h;subst h;refine⟨.string (a++b),?_,.str _ _ ?_⟩
     .have j:¬((a.size+b.size:Nat):Int) > IntKind.i64.max:=by
       have i:a.size+b.size<=70368744177664:=by simpa [zg1]using o
       have g:IntKind.i64.max=9223372036854775807:=rfl;rw[g];omega
      simp only[binOp,Op.stringOp,af j];rfl
     .simp
    .simp at h)
theorem GD(O:Nat){x y:AV}{M g:Value}{r:Bool}{z:TypeId}(C:VR G x M)(U:VR G y g)(h:yM P z x y=some r):(Op.equalIn (O+1) z M g).run P w=.ok r w:=by
 unfold yM at h;split at h;all_goals first
  |(rename_i hd
    split at h<;>simp only[az,reduceCtorEq]at h<;>subst h<;>cases C<;>cases U<;>simp[Op.equalIn,zgJ hd]
    done)
  |(rename_i e hd
    split at h<;>simp only[az,reduceCtorEq]at h<;>subst h<;>cases C<;>cases U<;>simp[Op.equalIn,zgJ hd]
    done)
  |(rename_i Z m hd
    split at h<;>simp only[az,reduceCtorEq]at h<;>subst h<;>cases C<;>cases U<;>simp[Op.equalIn,zgJ hd]
    done)
  |(rename_i Z m o hd
    split at h<;>simp only[az,reduceCtorEq]at h<;>subst h<;>cases C<;>cases U<;>simp[Op.equalIn,zgJ hd]
    done)
  |simp at h
theorem zi{op:BinOp}{t:TypeId}{x y:Operand}{c d:AV}{cv dv:Value}(Z:VR G c cv)(hd:VR G d dv)(h:∀l m,c=.agg l->d=.agg m->False):(eqGuard op t x y cv dv).run P w=.ok () w:=by
 cases op<;>first|rfl|(cases Z<;>cases hd<;>first|rfl|exact(h _ _ rfl rfl).elim)
theorem Pw(a b:ByteArray):(a == b)=(a.data.toList == b.data.toList):=by
 cases a with
 |mk x=>cases b with
  |mk y=>
   show(x == y)=_;rw[wF,ow,ow];exact⟨fun h=>by rw[h],fun h=>ou h⟩
theorem GE(O:Nat){x y:AV}{M g:Value}{r:Bool}{z:TypeId}(C:VR G x M)(U:VR G y g)(h:Ch P z x y=some r):(Op.equalIn (O+1) z M g).run P w=.ok r w:=by
 unfold Ch at h;split at h
 .split at h
  .rename_i hd;split at h
   .rename_i j;simp only[az]at h;subst h j;cases C;cases U;simp[Op.equalIn,zgJ hd]
   .simp at h
  .simp at h
 .split at h
  .rename_i hd;simp only[az]at h;subst h;cases C with
   |str a Y o=>cases U with
    |str b V Z=>
     subst o Z;simp only[Op.equalIn,eI,zgJ hd,eN,ky,Pw]
  .simp at h
 .exact GD O C U h
theorem Cw{xs Y:List AV}{M L:List Value}(C:cn G xs M)(U:cn G Y L)(O:Nat):∀(I:List Field) (r:Bool),uE P xs Y I=some r ->
 Sem.run P (forIn I (none,()) fun(f:Field) (_:Option Bool×Unit)=>
         if f.name="_" then pure (ForInStep.yield (none,()))
         else do
          let a <-part f.type M.toArray f.offset
          let b <-part f.type L.toArray f.offset
          let c <-Op.equalIn (O+1) f.type a b
          if c=false then pure (ForInStep.done (some false,()))else pure (ForInStep.yield (none,())))
  w=.ok (match r with|true=>(none,())|false=>(some false,())) w
 |[],r,h=>by
  simp only[uE,az]at h;subst h;rfl
 |f::I,r,h=>by
  unfold uE at h;rw[List.forIn_cons];split at h
  .rename_i z;rw[aq wE];simp only[eI,ky,eN];exact Cw C U O I r h
  .rename_i z;rw[af wE];split at h
   .rename_i a b o m;obtain⟨j,Z,J⟩:=zh (P:=P) (w:=w) C o;obtain⟨i,K,V⟩:=zh (P:=P) (w:=w) U m;split at h
    .rename_i g;have:=GE (P:=P) (w:=w) O J V g;simp only[eI,Z,K,this,eN,l7,cS,ky];exact Cw C U O I r h
    .rename_i g;have:=GE (P:=P) (w:=w) O J V g;simp only[az]at h;subst h;simp only[eI,Z,K,this,eN,cV,ky]
    .simp at h
   .simp at h
theorem Px(d:Nat){t:TypeId}{Y:Array Field}{xs Z:Array Value}(hd:P.underlying t=some (.struct Y))(K:P.stoodInHeld t=false):
 (Op.equalIn (d+1) t (.agg xs) (.agg Z)).run P w=(Sem.run P (forIn Y.toList (none,()) fun(f:Field) (_:Option Bool×Unit)=>
   if f.name="_" then pure (ForInStep.yield (none,()))
   else do
    let a <-part f.type xs f.offset
    let b <-part f.type Z f.offset
    let c <-Op.equalIn d f.type a b
    if c=false then pure (ForInStep.done (some false,()))else pure (ForInStep.yield (none,())))
   w).andThen fun a V=>Sem.run P (match a.1 with|some r=>pure r|none=>pure true) V:=by
 simp[Op.equalIn,zgJ hd,K]
 congr 1
 funext a V
 rcases a with⟨_ |_,_⟩<;>rfl
theorem Py(O:Nat){x y:AV}{M Z:Value}{r:Bool}{V:TypeId}(U:VR G x M)(L:VR G y Z)(h:tf P V x y=some r):(Op.equalIn (O+2) V M Z).run P w=.ok r w:=by
 unfold tf at h;split at h
 .unfold yN at h;split at h
  .rename_i Y hd;split at h
   .simp at h
   .rename_i J;simp only[gG]at J;cases U with
    |agg o g=>cases L with
     |agg z C=>
      have:=Cw (P:=P) (w:=w) ⟨o,g⟩ ⟨z,C⟩ O Y.toList r h;rw[Px (O+1) hd J.1,this];cases r<;>rfl
  .simp at h
 .exact GD (O+1) U L h
theorem Pz{x y:AV}{M g:Value}{r:Bool}{z:TypeId}(C:VR G x M)(U:VR G y g)(h:tf P z x y=some r):(Op.equal z M g).run P w=.ok r w:=Py 9998 C U h
theorem PA{op:BinOp}{t:TypeId}{x y:Operand}{xs Z:List AV}{M g:Value}(C:VR G (.agg xs) M)(U:VR G (.agg Z) g){r:Bool}(h:yN P t xs Z=some r):(eqGuard op t x y M g).run P w=.ok () w:=by
 unfold yN at h;split at h
 .split at h
  .simp at h
  .rename_i J;simp only[gG]at J;cases C;cases U;cases op<;>first|rfl|simp[eqGuard,J.2]
 .simp at h
theorem PB{op:BinOp}{z:TypeId}{i j:Operand}{x y c:AV}{M g:Value}(C:VR G x M)(U:VR G y g)(O:∀k a k' b,x=.int k a->y=.int k' b->False)
 (Y:∀a b,x=.str a->y=.str b->False) (V:∀k a,x=.sx k a->False) (L:∀k a k' b,x=.int k a->y=.sx k' b->False) (h:Ci P op z x y=some c) :
 ∃v,(do eqGuard op z i j M g;binOp op z M g:Sem Value).run P w=.ok v w/\VR G c v:=by
 unfold Ci at h;have J:∃r,tf P z x y=some r/\((op=.eql/\c=.bool r)\/(op=.neq/\c=.bool !r)):=by
  split at h
  .split at h
   .rename_i r hr;simp only[az]at h;exact⟨r,hr,.inl ⟨rfl,h.symm⟩⟩
   .simp at h
  .split at h
   .rename_i r hr;simp only[az]at h;exact⟨r,hr,.inr ⟨rfl,h.symm⟩⟩
   .simp at h
  .simp at h
 obtain⟨r,hr,m⟩:=J;have o:(eqGuard op z i j M g).run P w=.ok () w:=by
  have Z:=hr;unfold tf at Z;split at Z
  .exact PA C U Z
  .rename_i K;exact zi C U K
 have I:=Pz (P:=P) (w:=w) C U hr;simp only[eI,o,eN];rcases m with⟨rfl,rfl⟩|⟨rfl,rfl⟩
 .refine⟨.bool r,?_,.bool r⟩;have:binOp .eql z M g=(do pure (.bool (<-Op.equal z M g)):Sem Value):=by
   cases C<;>cases U<;>first|rfl|exact(O _ _ _ _ rfl rfl).elim|exact(Y _ _ rfl rfl).elim|exact(V _ _ rfl).elim|exact(L _ _ _ _ rfl rfl).elim
  rw[this];simp[I]
 .refine⟨.bool !r,?_,.bool _⟩;have:binOp .neq z M g=(do pure (.bool (!(<-Op.equal z M g))):Sem Value):=by
   cases C<;>cases U<;>first|rfl|exact(O _ _ _ _ rfl rfl).elim|exact(Y _ _ rfl rfl).elim|exact(V _ _ rfl).elim|exact(L _ _ _ _ rfl rfl).elim
  rw[this];simp[I]
theorem GF{x:AV}{k:IntKind}{e:Sx}{M:Value}(C:VR G x M)(h:yK x=some (k,e)):M=.int k (e.eval G.ρ):=by
 unfold yK at h;split at h
 .simp only[cH]at h;obtain⟨rfl,rfl⟩:=h;cases C;rfl
 .simp only[cH]at h;obtain⟨rfl,rfl⟩:=h;cases C;rfl
 .simp at h
theorem PC{op:BinOp}{k:IntKind}{a b n:Int}(h:zhA op k a b=some (.int k n)):Cf op k a b=n:=by simp[Cf,h]
theorem PD{D:BinOp->Sx->Sx->Option Bool}(Z:ny D G.ρ){op:BinOp}{k:IntKind}{a b:Sx}{c:AV}(h:Cg D op k a b=some c)(z:TypeId):
 ∃v,(binOp op z (.int k (a.eval G.ρ)) (.int k (b.eval G.ρ))).run P w=.ok v w/\VR G c v:=by
 have U:∀(op:BinOp) (n:Int),(op≠.shl/\op≠.shr)->zhA op k (a.eval G.ρ) (b.eval G.ρ)=some (.int k n)->c=.sx k (.bin op k a b) ->
  ∃v,(binOp op z (.int k (a.eval G.ρ)) (.int k (b.eval G.ρ))).run P w=.ok v w/\VR G c v:=fun op n m I hc=>by
  obtain⟨v,i,g⟩:=Cv (P:=P) (w:=w) (G:=G) m I z;cases g;refine⟨_,i,?_⟩;subst hc;have:VR G (.sx k (.bin op k a b)) (.int k ((Sx.bin op k a b).eval G.ρ)):=.sx _ _;simp only[Sx.eval,PC I]at this;exact this
 have Y:D .eql b (.lit 0)=some false->b.eval G.ρ≠0:=fun hd=>by
  have:=Z _ k _ _ _ hd;simp[zhA,Sx.eval]at this;exact this
 cases op<;>simp only[Cg,az,reduceCtorEq]at h<;>first
  |exact U _ _ au rfl h.symm
  |(split at h
    ·rename_i hd;simp only[az]at h;first
      |exact U .quo (k.wrap ((a.eval G.ρ).tdiv (b.eval G.ρ))) au (by simp only[zhA,af (Y hd)]) h.symm
      |exact U .rem ((a.eval G.ρ).tmod (b.eval G.ρ)) au (by simp only[zhA,af (Y hd)]) h.symm
    .simp at h)
  |(split at h
    ·rename_i r hd;simp only[az]at h;subst h;exact Cv (P:=P) (w:=w) (G:=G) au (Z _ k _ _ _ hd) z
    .simp at h)
theorem GG{D:BinOp->Sx->Sx->Option Bool}(Y:ny D G.ρ){op:BinOp}{z:TypeId}{i j:Operand}{x y c:AV}{M g:Value}(C:VR G x M)(Z:VR G y g)(U:∀l m,x=.agg l->y=.agg m->False)(h:yL D op x y=some c):
 ∃v,(do eqGuard op z i j M g;binOp op z M g:Sem Value).run P w=.ok v w/\VR G c v:=by
 have J:=zi (P:=P) (w:=w) (op:=op) (t:=z) (x:=i) (y:=j) C Z U;simp only[eI,J,eN];unfold yL at h;split at h
 .rename_i k a k' b V I;have L:=GF C V;have K:=GF Z I;subst L K;split at h
  .rename_i O;subst O;exact PD Y h z
  .simp at h
 .simp at h
theorem PE{D:BinOp->Sx->Sx->Option Bool}(Z:ny D G.ρ){op:BinOp}{z:TypeId}{i j:Operand}{x y c:AV}{M g:Value}(C:VR G x M)(U:VR G y g)(h:zgV P D op z x y=some c):
 ∃v,(do eqGuard op z i j M g;binOp op z M g:Sem Value).run P w=.ok v w/\VR G c v:=by
 unfold zgV at h;split at h
 .rename_i k a k' b;have J:=zi (P:=P) (w:=w) (op:=op) (t:=z) (x:=i) (y:=j) C U au;simp only[eI,J,eN];cases C;cases U;unfold rO at h;split at h
  .unfold uF at h;split at h
   .simp only[az]at h;subst h;refine⟨_,?_,.int _ _⟩;simp only[binOp,Op.shift];rw[af au];rfl
   .simp at h
  .unfold uF at h;split at h
   .simp only[az]at h;subst h;refine⟨_,?_,.int _ _⟩;simp only[binOp,Op.shift];rw[af au];rfl
   .simp at h
  .rename_i Y V;split at h
   .rename_i O;subst O;exact Cv ⟨Y,V⟩ h z
   .simp at h
 .rename_i a b;have J:=zi (P:=P) (w:=w) (op:=op) (t:=z) (x:=i) (y:=j) C U au;simp only[eI,J,eN];cases C with
  |str K _ o=>
   cases U with
   |str I _ L=>
    subst o L;exact Pv h z
 .exact GG Z C U au h
 .exact GG Z C U au h
 .exact PB C U jd jd jd jd h
theorem PF{op:UnOp}{x c:AV}{M:Value}(C:VR G x M)(h:rQ op x=some c):∃v,(Op.unary op M).run P w=.ok v w/\VR G c v:=by
 unfold rQ at h;split at h
 .cases C;simp only[az]at h;subst h;refine⟨_,rfl,?_⟩;exact .sx _ _
 .cases C;simp only[az]at h;subst h;refine⟨_,rfl,?_⟩;exact .sx _ _
 .cases C;simp only[zhA,az]at h;subst h;exact⟨_,rfl,.int _ _⟩
 .cases C;simp only[zhA,az]at h;subst h;exact⟨_,rfl,.int _ _⟩
 .cases C;simp only[az]at h;subst h;exact⟨_,rfl,.bool _⟩
 .simp at h
end
end Go.Ab
