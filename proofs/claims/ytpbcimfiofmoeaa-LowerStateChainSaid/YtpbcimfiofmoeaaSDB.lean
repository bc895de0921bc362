/- Parts: AbRel, AbMem, AbOps, AbOps2. -/
import Derived.Test.YtpbcimfiofmoeaaSDA
import Derived.WalkKit
set_option linter.unusedSimpArgs false
set_option linter.unusedVariables false
set_option linter.unusedSectionVars false
set_option linter.defProp false
set_option maxHeartbeats 32000000
namespace Go.Ab
set_option maxRecDepth 20000
open Go Go.RowKit
structure Gh where
 β:Nat→Option (Nat×Nat×Nat)
 F:Nat→Nat→Option Value
 ρ:Nat→Int
structure Bs where
 at':Nat
 ρ:Nat→Int
 cfg:Cfg
def zcP (D:BinOp→Sx→Sx→Option Bool) (ρ:Nat→Int):Prop:=∀ op k a b r,D op a b=some r→yV op k (a.eval ρ) (b.eval ρ)=some (.bool r)
inductive VR (G:Gh):AV→Value→Prop
 | int (k:IntKind) (n:Int):VR G (.int k n) (.int k n)
 | sx (k:IntKind) (e:Sx):VR G (.sx k e) (.int k (e.eval G.ρ))
 | bool (b:Bool):VR G (.bool b) (.bool b)
 | str (s:ByteArray) (l:List UInt8) (h:s.data.toList=l):VR G (.str l) (.string s)
 | nilP:VR G .nilP (.pointer none)
 | nilM:VR G .nilM (.map none)
 | nilF:VR G .nilF .nilFunc
 | nilS:VR G .nilS (.slice none 0 0)
 | ptr {r off b o x:Nat} (h:G.β r=some (b,o,x)):VR G (.ptr r off) (.pointer (some ⟨b,o+off,none⟩))
 | iptr {cs:List AV}{b o:Nat} (vs:Nat→Value) (hF:∀ j,j < cs.length→G.F b (o+j)=some (vs j))
  (hv:∀ (j:Nat) (c:AV),cs[j]?=some c→VR G c (vs j)):VR G (.iptr cs) (.pointer (some ⟨b,o,none⟩))
 | sl {r off len z b o x cap:Nat} (h:G.β r=some (b,o,x)) (hl:len≤cap) (hc:off+cap * z≤x) :
  VR G (.sl r off len z) (.slice (some ⟨b,o+off,none⟩) len cap)
 | lst {xs:List (List AV)}{b o cap z:Nat} (vs:Nat→Nat→Value) (hz:∀ (i:Nat) (row:List AV),xs[i]?=some row→row.length=z)
  (hF:∀ i j,i < xs.length→j < z→G.F b (o+i * z+j)=some (vs i j))
  (hv:∀ (i j:Nat) (row:List AV) (c:AV),xs[i]?=some row→row[j]?=some c→VR G c (vs i j)) (hc:xs.length≤cap) :
  VR G (.lst xs) (.slice (some ⟨b,o,none⟩) xs.length cap)
 | lst0 (a:Option Addr) (cap:Nat):VR G (.lst []) (.slice a 0 cap)
 | map {r b o x:Nat} (h:G.β r=some (b,o,x)):VR G (.map r) (.map (some b))
 | clo {f:Nat}{cs:List AV}{vs:List Value} (hl:cs.length=vs.length) (hv:∀ (i:Nat) c v,cs[i]?=some c→vs[i]?=some v→VR G c v) :
  VR G (.clo f cs) (.func (.func f) #[] vs.toArray)
 | agg {cs:List AV}{vs:List Value} (hl:cs.length=vs.length) (hv:∀ (i:Nat) c v,cs[i]?=some c→vs[i]?=some v→VR G c v) :
  VR G (.agg cs) (.agg vs.toArray)
 | tup {cs:List AV}{vs:List Value} (hl:cs.length=vs.length) (hv:∀ (i:Nat) c v,cs[i]?=some c→vs[i]?=some v→VR G c v) :
  VR G (.tup cs) (.tuple vs.toArray)
def VRs (G:Gh) (cs:List AV) (vs:List Value):Prop:=cs.length=vs.length∧∀ (i:Nat) c v,cs[i]?=some c→vs[i]?=some v→VR G c v
theorem VRs.nil (G:Gh):VRs G [] []:=⟨rfl,by simp⟩
theorem VRs.cons {G:Gh}{c:AV}{v:Value}{cs:List AV}{vs:List Value} (h:VR G c v) (hs:VRs G cs vs):VRs G (c::cs) (v::vs):=by
 refine⟨by simp[hs.1],fun i c' v' hc hv=>?_⟩
 cases i with
 | zero=>simp at hc hv;subst hc hv;exact h
 | succ i=>exact hs.2 i c' v' (by simpa using hc) (by simpa using hv)
theorem VRs.of_cons {G:Gh}{c:AV}{v:Value}{cs:List AV}{vs:List Value} (h:VRs G (c::cs) (v::vs)):VR G c v∧VRs G cs vs:=
 ⟨h.2 0 c v rfl rfl,by simpa using h.1,fun i c' v' hc hv=>h.2 (i+1) c' v' (by simpa using hc) (by simpa using hv)⟩
theorem VRs.append {G:Gh}{cs ds:List AV}{vs us:List Value} (h:VRs G cs vs) (h':VRs G ds us):VRs G (cs++ds) (vs++us):=by
 refine⟨by simp[h.1,h'.1],fun i c v hc hv=>?_⟩
 have hl:=h.1
 by_cases hi:i < cs.length
 ·rw[List.getElem?_append_left hi]at hc
  rw[List.getElem?_append_left (by omega)]at hv
  exact h.2 i c v hc hv
 ·rw[List.getElem?_append_right (by omega)]at hc
  rw[List.getElem?_append_right (by omega)]at hv
  rw[← hl]at hv
  exact h'.2 _ c v hc hv
theorem VRs.drop {G:Gh}{cs:List AV}{vs:List Value} (h:VRs G cs vs) (n:Nat):VRs G (cs.drop n) (vs.drop n):=
 ⟨by simp[h.1],fun i c v hc hv=>h.2 (n+i) c v (by simpa using hc) (by simpa using hv)⟩
theorem VRs.take {G:Gh}{cs:List AV}{vs:List Value} (h:VRs G cs vs) (n:Nat):VRs G (cs.take n) (vs.take n):=by
 refine⟨by simp[h.1],fun i c v hc hv=>?_⟩
 rw[List.getElem?_take]at hc hv
 split at hc
 ·rename_i hi;rw[if_pos hi]at hv;exact h.2 i c v hc hv
 ·simp at hc
structure Ext (G G':Gh):Prop where
 β:∀ r p,G.β r=some p→G'.β r=some p
 F:∀ b o v,G.F b o=some v→G'.F b o=some v
 ρ:G'.ρ=G.ρ
theorem Ext.refl (G:Gh):Ext G G:=⟨fun _ _ h=>h,fun _ _ _ h=>h,rfl⟩
theorem Ext.trans {a b c:Gh} (h:Ext a b) (k:Ext b c):Ext a c:=⟨fun r p hp=>k.β r p (h.β r p hp),fun x y v hv=>k.F x y v (h.F x y v hv),k.ρ.trans h.ρ⟩
theorem VR.mono {G G':Gh} (e:Ext G G') {c:AV}{v:Value} (h:VR G c v):VR G' c v:=by
 induction h with
 | int k n=>exact .int k n
 | sx k x=>rw[← e.ρ];exact .sx k x
 | bool b=>exact .bool b
 | str s l h=>exact .str s l h
 | nilP=>exact .nilP
 | nilM=>exact .nilM
 | nilF=>exact .nilF
 | nilS=>exact .nilS
 | ptr h=>exact .ptr (e.β _ _ h)
 | iptr vs hF _ ih=>exact .iptr vs (fun j hj=>e.F _ _ _ (hF j hj)) ih
 | sl h hl hc=>exact .sl (e.β _ _ h) hl hc
 | lst vs hz hF _ hc ih=>exact .lst vs hz (fun i j hi hj=>e.F _ _ _ (hF i j hi hj)) ih hc
 | lst0 a cap=>exact .lst0 a cap
 | map h=>exact .map (e.β _ _ h)
 | clo hl _ ih=>exact .clo hl ih
 | agg hl _ ih=>exact .agg hl ih
 | tup hl _ ih=>exact .tup hl ih
theorem VRs.mono {G G':Gh} (e:Ext G G') {c:List AV}{v:List Value} (h:VRs G c v):VRs G' c v:=⟨h.1,fun i a b ha hb=>(h.2 i a b ha hb).mono e⟩
theorem VR.oneCell {G:Gh}{c:AV}{v:Value} (h:VR G c v):v.oneCell'=c.one:=by cases h<;>rfl
theorem VR.cells {G:Gh}{c:AV}{v:Value} (h:VR G c v):VRs G c.cells v.cells.toList:=by
 cases h with
 | agg hl hv=>exact⟨by simpa [AV.cells,Value.cells]using hl,by simpa [AV.cells,Value.cells]using hv⟩
 | _=>exact VRs.cons (by constructor<;>assumption) (VRs.nil _)
def zb3 (G:Gh) (w:World) (b o:Nat) (cs:List AV):Prop:=∀ (j:Nat) (c:AV),cs[j]?=some c→∃ v,w.cell? ⟨b,o+j,none⟩=some v∧VR G c v
def yK (x:Nat) (cs:List AV):Bool→Nat
 | true=>x
 | false=>cs.length
def zkC (G:Gh) (es:List (AV×AV)) (ms:List MapEntry):Prop:=
 es.length=ms.length∧∀ (i:Nat) e m,es[i]?=some e→ms[i]?=some m→VR G e.1 m.key∧VR G e.2 m.val
structure R (B:Bs) (H:Hp) (w:World) (G:Gh):Prop where
 base:B.at'≤w.heap.size
 dom:∀ r p,G.β r=some p→r < H.next
 lt:∀ r b o x,G.β r=some (b,o,x)→B.at'≤b∧b < w.heap.size
 cells:∀ r b o x cs imm tip,G.β r=some (b,o,x)→H.get r=some (.cells cs imm tip)→zb3 G w b o cs
 imm:∀ r b o x cs imm tip,G.β r=some (b,o,x)→H.get r=some (.cells cs imm tip)→∀ j,j < imm→j < cs.length→∃ v,G.F b (o+j)=some v
 ext:∀ r b o x cs imm tip,G.β r=some (b,o,x)→H.get r=some (.cells cs imm tip)→cs.length≤yK x cs tip
 room:∀ r b o x cs imm tip,G.β r=some (b,o,x)→H.get r=some (.cells cs imm tip)→∀ j,imm≤j→j < yK x cs tip →
  (∃ v,w.cell? ⟨b,o+j,none⟩=some v)∧w.frozen? ⟨b,o+j,none⟩=false∧G.F b (o+j)=none
 apart:∀ r b o x cs imm tip r' b' o' x' cs' imm' tip',G.β r=some (b,o,x)→H.get r=some (.cells cs imm tip) →
  G.β r'=some (b',o',x')→H.get r'=some (.cells cs' imm' tip')→r≠r' →
  ∀ j j',imm≤j→j < yK x cs tip→imm'≤j'→j' < yK x' cs' tip'→b=b'→o+j≠o'+j'
 map:∀ r b o x es,G.β r=some (b,o,x)→H.get r=some (.map es)→∃ ms clock,w.heap[b]?=some (.map ms clock)∧zkC G es ms.toList
 mapApart:∀ r b o x es r' b' o' x',G.β r=some (b,o,x)→H.get r=some (.map es)→G.β r'=some (b',o',x')→(H.get r').isSome→r≠r'→b≠b'
 frz:∀ b o v,G.F b o=some v→w.cell? ⟨b,o,none⟩=some v
 val:G.ρ=B.ρ
 sym:zcP B.cfg.dec B.ρ
 fits:∀ r b o x cs imm tip,G.β r=some (b,o,x)→H.get r=some (.cells cs imm tip)→cs.length≤x
structure Fr (G:Gh) (w w':World):Prop where
 os:w'.os=w.os
 tape:w'.tape=w.tape
 output:w'.output=w.output
 size:w.heap.size≤w'.heap.size
 block:∀ k,k < w.heap.size→(∀ r b o x,G.β r=some (b,o,x)→b≠k)→w'.heap[k]?=w.heap[k]?
theorem Fr.refl (G:Gh) (w:World):Fr G w w:=⟨rfl,rfl,rfl,Nat.le_refl _,fun _ _ _=>rfl⟩
def New (G G':Gh) (w:World):Prop:=∀ r b o x,G'.β r=some (b,o,x)→G.β r=some (b,o,x)∨w.heap.size≤b∨∃ r' o' x',G.β r'=some (b,o',x')
theorem Fr.trans {G G':Gh}{a b c:World} (h:Fr G a b) (k:Fr G' b c) (n:New G G' a):Fr G a c:=
 ⟨k.os.trans h.os,k.tape.trans h.tape,k.output.trans h.output,Nat.le_trans h.size k.size,fun i hi hn=>
  (k.block i (Nat.lt_of_lt_of_le hi h.size) (fun r b o x hr he=>by
    rcases n r b o x hr with h1|h1|⟨r',o',x',h1⟩
    ·exact hn r b o x h1 he
    ·omega
    ·exact hn r' b o' x' h1 he)).trans (h.block i hi hn)⟩
theorem New.refl (G:Gh) (w:World):New G G w:=fun _ _ _ _ h=>.inl h
theorem New.trans {G G' G'':Gh}{w w':World} (h:New G G' w) (k:New G' G'' w') (hs:w.heap.size≤w'.heap.size):New G G'' w:=fun r b o x hr=>by
 rcases k r b o x hr with h1|h1|⟨r',o',x',h1⟩
 ·exact h r b o x h1
 ·exact .inr (.inl (by omega))
 ·rcases h r' b o' x' h1 with h2|h2|h2
  ·exact .inr (.inr ⟨r',o',x',h2⟩)
  ·exact .inr (.inl h2)
  ·exact .inr (.inr h2)
structure Step (B:Bs) (nx:Nat) (G:Gh) (w:World) (H':Hp) (w':World) (G':Gh):Prop where
 r:R B H' w' G'
 ext:Ext G G'
 fr:Fr G w w'
 new:New G G' w
 low:∀ r p,G'.β r=some p→G.β r=some p∨nx≤r
 mono:nx≤H'.next
 icy:∀ b o v,G'.F b o=some v→G.F b o=some v∨B.at'≤b
theorem Step.refl {B:Bs}{H:Hp}{G:Gh}{w:World} (h:R B H w G):Step B H.next G w H w G:=⟨h,Ext.refl _,Fr.refl _ _,New.refl _ _,fun _ _ h=>.inl h,Nat.le_refl _,fun _ _ _ h=>.inl h⟩
theorem Step.trans {B:Bs}{nx:Nat}{H' H'':Hp}{G G' G'':Gh}{w w' w'':World} (h:Step B nx G w H' w' G') (k:Step B H'.next G' w' H'' w'' G''):Step B nx G w H'' w'' G'':=
 ⟨k.r,h.ext.trans k.ext,h.fr.trans k.fr h.new,h.new.trans k.new h.fr.size,fun r p hr=>by
  rcases k.low r p hr with h1|h1
  ·exact h.low r p h1
  ·exact .inr (Nat.le_trans h.mono h1),Nat.le_trans h.mono k.mono,fun b o v hv=>by
  rcases k.icy b o v hv with h1|h1
  ·exact h.icy b o v h1
  ·exact .inr h1⟩
structure TR (N:Nat) (G:Gh) (E:Env) (a:Act):Prop where
 size:a.tmps.size=N
 slots:∀ t,VR G (E.at t) (a.tmps.getD t undef)
theorem TR.mono {N:Nat}{G G':Gh}{E:Env}{a:Act} (e:Ext G G') (h:TR N G E a):TR N G' E a:=⟨h.size,fun t=>(h.slots t).mono e⟩
theorem VR.undef (G:Gh):VR G yp Go.undef:=.tup (cs:=[]) (vs:=[]) rfl (by simp)
@[simp] theorem zat {α:Type} (x y:α):zdD true x y=x:=rfl
@[simp] theorem yP {α:Type} (x y:α):zdD false x y=y:=rfl
theorem zfj {α:Type} (k:Nat):(T.e:T α).get k=none:=rfl
theorem zc9 {α:Type} (v:Option α) (l r:T α) (k:Nat) :
 (T.n v l r).get k=zdD (Nat.beq k 0) v (zdD (Nat.beq (Nat.mod k 2) 1) (l.get (Nat.div k 2)) (r.get (Nat.sub (Nat.div k 2) 1))):=rfl
theorem zkD {α:Type} (v:Option α) (f:Nat) (t:T α) (k:Nat):zeP v (f+1) t k=T.casesOn t
 (zdD (Nat.beq k 0) (.n v .e .e) (zdD (Nat.beq (Nat.mod k 2) 1) (.n none (zeP v f .e (Nat.div k 2)) .e) (.n none .e (zeP v f .e (Nat.sub (Nat.div k 2) 1)))))
 (fun u l r=>zdD (Nat.beq k 0) (.n v l r) (zdD (Nat.beq (Nat.mod k 2) 1) (.n u (zeP v f l (Nat.div k 2)) r) (.n u l (zeP v f r (Nat.sub (Nat.div k 2) 1))))):=rfl
theorem zl9 {α:Type} (v:Option α):∀ (f:Nat) (t:T α) (k j:Nat),k < f→(zeP v f t k).get j=if j=k then v else t.get j:=by
 intro f
 induction f with
 | zero=>intro t k j h;omega
 | succ f ih=>
   intro t k j h
   have hd:∀ n:Nat,Nat.div n 2=n / 2:=fun _=>rfl
   have hm:∀ n:Nat,Nat.mod n 2=n % 2:=fun _=>rfl
   have hs:∀ n:Nat,Nat.sub n 1=n - 1:=fun _=>rfl
   have hb0:∀ n m:Nat,Nat.beq n m=decide (n=m):=fun n m=>by
    cases h:Nat.beq n m with
    | true=>have e:=Nat.eq_of_beq_eq_true h;simp[e]
    | false=>have e:=Nat.ne_of_beq_eq_false h;simp[e]
   rw[zkD]
   cases t with
   | e=>
     simp only[]
     by_cases hk0:k=0
     ·subst hk0
      simp only[hb0,decide_true,zat,zc9,zfj]
      by_cases hj:j=0<;>simp[hj] 
      cases decide (j.mod 2=1)<;>rfl
     ·simp only[hb0,hk0,decide_false,yP]
      by_cases hk1:Nat.mod k 2=1
      ·simp only[hk1,decide_true,zat,zc9,hb0]
       by_cases hj0:j=0
       ·subst hj0;simp[zfj];omega
       ·simp only[hj0,decide_false,yP]
        by_cases hj1:Nat.mod j 2=1
        ·simp only[hj1,decide_true,zat]
         rw[ih _ _ _ (by rw[hd];omega)]
         rw[hd,hd,hm]at *
         by_cases e:j=k
         ·subst e;simp
         ·rw[if_neg (by omega),if_neg e];rfl
        ·simp only[hj1,decide_false,yP,zfj]
         rw[if_neg (by rintro rfl;exact hj1 hk1)]
      ·simp only[hk1,decide_false,yP,zc9,hb0]
       by_cases hj0:j=0
       ·subst hj0;simp[zfj];omega
       ·simp only[hj0,decide_false,yP]
        by_cases hj1:Nat.mod j 2=1
        ·simp only[hj1,decide_true,zat,zfj]
         rw[if_neg (by rintro rfl;exact hk1 hj1)]
        ·simp only[hj1,decide_false,yP]
         rw[ih _ _ _ (by rw[hd,hs];omega)]
         rw[hd,hd,hs,hs]
         rw[hm]at hk1 hj1
         by_cases e:j=k
         ·subst e;simp
         ·rw[if_neg (by omega),if_neg e];rfl
   | n u l r=>
     simp only[]
     by_cases hk0:k=0
     ·subst hk0
      simp only[hb0,decide_true,zat,zc9]
      by_cases hj:j=0<;>simp[hj]
     ·simp only[hb0,hk0,decide_false,yP]
      by_cases hk1:Nat.mod k 2=1
      ·simp only[hk1,decide_true,zat,zc9,hb0]
       by_cases hj0:j=0
       ·subst hj0;simp;omega
       ·simp only[hj0,decide_false,yP]
        by_cases hj1:Nat.mod j 2=1
        ·simp only[hj1,decide_true,zat]
         rw[ih _ _ _ (by rw[hd];omega)]
         rw[hm]at hk1 hj1
         rw[hd,hd]
         by_cases e:j=k
         ·subst e;simp
         ·rw[if_neg (by omega),if_neg e]
        ·simp only[hj1,decide_false,yP]
         rw[if_neg (by rintro rfl;exact hj1 hk1)]
      ·simp only[hk1,decide_false,yP,zc9,hb0]
       by_cases hj0:j=0
       ·subst hj0;simp;omega
       ·simp only[hj0,decide_false,yP]
        by_cases hj1:Nat.mod j 2=1
        ·simp only[hj1,decide_true,zat]
         rw[if_neg (by rintro rfl;exact hk1 hj1)]
        ·simp only[hj1,decide_false,yP]
         rw[ih _ _ _ (by rw[hd,hs];omega)]
         rw[hm]at hk1 hj1
         rw[hd,hd,hs,hs]
         by_cases e:j=k
         ·subst e;simp
         ·rw[if_neg (by omega),if_neg e]
theorem T.get_set {α:Type} (t:T α) (k j:Nat) (v:Option α):(t.set k v).get j=if j=k then v else t.get j:=zl9 v (k+1) t k j (by omega)
theorem Hp.get_set (h:Hp) (r j:Nat) (b:HB):(h.set r b).get j=if j=r then some b else h.get j:=T.get_set _ _ _ _
theorem zR (h:Hp) (r j:Nat):(h.kill r).get j=if j=r then none else h.get j:=T.get_set _ _ _ _
theorem za (h:Hp) (j:Nat) (b:HB):(h.alloc b).get j=if j=h.next then some b else h.get j:=T.get_set _ _ _ _
@[simp] theorem ze (h:Hp) (r:Nat) (b:HB):(h.set r b).next=h.next:=rfl
@[simp] theorem zY (h:Hp) (r:Nat):(h.kill r).next=h.next:=rfl
@[simp] theorem zb (h:Hp) (b:HB):(h.alloc b).next=h.next+1:=rfl
theorem zbs (E:Env) (d t:Nat) (v:AV):Env.at (T.set E d (some v)) t=if t=d then v else E.at t:=by
 unfold Env.at
 rw[T.get_set]
 split<;>rfl
theorem TR.put {N:Nat}{G:Gh}{E E':Env}{a:Act} (h:TR N G E a) {dst:Option Tmp}{c:AV}{v:Value} (hv:VR G c v) (hp:zaB N E dst c=some E'):TR N G E' (a.put dst v):=by
 cases dst with
 | none=>simp[zaB]at hp;subst hp;exact h
 | some d=>
   simp only[zaB]at hp
   split at hp
   ·rename_i hd
    simp only[Option.some.injEq]at hp
    subst hp
    have hd':d < N:=by simpa [Nat.blt_eq]using hd
    refine⟨by simp[Act.put,h.size],fun t=>?_⟩
    rw[zbs]
    simp only[Act.put]
    by_cases e:t=d
    ·subst e
     rw[if_pos rfl]
     simpa [Array.getD,h.size,hd']using hv
    ·rw[if_neg e]
     have:=h.slots t
     simpa [Array.getD_eq_getD_getElem?,Array.getElem?_setIfInBounds,Ne.symm e]using this
   ·simp at hp
theorem zaS {w:World}{b o:Nat}{v:Value} (h:w.cell? ⟨b,o,none⟩=some v):b < w.heap.size:=World.block_lt_of_cell? w ⟨b,o,none⟩ h
theorem R.congr {B:Bs}{H H':Hp}{w:World}{G:Gh} (h:R B H w G) (hn:H'.next=H.next) (hg:∀ r,(G.β r).isSome→H'.get r=H.get r):R B H' w G:=by
 have k:∀ r p,G.β r=some p→H'.get r=H.get r:=fun r p hr=>hg r (by simp[hr])
 exact {
  base:=h.base
  dom:=fun r p hr=>by rw[hn];exact h.dom r p hr
  lt:=h.lt
  cells:=fun r b o x cs imm tip hr hc=>h.cells r b o x cs imm tip hr (by rw[← k r _ hr];exact hc)
  imm:=fun r b o x cs imm tip hr hc=>h.imm r b o x cs imm tip hr (by rw[← k r _ hr];exact hc)
  ext:=fun r b o x cs imm tip hr hc=>h.ext r b o x cs imm tip hr (by rw[← k r _ hr];exact hc)
  fits:=fun r b o x cs imm tip hr hc=>h.fits r b o x cs imm tip hr (by rw[← k r _ hr];exact hc)
  room:=fun r b o x cs imm tip hr hc=>h.room r b o x cs imm tip hr (by rw[← k r _ hr];exact hc)
  apart:=fun r b o x cs imm tip r' b' o' x' cs' imm' tip' hr hc hr' hc'=>h.apart r b o x cs imm tip r' b' o' x' cs' imm' tip' hr (by rw[← k r _ hr];exact hc) hr' (by rw[← k r' _ hr'];exact hc')
  map:=fun r b o x es hr hc=>h.map r b o x es hr (by rw[← k r _ hr];exact hc)
  mapApart:=fun r b o x es r' b' o' x' hr hc hr' hs=>h.mapApart r b o x es r' b' o' x' hr (by rw[← k r _ hr];exact hc) hr' (by rw[← k r' _ hr'];exact hs)
  frz:=h.frz
  val:=h.val
  sym:=h.sym }
theorem R.kill {B:Bs}{H:Hp}{w:World}{G:Gh} (h:R B H w G) (r0:Nat):R B (H.kill r0) w G:=by
 have k:∀ j b,(H.kill r0).get j=some b→H.get j=some b:=fun j b hj=>by
  rw[zR]at hj
  split at hj
  ·simp at hj
  ·exact hj
 exact {
  base:=h.base
  dom:=h.dom
  lt:=h.lt
  cells:=fun r b o x cs imm tip hr hc=>h.cells r b o x cs imm tip hr (k _ _ hc)
  imm:=fun r b o x cs imm tip hr hc=>h.imm r b o x cs imm tip hr (k _ _ hc)
  ext:=fun r b o x cs imm tip hr hc=>h.ext r b o x cs imm tip hr (k _ _ hc)
  fits:=fun r b o x cs imm tip hr hc=>h.fits r b o x cs imm tip hr (k _ _ hc)
  room:=fun r b o x cs imm tip hr hc=>h.room r b o x cs imm tip hr (k _ _ hc)
  apart:=fun r b o x cs imm tip r' b' o' x' cs' imm' tip' hr hc hr' hc'=>h.apart r b o x cs imm tip r' b' o' x' cs' imm' tip' hr (k _ _ hc) hr' (k _ _ hc')
  map:=fun r b o x es hr hc=>h.map r b o x es hr (k _ _ hc)
  mapApart:=fun r b o x es r' b' o' x' hr hc hr' hs=>h.mapApart r b o x es r' b' o' x' hr (k _ _ hc) hr' (by
   cases hh:(H.kill r0).get r' with
   | none=>simp[hh]at hs
   | some b=>rw[k _ _ hh];rfl)
  frz:=h.frz
  val:=h.val
  sym:=h.sym }
def Gh.add (G:Gh) (r:Nat) (p:Nat×Nat×Nat):Gh:={ β:=fun k=>if k=r then some p else G.β k,F:=G.F,ρ:=G.ρ }
theorem jP (G:Gh) (r:Nat) (p:Nat×Nat×Nat):(G.add r p).β r=some p:=by simp[Gh.add]
theorem zeS {G:Gh}{r:Nat}{p:Nat×Nat×Nat} (h:∀ q,G.β r=some q→False):Ext G (G.add r p):=
 ⟨fun k q hk=>by
  simp only[Gh.add]
  split
  ·rename_i e;subst e;exact(h q hk).elim
  ·exact hk,fun _ _ _ h=>h,rfl⟩
theorem zb3.mono {G G':Gh}{w:World}{b o:Nat}{cs:List AV} (e:Ext G G') (h:zb3 G w b o cs):zb3 G' w b o cs:=
 fun j c hj=>let ⟨v,h1,h2⟩:=h j c hj;⟨v,h1,h2.mono e⟩
theorem zkC.mono {G G':Gh}{es:List (AV×AV)}{ms:List MapEntry} (e:Ext G G') (h:zkC G es ms):zkC G' es ms:=
 ⟨h.1,fun i a b ha hb=>⟨(h.2 i a b ha hb).1.mono e,(h.2 i a b ha hb).2.mono e⟩⟩
theorem zkE {B:Bs}{nx r0:Nat}{X:Hp}{w:World}{G:Gh} (h:R B X w G) {cs:List AV}{vs:List Value} (hno:∀ q,G.β r0=some q→False) (hlt0:r0 < X.next) (hgetn:X.get r0=some (.cells cs 0 true)) (hnx:nx≤r0)
 (hv:VRs G cs vs) (spare:List Value) (e:TypeId) :
 Step B nx G w X (w.alloc (.cells (vs++spare).toArray e)) (G.add r0 (w.heap.size,0,vs.length+spare.length)):=by
 have hext:Ext G (G.add r0 (w.heap.size,0,vs.length+spare.length)):=zeS hno
 have hold:∀ k b' o',k < w.heap.size→b'=k→(w.alloc (.cells (vs++spare).toArray e)).cell? ⟨b',o',none⟩=w.cell? ⟨b',o',none⟩:=fun k b' o' hk hb=>World.cell?_alloc_lt _ _ _ (by simpa [hb]using hk)
 have hnew:∀ j,(w.alloc (.cells (vs++spare).toArray e)).cell? ⟨w.heap.size,j,none⟩=(vs++spare)[j]?:=fun j=>by
  rw[World.cell?_alloc_new];simp
 have hβ:∀ r p,(G.add r0 (w.heap.size,0,vs.length+spare.length)).β r=some p→(r=r0∧p=(w.heap.size,0,vs.length+spare.length))∨(r≠r0∧G.β r=some p):=fun r p hr=>by
  simp only[Gh.add]at hr
  split at hr
  ·rename_i e;exact .inl ⟨e,by simpa using hr.symm⟩
  ·rename_i e;exact .inr ⟨e,hr⟩
 refine⟨?_,hext,⟨rfl,rfl,rfl,by simp,fun k hk _=>?_⟩,fun r b o x hr=>?_,fun r p hr=>(hβ r p hr).elim (fun e=>.inr (by rw[e.1];exact hnx)) (fun e=>.inl e.2),by omega,fun _ _ _ h=>.inl h⟩
 ·exact {
   base:=by have:=h.base;simp;omega
   dom:=fun r p hr=>by
    rcases hβ r p hr with ⟨rfl,_⟩|⟨_,hr'⟩
    ·exact hlt0
    ·exact h.dom r p hr'
   lt:=fun r b o x hr=>by
    rcases hβ r _ hr with ⟨rfl,hp⟩|⟨_,hr'⟩
    ·simp only[Prod.mk.injEq]at hp;obtain⟨rfl,rfl,rfl⟩:=hp
     exact⟨h.base,by simp⟩
    ·have:=h.lt r b o x hr';exact⟨this.1,by simp;omega⟩
   cells:=fun r b o x cs' imm tip hr hc=>by
    rcases hβ r _ hr with ⟨rfl,hp⟩|⟨hne,hr'⟩
    ·simp only[Prod.mk.injEq]at hp;obtain⟨rfl,rfl,rfl⟩:=hp
     rw[hgetn]at hc
     simp only[Option.some.injEq,HB.cells.injEq]at hc
     obtain⟨rfl,rfl,rfl⟩:=hc
     intro j c hj
     have hjl:j < cs.length:=(List.getElem?_eq_some_iff.1 hj).1
     have hjv:j < vs.length:=by have:=hv.1;omega
     refine⟨vs[j],?_,(hv.2 j c _ hj (List.getElem?_eq_getElem hjv)).mono hext⟩
     rw[Nat.zero_add,hnew,List.getElem?_append_left hjv,List.getElem?_eq_getElem hjv]
    ·intro j c hj
     obtain⟨v,h1,h2⟩:=h.cells r b o x cs' imm tip hr' hc j c hj
     exact⟨v,by rw[hold _ _ _ (zaS h1) rfl];exact h1,h2.mono hext⟩
   imm:=fun r b o x cs' imm tip hr hc j hj hjl=>by
    rcases hβ r _ hr with ⟨rfl,hp⟩|⟨hne,hr'⟩
    ·rw[hgetn]at hc
     simp only[Option.some.injEq,HB.cells.injEq]at hc
     obtain⟨rfl,rfl,rfl⟩:=hc
     omega
    ·exact h.imm r b o x cs' imm tip hr' hc j hj hjl
   ext:=fun r b o x cs' imm tip hr hc=>by
    rcases hβ r _ hr with ⟨rfl,hp⟩|⟨hne,hr'⟩
    ·simp only[Prod.mk.injEq]at hp;obtain⟨rfl,rfl,rfl⟩:=hp
     rw[hgetn]at hc
     simp only[Option.some.injEq,HB.cells.injEq]at hc
     obtain⟨rfl,rfl,rfl⟩:=hc
     have:=hv.1
     simp only[yK];omega
    ·exact h.ext r b o x cs' imm tip hr' hc
   fits:=fun r b o x cs' imm tip hr hc=>by
    rcases hβ r _ hr with ⟨rfl,hp⟩|⟨hne,hr'⟩
    ·simp only[Prod.mk.injEq]at hp;obtain⟨rfl,rfl,rfl⟩:=hp
     rw[hgetn]at hc
     simp only[Option.some.injEq,HB.cells.injEq]at hc
     obtain⟨rfl,rfl,rfl⟩:=hc
     have:=hv.1
     omega
    ·exact h.fits r b o x cs' imm tip hr' hc
   room:=fun r b o x cs' imm tip hr hc j hj hjl=>by
    rcases hβ r _ hr with ⟨rfl,hp⟩|⟨hne,hr'⟩
    ·simp only[Prod.mk.injEq]at hp;obtain⟨rfl,rfl,rfl⟩:=hp
     rw[hgetn]at hc
     simp only[Option.some.injEq,HB.cells.injEq]at hc
     obtain⟨rfl,rfl,rfl⟩:=hc
     simp only[yK]at hjl
     refine⟨⟨(vs++spare)[j]'(by simp;omega),?_⟩,?_,?_⟩
     ·rw[Nat.zero_add,hnew,List.getElem?_eq_getElem]
     ·simp
     ·cases hf:G.F w.heap.size (0+j)with
      | none=>exact hf
      | some v=>have:=zaS (h.frz _ _ _ hf);omega
    ·obtain⟨⟨v,h1⟩,h2,h3⟩:=h.room r b o x cs' imm tip hr' hc j hj hjl
     exact⟨⟨v,by rw[hold _ _ _ (zaS h1) rfl];exact h1⟩,by rw[World.frozen?_alloc_old _ _ _ (by have:=zaS h1;simp;omega)];exact h2,h3⟩
   apart:=fun r b o x cs1 imm tip r' b' o' x' cs2 imm' tip' hr hc hr' hc' hne j j' hj hjl hj' hjl' he=>by
    rcases hβ r _ hr with ⟨rfl,hp⟩|⟨hn1,hr1⟩
    ·simp only[Prod.mk.injEq]at hp;obtain⟨rfl,rfl,rfl⟩:=hp
     rcases hβ r' _ hr' with ⟨rfl,hp⟩|⟨hn2,hr2⟩
     ·exact(hne rfl).elim
     ·have:=(h.lt r' b' o' x' hr2).2;omega
    ·rcases hβ r' _ hr' with ⟨rfl,hp⟩|⟨hn2,hr2⟩
     ·simp only[Prod.mk.injEq]at hp;obtain⟨rfl,rfl,rfl⟩:=hp
      have:=(h.lt r b o x hr1).2;omega
     ·exact h.apart r b o x cs1 imm tip r' b' o' x' cs2 imm' tip' hr1 hc hr2 hc' hne j j' hj hjl hj' hjl' he
   map:=fun r b o x es hr hc=>by
    rcases hβ r _ hr with ⟨rfl,hp⟩|⟨hne,hr'⟩
    ·rw[hgetn]at hc;simp at hc
    ·obtain⟨ms,clock,h1,h2⟩:=h.map r b o x es hr' hc
     refine⟨ms,clock,?_,h2.mono hext⟩
     rw[Below.heap_alloc _ _ _ (h.lt r b o x hr').2];exact h1
   mapApart:=fun r b o x es r' b' o' x' hr hc hr' hs hne=>by
    rcases hβ r _ hr with ⟨rfl,hp⟩|⟨hn1,hr1⟩
    ·rw[hgetn]at hc;simp at hc
    ·rcases hβ r' _ hr' with ⟨rfl,hp⟩|⟨hn2,hr2⟩
     ·simp only[Prod.mk.injEq]at hp;obtain⟨rfl,rfl,rfl⟩:=hp
      have:=(h.lt r b o x hr1).2;omega
     ·exact h.mapApart r b o x es r' b' o' x' hr1 hc hr2 hs hne
   frz:=fun b o v hf=>by
    have:=h.frz b o v hf
    rw[hold _ _ _ (zaS this) rfl];exact this
   val:=h.val
   sym:=h.sym }
 ·exact Below.heap_alloc _ _ _ hk
 ·rcases hβ r _ hr with ⟨rfl,hp⟩|⟨_,hr'⟩
  ·simp only[Prod.mk.injEq]at hp;obtain⟨rfl,rfl,rfl⟩:=hp
   exact .inr (.inl (Nat.le_refl _))
  ·exact .inl hr'
theorem zgA {B:Bs}{nx r0:Nat}{X:Hp}{w:World}{G:Gh} (h:R B X w G) (hno:∀ q,G.β r0=some q→False) (hlt0:r0 < X.next) (hgetn:X.get r0=some (.map [])) (hnx:nx≤r0) :
 Step B nx G w X (w.alloc (.map #[] 0)) (G.add r0 (w.heap.size,0,0)):=by
 have hext:Ext G (G.add r0 (w.heap.size,0,0)):=zeS hno
 have hold:∀ k b' o',k < w.heap.size→b'=k→(w.alloc (.map #[] 0)).cell? ⟨b',o',none⟩=w.cell? ⟨b',o',none⟩:=fun k b' o' hk hb=>World.cell?_alloc_lt _ _ _ (by simpa [hb]using hk)
 have hβ:∀ r p,(G.add r0 (w.heap.size,0,0)).β r=some p→(r=r0∧p=(w.heap.size,0,0))∨(r≠r0∧G.β r=some p):=fun r p hr=>by
  simp only[Gh.add]at hr
  split at hr
  ·rename_i e;exact .inl ⟨e,by simpa using hr.symm⟩
  ·rename_i e;exact .inr ⟨e,hr⟩
 refine⟨?_,hext,⟨rfl,rfl,rfl,by simp,fun k hk _=>?_⟩,fun r b o x hr=>?_,fun r p hr=>(hβ r p hr).elim (fun e=>.inr (by rw[e.1];exact hnx)) (fun e=>.inl e.2),by omega,fun _ _ _ h=>.inl h⟩
 ·exact {
   base:=by have:=h.base;simp;omega
   dom:=fun r p hr=>by
    rcases hβ r p hr with ⟨rfl,_⟩|⟨_,hr'⟩
    ·exact hlt0
    ·exact h.dom r p hr'
   lt:=fun r b o x hr=>by
    rcases hβ r _ hr with ⟨rfl,hp⟩|⟨_,hr'⟩
    ·simp only[Prod.mk.injEq]at hp;obtain⟨rfl,rfl,rfl⟩:=hp
     exact⟨h.base,by simp⟩
    ·have:=h.lt r b o x hr';exact⟨this.1,by simp;omega⟩
   cells:=fun r b o x cs' imm tip hr hc=>by
    rcases hβ r _ hr with ⟨rfl,hp⟩|⟨hne,hr'⟩
    ·rw[hgetn]at hc;simp at hc
    ·intro j c hj
     obtain⟨v,h1,h2⟩:=h.cells r b o x cs' imm tip hr' hc j c hj
     exact⟨v,by rw[hold _ _ _ (zaS h1) rfl];exact h1,h2.mono hext⟩
   imm:=fun r b o x cs' imm tip hr hc j hj hjl=>by
    rcases hβ r _ hr with ⟨rfl,hp⟩|⟨hne,hr'⟩
    ·rw[hgetn]at hc;simp at hc
    ·exact h.imm r b o x cs' imm tip hr' hc j hj hjl
   ext:=fun r b o x cs' imm tip hr hc=>by
    rcases hβ r _ hr with ⟨rfl,hp⟩|⟨hne,hr'⟩
    ·rw[hgetn]at hc;simp at hc
    ·exact h.ext r b o x cs' imm tip hr' hc
   fits:=fun r b o x cs' imm tip hr hc=>by
    rcases hβ r _ hr with ⟨rfl,hp⟩|⟨hne,hr'⟩
    ·rw[hgetn]at hc;simp at hc
    ·exact h.fits r b o x cs' imm tip hr' hc
   room:=fun r b o x cs' imm tip hr hc j hj hjl=>by
    rcases hβ r _ hr with ⟨rfl,hp⟩|⟨hne,hr'⟩
    ·rw[hgetn]at hc;simp at hc
    ·obtain⟨⟨v,h1⟩,h2,h3⟩:=h.room r b o x cs' imm tip hr' hc j hj hjl
     exact⟨⟨v,by rw[hold _ _ _ (zaS h1) rfl];exact h1⟩,by rw[World.frozen?_alloc_old _ _ _ (by have:=zaS h1;simp;omega)];exact h2,h3⟩
   apart:=fun r b o x cs1 imm tip r' b' o' x' cs2 imm' tip' hr hc hr' hc' hne j j' hj hjl hj' hjl' he=>by
    rcases hβ r _ hr with ⟨rfl,hp⟩|⟨hn1,hr1⟩
    ·rw[hgetn]at hc;simp at hc
    ·rcases hβ r' _ hr' with ⟨rfl,hp⟩|⟨hn2,hr2⟩
     ·rw[hgetn]at hc';simp at hc'
     ·exact h.apart r b o x cs1 imm tip r' b' o' x' cs2 imm' tip' hr1 hc hr2 hc' hne j j' hj hjl hj' hjl' he
   map:=fun r b o x es hr hc=>by
    rcases hβ r _ hr with ⟨rfl,hp⟩|⟨hne,hr'⟩
    ·simp only[Prod.mk.injEq]at hp;obtain⟨rfl,rfl,rfl⟩:=hp
     rw[hgetn]at hc
     simp only[Option.some.injEq,HB.map.injEq]at hc
     subst hc
     exact⟨#[],0,by show(w.heap.push _)[w.heap.size]?=_;simp,rfl,by simp⟩
    ·obtain⟨ms,clock,h1,h2⟩:=h.map r b o x es hr' hc
     refine⟨ms,clock,?_,h2.mono hext⟩
     rw[Below.heap_alloc _ _ _ (h.lt r b o x hr').2];exact h1
   mapApart:=fun r b o x es r' b' o' x' hr hc hr' hs hne=>by
    rcases hβ r _ hr with ⟨rfl,hp⟩|⟨hn1,hr1⟩
    ·simp only[Prod.mk.injEq]at hp;obtain⟨rfl,rfl,rfl⟩:=hp
     rcases hβ r' _ hr' with ⟨rfl,hp⟩|⟨hn2,hr2⟩
     ·exact(hne rfl).elim
     ·have:=(h.lt r' b' o' x' hr2).2;omega
    ·rcases hβ r' _ hr' with ⟨rfl,hp⟩|⟨hn2,hr2⟩
     ·simp only[Prod.mk.injEq]at hp;obtain⟨rfl,rfl,rfl⟩:=hp
      have:=(h.lt r b o x hr1).2;omega
     ·exact h.mapApart r b o x es r' b' o' x' hr1 hc hr2 hs hne
   frz:=fun b o v hf=>by
    have:=h.frz b o v hf
    rw[hold _ _ _ (zaS this) rfl];exact this
   val:=h.val
   sym:=h.sym }
 ·exact Below.heap_alloc _ _ _ hk
 ·rcases hβ r _ hr with ⟨rfl,hp⟩|⟨_,hr'⟩
  ·simp only[Prod.mk.injEq]at hp;obtain⟨rfl,rfl,rfl⟩:=hp
   exact .inr (.inl (Nat.le_refl _))
  ·exact .inl hr'
theorem R.more {B:Bs}{H X:Hp}{w:World}{G:Gh} (h:R B H w G) (hn:H.next≤X.next) (hg:∀ r,r < H.next→X.get r=H.get r):R B X w G:=by
 have k:∀ r p,G.β r=some p→X.get r=H.get r:=fun r p hr=>hg r (h.dom r p hr)
 exact {
  base:=h.base
  dom:=fun r p hr=>Nat.lt_of_lt_of_le (h.dom r p hr) hn
  lt:=h.lt
  cells:=fun r b o x cs imm tip hr hc=>h.cells r b o x cs imm tip hr (by rw[← k r _ hr];exact hc)
  imm:=fun r b o x cs imm tip hr hc=>h.imm r b o x cs imm tip hr (by rw[← k r _ hr];exact hc)
  ext:=fun r b o x cs imm tip hr hc=>h.ext r b o x cs imm tip hr (by rw[← k r _ hr];exact hc)
  fits:=fun r b o x cs imm tip hr hc=>h.fits r b o x cs imm tip hr (by rw[← k r _ hr];exact hc)
  room:=fun r b o x cs imm tip hr hc=>h.room r b o x cs imm tip hr (by rw[← k r _ hr];exact hc)
  apart:=fun r b o x cs imm tip r' b' o' x' cs' imm' tip' hr hc hr' hc'=>h.apart r b o x cs imm tip r' b' o' x' cs' imm' tip' hr (by rw[← k r _ hr];exact hc) hr' (by rw[← k r' _ hr'];exact hc')
  map:=fun r b o x es hr hc=>h.map r b o x es hr (by rw[← k r _ hr];exact hc)
  mapApart:=fun r b o x es r' b' o' x' hr hc hr' hs=>h.mapApart r b o x es r' b' o' x' hr (by rw[← k r _ hr];exact hc) hr' (by rw[← k r' _ hr'];exact hs)
  frz:=h.frz
  val:=h.val
  sym:=h.sym }
theorem R.alloc {B:Bs}{H:Hp}{w:World}{G:Gh} (h:R B H w G) (blk:HB):R B (H.alloc blk) w G:=
 h.more (Nat.le_succ _) (fun r hr=>by rw[za,if_neg (by omega)])
theorem zda {B:Bs}{H:Hp}{w:World}{G:Gh} (h:R B H w G) {cs:List AV}{vs:List Value} (hv:VRs G cs vs) (spare:List Value) (e:TypeId) :
 Step B H.next G w (H.alloc (.cells cs 0 true)) (w.alloc (.cells (vs++spare).toArray e)) (G.add H.next (w.heap.size,0,vs.length+spare.length)):=
 zkE (h.alloc _) (fun q hq=>by have:=h.dom _ _ hq;omega) (by simp) (by rw[za,if_pos rfl]) (Nat.le_refl _) hv spare e
theorem ziW {B:Bs}{H:Hp}{w:World}{G:Gh} (h:R B H w G) :
 Step B H.next G w (H.alloc (.map [])) (w.alloc (.map #[] 0)) (G.add H.next (w.heap.size,0,0)):=
 zgA (h.alloc _) (fun q hq=>by have:=h.dom _ _ hq;omega) (by simp) (by rw[za,if_pos rfl]) (Nat.le_refl _)
inductive Made (G:Gh):HB→Obj→Nat→Prop
 | cells (cs:List AV) (vs spare:List Value) (e:TypeId) (hv:VRs G cs vs):Made G (.cells cs 0 true) (.cells (vs++spare).toArray e) (vs.length+spare.length)
 | map:Made G (.map []) (.map #[] 0) 0
theorem zjc {B:Bs}{nx r0:Nat}{X:Hp}{w:World}{G:Gh}{blk:HB}{obj:Obj}{ext:Nat} (h:R B X w G) (hno:∀ q,G.β r0=some q→False) (hlt0:r0 < X.next) (hg:X.get r0=some blk) (hnx:nx≤r0) (hm:Made G blk obj ext) :
 Step B nx G w X (w.alloc obj) (G.add r0 (w.heap.size,0,ext)):=by
 cases hm with
 | cells cs vs spare e hv=>exact zkE h hno hlt0 hg hnx hv spare e
 | map=>exact zgA h hno hlt0 hg hnx
def zjd (P:Program) (G:Gh) (w:World) {α:Type} (s:Sem α) (f:Value→α) (c:AV) (H H':Hp):Prop:=
 ∃ blk obj ext v,H'=H.alloc blk∧s.run P w=.ok (f v) (w.alloc obj)∧Made G blk obj ext∧∀ G':Gh,G'.β H.next=some (w.heap.size,0,ext)→VR G' c v
theorem zjd.sim {P:Program}{B:Bs}{H H':Hp}{w:World}{G:Gh} (h:R B H w G) {s:Sem Value}{c:AV} (hm:zjd P G w s id c H H'):∃ v w' G',s.run P w=.ok v w'∧VR G' c v∧Step B H.next G w H' w' G':=by
 obtain⟨blk,obj,ext,v,rfl,h1,h2,h3⟩:=hm
 exact⟨v,_,_,h1,h3 _ (jP _ _ _),zjc (h.alloc _) (fun q hq=>by have:=h.dom _ _ hq;omega) (by simp) (by rw[za,if_pos rfl]) (Nat.le_refl _) h2⟩
theorem zjd.next {P:Program}{H H':Hp}{w:World}{G:Gh}{s:Sem Value}{c:AV} (hm:zjd P G w s id c H H'):zjd P G w (do pure (.value (← s)):Sem Next) Next.value c H H':=by
 obtain⟨blk,obj,ext,v,h0,h1,h2,h3⟩:=hm
 exact⟨blk,obj,ext,v,h0,by simp[h1],h2,h3⟩
theorem zsa {b o b' o':Nat} (h:b=b'→o≠o'):(⟨b,o,none⟩:Addr)≠⟨b',o',none⟩:=fun e=>by
 simp only[Addr.mk.injEq]at e
 exact h e.1 e.2.1
theorem zma {B:Bs}{H:Hp}{w:World}{G:Gh} (h:R B H w G) {r b o x:Nat}{cs cs':List AV}{imm:Nat}{tip:Bool} (hr:G.β r=some (b,o,x)) (hc:H.get r=some (.cells cs imm tip))
 {j:Nat} (hj:imm≤j) (hjl:j < yK x cs tip) {v:Value}
 (hcs:∀ (i:Nat) c,cs'[i]?=some c→(i=j∧VR G c v)∨(i≠j∧cs[i]?=some c)) (hl:cs'.length≤yK x cs tip) (hl':tip=false→cs'.length=cs.length) :
 Step B H.next G w (H.set r (.cells cs' imm tip)) (w.setCell ⟨b,o+j,none⟩ v) G:=by
 obtain⟨⟨u,hu⟩,hfz,hF⟩:=h.room r b o x cs imm tip hr hc j hj hjl
 have hsame:(w.setCell ⟨b,o+j,none⟩ v).cell? ⟨b,o+j,none⟩=some v:=World.cell?_setCell_same _ _ _ hu
 have hother:∀ b' o',(b'=b→o'≠o+j)→(w.setCell ⟨b,o+j,none⟩ v).cell? ⟨b',o',none⟩=w.cell? ⟨b',o',none⟩:=fun b' o' hne=>
  World.cell?_setCell_other _ _ _ _ (zsa fun e e'=>hne e.symm e'.symm)
 have hreach:yK x cs' tip=yK x cs tip:=by
  cases tip with
  | true=>rfl
  | false=>exact hl' rfl
 have hget:∀ k,k≠r→(H.set r (.cells cs' imm tip)).get k=H.get k:=fun k hk=>by rw[Hp.get_set,if_neg hk]
 have hgetr:(H.set r (.cells cs' imm tip)).get r=some (.cells cs' imm tip):=by rw[Hp.get_set,if_pos rfl]
 have hkeep:∀ b' o' v',G.F b' o'=some v'→(b'=b→o'≠o+j):=fun b' o' v' hf e e'=>by subst e;subst e';rw[hF]at hf;simp at hf
 have hcell:∀ b' o',(∃ v',w.cell? ⟨b',o',none⟩=some v')→∃ v',(w.setCell ⟨b,o+j,none⟩ v).cell? ⟨b',o',none⟩=some v':=fun b' o' ⟨v',hv'⟩=>by
  by_cases e:b'=b∧o'=o+j
  ·obtain⟨rfl,rfl⟩:=e;exact⟨v,hsame⟩
  ·exact⟨v',by rw[hother b' o' (fun e1 e2=>e ⟨e1,e2⟩)];exact hv'⟩
 refine⟨?_,Ext.refl _,⟨rfl,rfl,rfl,by simp,fun k hk hn=>?_⟩,New.refl _ _,fun _ _ h=>.inl h,Nat.le_refl _,fun _ _ _ h=>.inl h⟩
 ·exact {
   base:=by have:=h.base;simpa using this
   dom:=h.dom
   lt:=fun r b o x hr=>by have:=h.lt r b o x hr;simpa using this
   cells:=fun r1 b1 o1 x1 cs1 imm1 tip1 hr1 hc1=>by
    by_cases e:r1=r
    ·subst e
     rw[hr]at hr1
     simp only[Option.some.injEq,Prod.mk.injEq]at hr1;obtain⟨rfl,rfl,rfl⟩:=hr1
     rw[hgetr]at hc1
     simp only[Option.some.injEq,HB.cells.injEq]at hc1;obtain⟨rfl,rfl,rfl⟩:=hc1
     intro i c hi
     rcases hcs i c hi with ⟨rfl,hv⟩|⟨hne,hi'⟩
     ·exact⟨v,hsame,hv⟩
     ·obtain⟨v',h1,h2⟩:=h.cells r1 b o x cs imm tip hr hc i c hi'
      exact⟨v',by rw[hother _ _ (fun _=>by omega)];exact h1,h2⟩
    ·rw[hget r1 e]at hc1
     intro i c hi
     obtain⟨v',h1,h2⟩:=h.cells r1 b1 o1 x1 cs1 imm1 tip1 hr1 hc1 i c hi
     refine⟨v',?_,h2⟩
     rw[hother]
     ·exact h1
     ·have hil:i < cs1.length:=(List.getElem?_eq_some_iff.1 hi).1
      have hex:=h.ext r1 b1 o1 x1 cs1 imm1 tip1 hr1 hc1
      by_cases hi1:imm1≤i
      ·exact h.apart r1 b1 o1 x1 cs1 imm1 tip1 r b o x cs imm tip hr1 hc1 hr hc e i j hi1 (by omega) hj hjl
      ·obtain⟨u',hu'⟩:=h.imm r1 b1 o1 x1 cs1 imm1 tip1 hr1 hc1 i (by omega) hil
       exact hkeep _ _ _ hu'
   imm:=fun r1 b1 o1 x1 cs1 imm1 tip1 hr1 hc1 i hi hil=>by
    by_cases e:r1=r
    ·subst e
     rw[hr]at hr1
     simp only[Option.some.injEq,Prod.mk.injEq]at hr1;obtain⟨rfl,rfl,rfl⟩:=hr1
     rw[hgetr]at hc1
     simp only[Option.some.injEq,HB.cells.injEq]at hc1;obtain⟨rfl,rfl,rfl⟩:=hc1
     rcases hcs i _ (List.getElem?_eq_getElem hil)with ⟨rfl,_⟩|⟨_,hi'⟩
     ·omega
     ·exact h.imm r1 b o x cs imm tip hr hc i hi (List.getElem?_eq_some_iff.1 hi').1
    ·rw[hget r1 e]at hc1
     exact h.imm r1 b1 o1 x1 cs1 imm1 tip1 hr1 hc1 i hi hil
   ext:=fun r1 b1 o1 x1 cs1 imm1 tip1 hr1 hc1=>by
    by_cases e:r1=r
    ·subst e
     rw[hr]at hr1
     simp only[Option.some.injEq,Prod.mk.injEq]at hr1;obtain⟨rfl,rfl,rfl⟩:=hr1
     rw[hgetr]at hc1
     simp only[Option.some.injEq,HB.cells.injEq]at hc1;obtain⟨rfl,rfl,rfl⟩:=hc1
     rw[hreach];exact hl
    ·rw[hget r1 e]at hc1
     exact h.ext r1 b1 o1 x1 cs1 imm1 tip1 hr1 hc1
   fits:=fun r1 b1 o1 x1 cs1 imm1 tip1 hr1 hc1=>by
    by_cases e:r1=r
    ·subst e
     rw[hr]at hr1
     simp only[Option.some.injEq,Prod.mk.injEq]at hr1;obtain⟨rfl,rfl,rfl⟩:=hr1
     rw[hgetr]at hc1
     simp only[Option.some.injEq,HB.cells.injEq]at hc1;obtain⟨rfl,rfl,rfl⟩:=hc1
     rcases Bool.eq_false_or_eq_true tip with e1|e1
     ·subst e1;exact hl
     ·rw[hl' e1];exact h.fits _ _ _ _ _ _ _ hr hc
    ·rw[hget r1 e]at hc1
     exact h.fits r1 b1 o1 x1 cs1 imm1 tip1 hr1 hc1
   room:=fun r1 b1 o1 x1 cs1 imm1 tip1 hr1 hc1 i hi hil=>by
    by_cases e:r1=r
    ·subst e
     rw[hr]at hr1
     simp only[Option.some.injEq,Prod.mk.injEq]at hr1;obtain⟨rfl,rfl,rfl⟩:=hr1
     rw[hgetr]at hc1
     simp only[Option.some.injEq,HB.cells.injEq]at hc1;obtain⟨rfl,rfl,rfl⟩:=hc1
     rw[hreach]at hil
     obtain⟨h1,h2,h3⟩:=h.room r1 b o x cs imm tip hr hc i hi hil
     exact⟨hcell _ _ h1,by rw[World.frozen?_setCell];exact h2,h3⟩
    ·rw[hget r1 e]at hc1
     obtain⟨h1,h2,h3⟩:=h.room r1 b1 o1 x1 cs1 imm1 tip1 hr1 hc1 i hi hil
     exact⟨hcell _ _ h1,by rw[World.frozen?_setCell];exact h2,h3⟩
   apart:=fun r1 b1 o1 x1 cs1 imm1 tip1 r2 b2 o2 x2 cs2 imm2 tip2 hr1 hc1 hr2 hc2 hne i i' hi hil hi' hil'=>by
    have key:∀ k bk ok xk csk immk tipk,G.β k=some (bk,ok,xk)→(H.set r (.cells cs' imm tip)).get k=some (.cells csk immk tipk) →
     ∃ cs0,H.get k=some (.cells cs0 immk tipk)∧yK xk cs0 tipk=yK xk csk tipk:=fun k bk ok xk csk immk tipk hk hck=>by
     by_cases e:k=r
     ·subst e
      rw[hr]at hk
      simp only[Option.some.injEq,Prod.mk.injEq]at hk;obtain⟨rfl,rfl,rfl⟩:=hk
      rw[hgetr]at hck
      simp only[Option.some.injEq,HB.cells.injEq]at hck;obtain⟨rfl,rfl,rfl⟩:=hck
      exact⟨cs,hc,hreach.symm⟩
     ·rw[hget k e]at hck;exact⟨csk,hck,rfl⟩
    obtain⟨c1,g1,e1⟩:=key r1 b1 o1 x1 cs1 imm1 tip1 hr1 hc1
    obtain⟨c2,g2,e2⟩:=key r2 b2 o2 x2 cs2 imm2 tip2 hr2 hc2
    exact h.apart r1 b1 o1 x1 c1 imm1 tip1 r2 b2 o2 x2 c2 imm2 tip2 hr1 g1 hr2 g2 hne i i' hi (by omega) hi' (by omega)
   map:=fun r1 b1 o1 x1 es hr1 hc1=>by
    by_cases e:r1=r
    ·subst e;rw[hgetr]at hc1;simp at hc1
    ·rw[hget r1 e]at hc1
     obtain⟨ms,clock,h1,h2⟩:=h.map r1 b1 o1 x1 es hr1 hc1
     refine⟨ms,clock,?_,h2⟩
     have hb:b1≠b:=fun eb=>by
      subst eb
      unfold World.cell? at hu
      rw[h1]at hu
      simp at hu
     rw[Below.heap_setCell _ _ _ _ hb];exact h1
   mapApart:=fun r1 b1 o1 x1 es r2 b2 o2 x2 hr1 hc1 hr2 hs hne=>by
    by_cases e:r1=r
    ·subst e;rw[hgetr]at hc1;simp at hc1
    ·rw[hget r1 e]at hc1
     refine h.mapApart r1 b1 o1 x1 es r2 b2 o2 x2 hr1 hc1 hr2 ?_ hne
     by_cases e2:r2=r
     ·subst e2;rw[hc];rfl
     ·rw[hget r2 e2]at hs;exact hs
   frz:=fun b' o' v' hf=>by rw[hother _ _ (hkeep _ _ _ hf)];exact h.frz _ _ _ hf
   val:=h.val
   sym:=h.sym }
 ·exact Below.heap_setCell _ _ _ _ (fun e=>hn r b o x hr e.symm)
theorem zhF {B:Bs}{H:Hp}{w:World}{G:Gh} (P:Program) (h:R B H w G) {r b o x:Nat}{cs:List AV}{imm:Nat}{tip:Bool} (hr:G.β r=some (b,o,x)) (hc:H.get r=some (.cells cs imm tip))
 {j:Nat} (hj:imm≤j) (hjl:j < yK x cs tip) {v:Value} (hone:v.oneCell'=true) :
 (store ⟨b,o+j,none⟩ v).run P w=.ok () (w.setCell ⟨b,o+j,none⟩ v):=by
 obtain⟨⟨u,hu⟩,hfz,_⟩:=h.room r b o x cs imm tip hr hc j hj hjl
 rw[run_store P w _ v _ hone,hu]
 simp[hfz]
theorem zkF (cs:List AV) (off:Nat) (c:AV) (new:List AV) (h:off≤cs.length):splice cs off (c::new)=splice (splice cs off [c]) (off+1) new:=by
 unfold splice
 have h1:(List.take off cs++[c]++List.drop (off+[c].length) cs).take (off+1)=List.take off cs++[c]:=by
  rw[List.take_append_of_le_length (by simp;omega),List.take_of_length_le (by simp;omega)]
 have h2:(List.take off cs++[c]++List.drop (off+[c].length) cs).drop (off+1+new.length)=List.drop (off+(new.length+1)) cs:=by
  rw[List.drop_append,List.drop_of_length_le (by simp;omega)]
  simp only[List.length_append,List.length_take,List.length_cons,List.length_nil,List.drop_drop,List.nil_append]
  congr 1
  omega
 rw[h1,h2]
 simp
theorem zmb (cs:List AV) (off:Nat):splice cs off []=cs:=by simp[splice]
theorem ziX (cs:List AV) (off:Nat) (new:List AV) (h:off+new.length≤cs.length):(splice cs off new).length=cs.length:=by simp[splice];omega
theorem zhG (cs:List AV) (off:Nat) (new:List AV) (h:off≤cs.length):(splice cs off new).length=max cs.length (off+new.length):=by simp[splice];omega
theorem zhH (cs new:List AV):splice cs cs.length new=cs++new:=by simp[splice]
theorem splice_one {cs:List AV}{j:Nat} (c:AV) (hj:j≤cs.length) {i:Nat}{d:AV} (h:(splice cs j [c])[i]?=some d):(i=j∧d=c)∨(i≠j∧cs[i]?=some d):=by
 unfold splice at h
 by_cases hi:i < j
 ·rw[List.append_assoc,List.getElem?_append_left (by simp;omega),List.getElem?_take,if_pos hi]at h
  exact .inr ⟨by omega,h⟩
 ·by_cases e:i=j
  ·subst e
   rw[List.append_assoc,List.getElem?_append_right (by simp;omega)]at h
   have e0:i - (List.take i cs).length=0:=by simp;omega
   rw[e0]at h
   simp at h
   exact .inl ⟨rfl,h.symm⟩
  ·rw[List.getElem?_append_right (by simp;omega)]at h
   rw[List.getElem?_drop]at h
   refine .inr ⟨e,?_⟩
   rw[← h]
   congr 1
   simp
   omega
theorem j0 (b o i:Nat):(⟨b,o,none⟩:Addr).add i=⟨b,o+i,none⟩:=by
 unfold Addr.add
 split
 ·rename_i e;subst e;rfl
 ·rfl
theorem Step.congr {B:Bs}{nx:Nat}{G G':Gh}{w w':World}{H H':Hp} (h:Step B nx G w H w' G') (hn:H'.next=H.next) (hg:∀ r,(G'.β r).isSome→H'.get r=H.get r):Step B nx G w H' w' G':=
 ⟨h.r.congr hn hg,h.ext,h.fr,h.new,h.low,by rw[hn];exact h.mono,h.icy⟩
theorem zdI {B:Bs} (P:Program) {G:Gh}{r b o x:Nat}{imm:Nat}{tip:Bool} (hr:G.β r=some (b,o,x)) (off:Nat):∀ (new:List AV) (vs:List Value) (cs:List AV) (i:Nat) (H:Hp) (w:World),R B H w G →
 H.get r=some (.cells cs imm tip)→VRs G new vs→(∀ v∈vs,v.oneCell'=true)→imm≤off+i→off+i≤cs.length→off+i+new.length≤yK x cs tip→(tip=false→off+i+new.length≤cs.length) →
 ∃ w',(storeCells ⟨b,o+off,none⟩ vs i).run P w=.ok () w'∧Step B H.next G w (H.set r (.cells (splice cs (off+i) new) imm tip)) w' G:=by
 intro new
 induction new with
 | nil=>
   intro vs cs i H w hR hc hv hone hi hoff hlen _
   have hvs:vs=[]:=by have:=hv.1;simpa using this.symm
   subst hvs
   refine⟨w,rfl,(Step.refl hR).congr rfl fun k _=>?_⟩
   rw[Hp.get_set,zmb]
   split
   ·rename_i e;subst e;rw[hc]
   ·rfl
 | cons c new ih=>
   intro vs cs i H w hR hc hv hone hi hoff hlen hlen'
   cases vs with
   | nil=>have:=hv.1;simp at this
   | cons v vs=>
     obtain⟨hv1,hvs⟩:=hv.of_cons
     simp only[List.length_cons]at hlen hlen'
     have hl1:(splice cs (off+i) [c]).length=max cs.length (off+i+1):=zhG _ _ _ hoff
     have hext:=hR.ext r b o x cs imm tip hr hc
     have hst:=zma hR hr hc (j:=off+i) (cs':=splice cs (off+i) [c]) (v:=v) hi (by omega)
      (fun k d hk=>by
        rcases splice_one c hoff hk with ⟨e1,e2⟩|h2
        ·subst e2;exact .inl ⟨e1,hv1⟩
        ·exact .inr h2)
      (by rw[hl1];cases tip with
          | true=>simp only[yK]at *;omega
          | false=>have:=hlen' rfl;simp only[yK]at *;omega)
      (fun ht=>by have:=hlen' ht;rw[hl1];omega)
     have hrun:=zhF P hR hr hc (j:=off+i) hi (by omega) (v:=v) (hone v (by simp))
     have hg1:(H.set r (.cells (splice cs (off+i) [c]) imm tip)).get r=some (.cells (splice cs (off+i) [c]) imm tip):=by rw[Hp.get_set,if_pos rfl]
     have hreach:yK x (splice cs (off+i) [c]) tip=yK x cs tip:=by
      cases tip with
      | true=>rfl
      | false=>have:=hlen' rfl;simp only[yK];omega
     obtain⟨w',hw',hs'⟩:=ih vs (splice cs (off+i) [c]) (i+1) _ _ hst.r hg1 hvs (fun u hu=>hone u (by simp[hu])) (by omega) (by rw[hl1];omega) (by rw[hreach];omega) (fun ht=>by have:=hlen' ht;rw[hl1];omega)
     refine⟨w',?_,(hst.trans hs').congr rfl fun k _=>?_⟩
     ·simp only[storeCells,Sem.run_bind]
      rw[j0,Nat.add_assoc,hrun]
      exact hw'
     ·rw[Hp.get_set,Hp.get_set,Hp.get_set,zkF _ _ _ _ hoff]
      split
      ·rfl
      ·rfl
theorem zgB {B:Bs}{H:Hp}{w:World}{G:Gh} (h:R B H w G) {r b o x:Nat}{cs:List AV}{imm:Nat} (hr:G.β r=some (b,o,x)) (hc:H.get r=some (.cells cs imm true)) {off:Nat} (hoff:off≤cs.length) :
 Step B H.next G w ((H.kill r).alloc (.cells (cs.drop off) (imm - off) true)) w (G.add H.next (b,o+off,x - off)):=by
 have hno:∀ q,G.β H.next=some q→False:=fun q hq=>by have:=h.dom _ _ hq;omega
 have hext:Ext G (G.add H.next (b,o+off,x - off)):=zeS hno
 have hrn:r≠H.next:=fun e=>by subst e;exact hno _ hr
 have hβ:∀ k p,(G.add H.next (b,o+off,x - off)).β k=some p→(k=H.next∧p=(b,o+off,x - off))∨(k≠H.next∧G.β k=some p):=fun k p hk=>by
  simp only[Gh.add]at hk
  split at hk
  ·rename_i e;exact .inl ⟨e,by simpa using hk.symm⟩
  ·rename_i e;exact .inr ⟨e,hk⟩
 have hget:∀ k q,k≠H.next→((H.kill r).alloc (.cells (cs.drop off) (imm - off) true)).get k=some q→k≠r∧H.get k=some q:=fun k q hk hq=>by
  rw[za,zY,if_neg hk,zR]at hq
  split at hq
  ·simp at hq
  ·rename_i e;exact⟨e,hq⟩
 have hgetn:((H.kill r).alloc (.cells (cs.drop off) (imm - off) true)).get H.next=some (.cells (cs.drop off) (imm - off) true):=by rw[za,zY,if_pos rfl]
 have hlen:=h.ext r b o x cs imm true hr hc
 simp only[yK]at hlen
 refine⟨?_,hext,Fr.refl _ _,fun k b' o' x' hk=>?_,fun k p hk=>(hβ k p hk).elim (fun e=>.inr (by rw[e.1];exact Nat.le_refl _)) (fun e=>.inl e.2),by simp,fun _ _ _ h=>.inl h⟩
 ·exact {
   base:=h.base
   dom:=fun k p hk=>by
    rcases hβ k p hk with ⟨rfl,_⟩|⟨_,hk'⟩
    ·simp
    ·have:=h.dom k p hk';simp;omega
   lt:=fun k b' o' x' hk=>by
    rcases hβ k _ hk with ⟨rfl,hp⟩|⟨_,hk'⟩
    ·simp only[Prod.mk.injEq]at hp;obtain⟨rfl,rfl,rfl⟩:=hp
     exact h.lt r _ _ _ hr
    ·exact h.lt k b' o' x' hk'
   cells:=fun k b' o' x' cs' imm' tip' hk hck=>by
    rcases hβ k _ hk with ⟨rfl,hp⟩|⟨hne,hk'⟩
    ·simp only[Prod.mk.injEq]at hp;obtain⟨rfl,rfl,rfl⟩:=hp
     rw[hgetn]at hck
     simp only[Option.some.injEq,HB.cells.injEq]at hck;obtain⟨rfl,rfl,rfl⟩:=hck
     intro j c hj
     rw[List.getElem?_drop]at hj
     obtain⟨v,h1,h2⟩:=h.cells r _ _ _ _ _ _ hr hc (off+j) c hj
     exact⟨v,by rw[Nat.add_assoc];exact h1,h2.mono hext⟩
    ·obtain⟨_,hck'⟩:=hget k _ hne hck
     exact(h.cells k b' o' x' cs' imm' tip' hk' hck').mono hext
   imm:=fun k b' o' x' cs' imm' tip' hk hck j hj hjl=>by
    rcases hβ k _ hk with ⟨rfl,hp⟩|⟨hne,hk'⟩
    ·simp only[Prod.mk.injEq]at hp;obtain⟨rfl,rfl,rfl⟩:=hp
     rw[hgetn]at hck
     simp only[Option.some.injEq,HB.cells.injEq]at hck;obtain⟨rfl,rfl,rfl⟩:=hck
     rw[List.length_drop]at hjl
     rw[Nat.add_assoc]
     exact h.imm r _ _ _ _ _ _ hr hc (off+j) (by omega) (by omega)
    ·obtain⟨_,hck'⟩:=hget k _ hne hck
     exact h.imm k b' o' x' cs' imm' tip' hk' hck' j hj hjl
   ext:=fun k b' o' x' cs' imm' tip' hk hck=>by
    rcases hβ k _ hk with ⟨rfl,hp⟩|⟨hne,hk'⟩
    ·simp only[Prod.mk.injEq]at hp;obtain⟨rfl,rfl,rfl⟩:=hp
     rw[hgetn]at hck
     simp only[Option.some.injEq,HB.cells.injEq]at hck;obtain⟨rfl,rfl,rfl⟩:=hck
     simp only[yK,List.length_drop];omega
    ·obtain⟨_,hck'⟩:=hget k _ hne hck
     exact h.ext k b' o' x' cs' imm' tip' hk' hck'
   fits:=fun k b' o' x' cs' imm' tip' hk hck=>by
    rcases hβ k _ hk with ⟨rfl,hp⟩|⟨hne,hk'⟩
    ·simp only[Prod.mk.injEq]at hp;obtain⟨rfl,rfl,rfl⟩:=hp
     rw[hgetn]at hck
     simp only[Option.some.injEq,HB.cells.injEq]at hck;obtain⟨rfl,rfl,rfl⟩:=hck
     simp only[List.length_drop];omega
    ·obtain⟨_,hck'⟩:=hget k _ hne hck
     exact h.fits k b' o' x' cs' imm' tip' hk' hck'
   room:=fun k b' o' x' cs' imm' tip' hk hck j hj hjl=>by
    rcases hβ k _ hk with ⟨rfl,hp⟩|⟨hne,hk'⟩
    ·simp only[Prod.mk.injEq]at hp;obtain⟨rfl,rfl,rfl⟩:=hp
     rw[hgetn]at hck
     simp only[Option.some.injEq,HB.cells.injEq]at hck;obtain⟨rfl,rfl,rfl⟩:=hck
     simp only[yK]at hjl
     rw[Nat.add_assoc]
     exact h.room r _ _ _ _ _ _ hr hc (off+j) (by omega) (by simp only[yK];omega)
    ·obtain⟨_,hck'⟩:=hget k _ hne hck
     exact h.room k b' o' x' cs' imm' tip' hk' hck' j hj hjl
   apart:=fun k1 b1 o1 x1 cs1 imm1 tip1 k2 b2 o2 x2 cs2 imm2 tip2 hk1 hc1 hk2 hc2 hne j1 j2 hj1 hl1 hj2 hl2 he=>by
    rcases hβ k1 _ hk1 with ⟨rfl,hp⟩|⟨hn1,hk1'⟩
    ·simp only[Prod.mk.injEq]at hp;obtain⟨rfl,rfl,rfl⟩:=hp
     rw[hgetn]at hc1
     simp only[Option.some.injEq,HB.cells.injEq]at hc1;obtain⟨rfl,rfl,rfl⟩:=hc1
     simp only[yK]at hl1
     rcases hβ k2 _ hk2 with ⟨rfl,hp⟩|⟨hn2,hk2'⟩
     ·exact(hne rfl).elim
     ·obtain⟨hr2,hc2'⟩:=hget k2 _ hn2 hc2
      rw[Nat.add_assoc]
      exact h.apart r _ _ _ _ _ _ k2 b2 o2 x2 cs2 imm2 tip2 hr hc hk2' hc2' (Ne.symm hr2) (off+j1) j2 (by omega) (by simp only[yK];omega) hj2 hl2 he
    ·obtain⟨hr1,hc1'⟩:=hget k1 _ hn1 hc1
     rcases hβ k2 _ hk2 with ⟨rfl,hp⟩|⟨hn2,hk2'⟩
     ·simp only[Prod.mk.injEq]at hp;obtain⟨rfl,rfl,rfl⟩:=hp
      rw[hgetn]at hc2
      simp only[Option.some.injEq,HB.cells.injEq]at hc2;obtain⟨rfl,rfl,rfl⟩:=hc2
      simp only[yK]at hl2
      rw[Nat.add_assoc]
      exact h.apart k1 b1 o1 x1 cs1 imm1 tip1 r _ _ _ _ _ _ hk1' hc1' hr hc hr1 j1 (off+j2) hj1 hl1 (by omega) (by simp only[yK];omega) he
     ·obtain⟨hr2,hc2'⟩:=hget k2 _ hn2 hc2
      exact h.apart k1 b1 o1 x1 cs1 imm1 tip1 k2 b2 o2 x2 cs2 imm2 tip2 hk1' hc1' hk2' hc2' hne j1 j2 hj1 hl1 hj2 hl2 he
   map:=fun k b' o' x' es hk hck=>by
    rcases hβ k _ hk with ⟨rfl,hp⟩|⟨hne,hk'⟩
    ·rw[hgetn]at hck;simp at hck
    ·obtain⟨_,hck'⟩:=hget k _ hne hck
     obtain⟨ms,clock,h1,h2⟩:=h.map k b' o' x' es hk' hck'
     exact⟨ms,clock,h1,h2.mono hext⟩
   mapApart:=fun k1 b1 o1 x1 es k2 b2 o2 x2 hk1 hc1 hk2 hs hne=>by
    rcases hβ k1 _ hk1 with ⟨rfl,hp⟩|⟨hn1,hk1'⟩
    ·rw[hgetn]at hc1;simp at hc1
    ·obtain⟨hr1,hc1'⟩:=hget k1 _ hn1 hc1
     rcases hβ k2 _ hk2 with ⟨rfl,hp⟩|⟨hn2,hk2'⟩
     ·simp only[Prod.mk.injEq]at hp;obtain⟨rfl,rfl,rfl⟩:=hp
      exact h.mapApart k1 b1 o1 x1 es r _ _ _ hk1' hc1' hr (by rw[hc];rfl) hr1
     ·cases hh:((H.kill r).alloc (.cells (cs.drop off) (imm - off) true)).get k2 with
      | none=>simp[hh]at hs
      | some q=>
        obtain⟨_,hq⟩:=hget k2 q hn2 hh
        exact h.mapApart k1 b1 o1 x1 es k2 b2 o2 x2 hk1' hc1' hk2' (by rw[hq];rfl) hne
   frz:=h.frz
   val:=h.val
   sym:=h.sym }
 ·rcases hβ k _ hk with ⟨rfl,hp⟩|⟨_,hk'⟩
  ·simp only[Prod.mk.injEq]at hp;obtain⟨rfl,rfl,rfl⟩:=hp
   exact .inr (.inr ⟨r,o,x,hr⟩)
  ·exact .inl hk'
def Gh.ice (G:Gh) (w:World) (b o n:Nat):Gh:={ β:=G.β,F:=fun b' o'=>match G.F b' o' with
 | some v=>some v
 | none=>if b'=b∧o≤o'∧o' < o+n then w.cell? ⟨b',o',none⟩else none,ρ:=G.ρ }
theorem zmc (G:Gh) (w:World) (b o n:Nat):Ext G (G.ice w b o n):=⟨fun _ _ h=>h,fun b' o' v h=>by simp[Gh.ice,h],rfl⟩
theorem zdJ {B:Bs}{H:Hp}{w:World}{G:Gh} (h:R B H w G) {r b o x:Nat}{cs:List AV}{imm:Nat}{tip:Bool} (hr:G.β r=some (b,o,x)) (hc:H.get r=some (.cells cs imm tip)) {n:Nat} (himm:imm≤n) (hn:n≤cs.length) (tip':Bool) (ht:tip'=true→tip=true) :
 Step B H.next G w (H.set r (.cells cs n tip')) w (G.ice w b o n):=by
 have hext:Ext G (G.ice w b o n):=zmc _ _ _ _ _
 have hget:∀ k,k≠r→(H.set r (.cells cs n tip')).get k=H.get k:=fun k hk=>by rw[Hp.get_set,if_neg hk]
 have hgetr:(H.set r (.cells cs n tip')).get r=some (.cells cs n tip'):=by rw[Hp.get_set,if_pos rfl]
 have hex:=h.ext r b o x cs imm tip hr hc
 have hreach:∀ j,n≤j→j < yK x cs tip'→j < yK x cs tip:=fun j hj hjl=>by
  cases tip' with
  | true=>rw[ht rfl];exact hjl
  | false=>simp only[yK]at hjl;omega
 have hF:∀ b' o' v,(G.ice w b o n).F b' o'=some v→w.cell? ⟨b',o',none⟩=some v:=fun b' o' v hf=>by
  simp only[Gh.ice]at hf
  split at hf
  ·rename_i u hu;simp only[Option.some.injEq]at hf;subst hf;exact h.frz _ _ _ hu
  ·split at hf
   ·exact hf
   ·simp at hf
 have hFin:∀ j,j < n→∃ v,(G.ice w b o n).F b (o+j)=some v:=fun j hj=>by
  obtain⟨v,h1,_⟩:=h.cells r b o x cs imm tip hr hc j _ (List.getElem?_eq_getElem (by omega))
  simp only[Gh.ice]
  split
  ·rename_i u _;exact⟨u,rfl⟩
  ·rw[if_pos ⟨by trivial,by omega,by omega⟩];exact⟨v,h1⟩
 have hFout:∀ b' o',G.F b' o'=none→(b'=b→o' < o∨o+n≤o')→(G.ice w b o n).F b' o'=none:=fun b' o' hf hne=>by
  simp only[Gh.ice,hf]
  rw[if_neg]
  rintro⟨e1,e2,e3⟩
  have:=hne e1
  omega
 refine⟨?_,hext,Fr.refl _ _,New.refl _ _,fun _ _ h=>.inl h,Nat.le_refl _,fun b' o' v' hv=>?_⟩
 rotate_left
 ·simp only[Gh.ice]at hv
  split at hv
  ·rename_i v'' hF'
   exact .inl (by rw[hF'];exact hv)
  ·split at hv
   ·rename_i hc'
    exact .inr (by rw[hc'.1];exact(h.lt r b o x hr).1)
   ·simp at hv
 exact {
  base:=h.base
  dom:=h.dom
  lt:=h.lt
  cells:=fun k b' o' x' cs' imm' tip1 hk hck=>by
   by_cases e:k=r
   ·subst e
    have hk':G.β k=some (b',o',x'):=hk
    rw[hr]at hk'
    simp only[Option.some.injEq,Prod.mk.injEq]at hk';obtain⟨rfl,rfl,rfl⟩:=hk'
    rw[hgetr]at hck
    simp only[Option.some.injEq,HB.cells.injEq]at hck;obtain⟨rfl,rfl,rfl⟩:=hck
    exact(h.cells k _ _ _ _ _ _ hr hc).mono hext
   ·rw[hget k e]at hck
    exact(h.cells k b' o' x' cs' imm' tip1 hk hck).mono hext
  imm:=fun k b' o' x' cs' imm' tip1 hk hck j hj hjl=>by
   by_cases e:k=r
   ·subst e
    have hk':G.β k=some (b',o',x'):=hk
    rw[hr]at hk'
    simp only[Option.some.injEq,Prod.mk.injEq]at hk';obtain⟨rfl,rfl,rfl⟩:=hk'
    rw[hgetr]at hck
    simp only[Option.some.injEq,HB.cells.injEq]at hck;obtain⟨rfl,rfl,rfl⟩:=hck
    exact hFin j hj
   ·rw[hget k e]at hck
    obtain⟨v,hv⟩:=h.imm k b' o' x' cs' imm' tip1 hk hck j hj hjl
    exact⟨v,hext.F _ _ _ hv⟩
  ext:=fun k b' o' x' cs' imm' tip1 hk hck=>by
   by_cases e:k=r
   ·subst e
    have hk':G.β k=some (b',o',x'):=hk
    rw[hr]at hk'
    simp only[Option.some.injEq,Prod.mk.injEq]at hk';obtain⟨rfl,rfl,rfl⟩:=hk'
    rw[hgetr]at hck
    simp only[Option.some.injEq,HB.cells.injEq]at hck;obtain⟨rfl,rfl,rfl⟩:=hck
    cases tip' with
    | true=>rw[ht rfl]at hex;exact hex
    | false=>exact Nat.le_refl _
   ·rw[hget k e]at hck
    exact h.ext k b' o' x' cs' imm' tip1 hk hck
  fits:=fun k b' o' x' cs' imm' tip1 hk hck=>by
   by_cases e:k=r
   ·subst e
    have hk':G.β k=some (b',o',x'):=hk
    rw[hr]at hk'
    simp only[Option.some.injEq,Prod.mk.injEq]at hk';obtain⟨rfl,rfl,rfl⟩:=hk'
    rw[hgetr]at hck
    simp only[Option.some.injEq,HB.cells.injEq]at hck;obtain⟨rfl,rfl,rfl⟩:=hck
    exact h.fits _ _ _ _ _ _ _ hr hc
   ·rw[hget k e]at hck
    exact h.fits k b' o' x' cs' imm' tip1 hk hck
  room:=fun k b' o' x' cs' imm' tip1 hk hck j hj hjl=>by
   by_cases e:k=r
   ·subst e
    have hk':G.β k=some (b',o',x'):=hk
    rw[hr]at hk'
    simp only[Option.some.injEq,Prod.mk.injEq]at hk';obtain⟨rfl,rfl,rfl⟩:=hk'
    rw[hgetr]at hck
    simp only[Option.some.injEq,HB.cells.injEq]at hck;obtain⟨rfl,rfl,rfl⟩:=hck
    have h1:=hreach j hj hjl
    obtain⟨g1,g2,g3⟩:=h.room k _ _ _ _ _ _ hr hc j (by omega) h1
    exact⟨g1,g2,hFout _ _ g3 (fun _=>by omega)⟩
   ·rw[hget k e]at hck
    obtain⟨g1,g2,g3⟩:=h.room k b' o' x' cs' imm' tip1 hk hck j hj hjl
    refine⟨g1,g2,hFout _ _ g3 (fun eb=>?_)⟩
    by_cases hin:o≤o'+j∧o'+j < o+n
    ·exfalso
     have hj0:o'+j - o < cs.length:=by omega
     have hj1:o'+j - o < yK x cs tip:=by omega
     by_cases hi:imm≤o'+j - o
     ·exact h.apart k b' o' x' cs' imm' tip1 r b o x cs imm tip hk hck hr hc e j (o'+j - o) hj hjl hi hj1 eb (by omega)
     ·obtain⟨v,hv⟩:=h.imm r b o x cs imm tip hr hc (o'+j - o) (by omega) hj0
      rw[show o+(o'+j - o)=o'+j by omega,← eb,g3]at hv
      simp at hv
    ·omega
  apart:=fun k1 b1 o1 x1 cs1 imm1 tip1 k2 b2 o2 x2 cs2 imm2 tip2 hk1 hc1 hk2 hc2 hne j1 j2 hj1 hl1 hj2 hl2 he=>by
   have key:∀ k bk ok xk csk immk tipk j,G.β k=some (bk,ok,xk)→(H.set r (.cells cs n tip')).get k=some (.cells csk immk tipk)→immk≤j→j < yK xk csk tipk →
    ∃ cs0 imm0 tip0,H.get k=some (.cells cs0 imm0 tip0)∧imm0≤j∧j < yK xk cs0 tip0:=fun k bk ok xk csk immk tipk j hk hck hj hjl=>by
    by_cases e:k=r
    ·subst e
     have hk':G.β k=some (bk,ok,xk):=hk
     rw[hr]at hk'
     simp only[Option.some.injEq,Prod.mk.injEq]at hk';obtain⟨rfl,rfl,rfl⟩:=hk'
     rw[hgetr]at hck
     simp only[Option.some.injEq,HB.cells.injEq]at hck;obtain⟨rfl,rfl,rfl⟩:=hck
     exact⟨cs,imm,tip,hc,by omega,hreach j hj hjl⟩
    ·rw[hget k e]at hck
     exact⟨csk,immk,tipk,hck,hj,hjl⟩
   obtain⟨c1,i1,t1,g1,a1,l1⟩:=key k1 b1 o1 x1 cs1 imm1 tip1 j1 hk1 hc1 hj1 hl1
   obtain⟨c2,i2,t2,g2,a2,l2⟩:=key k2 b2 o2 x2 cs2 imm2 tip2 j2 hk2 hc2 hj2 hl2
   exact h.apart k1 b1 o1 x1 c1 i1 t1 k2 b2 o2 x2 c2 i2 t2 hk1 g1 hk2 g2 hne j1 j2 a1 l1 a2 l2 he
  map:=fun k b' o' x' es hk hck=>by
   by_cases e:k=r
   ·subst e;rw[hgetr]at hck;simp at hck
   ·rw[hget k e]at hck
    obtain⟨ms,clock,h1,h2⟩:=h.map k b' o' x' es hk hck
    exact⟨ms,clock,h1,h2.mono hext⟩
  mapApart:=fun k1 b1 o1 x1 es k2 b2 o2 x2 hk1 hc1 hk2 hs hne=>by
   by_cases e:k1=r
   ·subst e;rw[hgetr]at hc1;simp at hc1
   ·rw[hget k1 e]at hc1
    refine h.mapApart k1 b1 o1 x1 es k2 b2 o2 x2 hk1 hc1 hk2 ?_ hne
    by_cases e2:k2=r
    ·subst e2;rw[hc];rfl
    ·rw[hget k2 e2]at hs;exact hs
  frz:=hF
  val:=h.val
  sym:=h.sym }
theorem zkG {B:Bs}{H:Hp}{w:World}{G:Gh} (h:R B H w G) {r b o x:Nat}{cs:List AV} (hr:G.β r=some (b,o,x)) (hx:cs.length≤x) (hc:zb3 G w b o cs) (hF:∀ j,j < cs.length→∃ v,G.F b (o+j)=some v)
 (hmap:∀ r1 b1 o1 x1 es,G.β r1=some (b1,o1,x1)→H.get r1=some (.map es)→b1≠b) :
 Step B H.next G w (H.set r (.cells cs cs.length false)) w G:=by
 have hget:∀ k,k≠r→(H.set r (.cells cs cs.length false)).get k=H.get k:=fun k hk=>by rw[Hp.get_set,if_neg hk]
 have hgetr:(H.set r (.cells cs cs.length false)).get r=some (.cells cs cs.length false):=by rw[Hp.get_set,if_pos rfl]
 have hβ:∀ k b' o' x',k=r→G.β k=some (b',o',x')→b'=b∧o'=o∧x'=x:=fun k b' o' x' e hk=>by
  subst e;rw[hr]at hk;simp only[Option.some.injEq,Prod.mk.injEq]at hk;exact⟨hk.1.symm,hk.2.1.symm,hk.2.2.symm⟩
 have hcs:∀ cs' imm' tip',(H.set r (.cells cs cs.length false)).get r=some (.cells cs' imm' tip')→cs'=cs∧imm'=cs.length∧tip'=false:=fun cs' imm' tip' hk=>by
  rw[hgetr]at hk;simp only[Option.some.injEq,HB.cells.injEq]at hk;exact⟨hk.1.symm,hk.2.1.symm,hk.2.2.symm⟩
 refine⟨?_,Ext.refl _,Fr.refl _ _,New.refl _ _,fun _ _ h=>.inl h,Nat.le_refl _,fun _ _ _ h=>.inl h⟩
 exact {
  base:=h.base
  dom:=h.dom
  lt:=h.lt
  cells:=fun k b' o' x' cs' imm' tip' hk hck=>by
   by_cases e:k=r
   ·obtain⟨rfl,rfl,rfl⟩:=hβ k _ _ _ e hk
    subst e
    obtain⟨rfl,rfl,rfl⟩:=hcs _ _ _ hck
    exact hc
   ·rw[hget k e]at hck;exact h.cells k b' o' x' cs' imm' tip' hk hck
  imm:=fun k b' o' x' cs' imm' tip' hk hck j hj hjl=>by
   by_cases e:k=r
   ·obtain⟨rfl,rfl,rfl⟩:=hβ k _ _ _ e hk
    subst e
    obtain⟨rfl,rfl,rfl⟩:=hcs _ _ _ hck
    exact hF j hjl
   ·rw[hget k e]at hck;exact h.imm k b' o' x' cs' imm' tip' hk hck j hj hjl
  ext:=fun k b' o' x' cs' imm' tip' hk hck=>by
   by_cases e:k=r
   ·subst e
    obtain⟨rfl,rfl,rfl⟩:=hcs _ _ _ hck
    exact Nat.le_refl _
   ·rw[hget k e]at hck;exact h.ext k b' o' x' cs' imm' tip' hk hck
  fits:=fun k b' o' x' cs' imm' tip' hk hck=>by
   by_cases e:k=r
   ·subst e
    obtain⟨rfl,rfl,rfl⟩:=hcs _ _ _ hck
    obtain⟨_,_,rfl⟩:=hβ _ _ _ _ rfl hk
    exact hx
   ·rw[hget k e]at hck;exact h.fits k b' o' x' cs' imm' tip' hk hck
  room:=fun k b' o' x' cs' imm' tip' hk hck j hj hjl=>by
   by_cases e:k=r
   ·subst e
    obtain⟨rfl,rfl,rfl⟩:=hcs _ _ _ hck
    simp only[yK]at hjl;omega
   ·rw[hget k e]at hck;exact h.room k b' o' x' cs' imm' tip' hk hck j hj hjl
  apart:=fun k1 b1 o1 x1 cs1 imm1 tip1 k2 b2 o2 x2 cs2 imm2 tip2 hk1 hc1 hk2 hc2 hne j1 j2 hj1 hl1 hj2 hl2 he=>by
   by_cases e1:k1=r
   ·subst e1
    obtain⟨rfl,rfl,rfl⟩:=hcs _ _ _ hc1
    simp only[yK]at hl1;omega
   ·by_cases e2:k2=r
    ·subst e2
     obtain⟨rfl,rfl,rfl⟩:=hcs _ _ _ hc2
     simp only[yK]at hl2;omega
    ·rw[hget k1 e1]at hc1;rw[hget k2 e2]at hc2
     exact h.apart k1 b1 o1 x1 cs1 imm1 tip1 k2 b2 o2 x2 cs2 imm2 tip2 hk1 hc1 hk2 hc2 hne j1 j2 hj1 hl1 hj2 hl2 he
  map:=fun k b' o' x' es hk hck=>by
   by_cases e:k=r
   ·subst e;rw[hgetr]at hck;simp at hck
   ·rw[hget k e]at hck;exact h.map k b' o' x' es hk hck
  mapApart:=fun k1 b1 o1 x1 es k2 b2 o2 x2 hk1 hc1 hk2 hs hne=>by
   by_cases e:k1=r
   ·subst e;rw[hgetr]at hc1;simp at hc1
   ·rw[hget k1 e]at hc1
    by_cases e2:k2=r
    ·obtain⟨rfl,rfl,rfl⟩:=hβ k2 _ _ _ e2 hk2
     exact hmap k1 b1 o1 x1 es hk1 hc1
    ·rw[hget k2 e2]at hs
     exact h.mapApart k1 b1 o1 x1 es k2 b2 o2 x2 hk1 hc1 hk2 hs hne
  frz:=h.frz
  val:=h.val
  sym:=h.sym }
def Sim (P:Program) (B:Bs) (H:Hp) (G:Gh) (w:World) (s:Sem Next) (c:AV) (H':Hp):Prop:=
 ∃ n w' G' v,s.run P w=.ok n w'∧(n=.value v∨(n=.skip∧v=undef))∧VR G' c v∧Step B H.next G w H' w' G'
theorem zkH {G:Gh}{v:Value}{c:AV} (h:vToS v=some c):VR G c v:=by
 unfold vToS at h
 split at h<;>simp only[Option.some.injEq,reduceCtorEq]at h<;>subst h<;>constructor
 rfl
theorem zkI {G:Gh}:∀ {vs:List Value}{cs:List AV},vs.mapM vToS=some cs→VRs G cs vs
 | [],cs,h=>by simp at h;subst h;exact VRs.nil G
 | v::vs,cs,h=>by
   rw[List.mapM_cons]at h
   simp only[Option.bind_eq_bind,Option.bind_eq_some_iff,Option.pure_def,Option.some.injEq]at h
   obtain⟨c,hc,cs',hcs,rfl⟩:=h
   exact VRs.cons (zkH hc) (zkI hcs)
theorem zcQ {G:Gh}{v:Value}{c:AV} (h:vToA v=some c):VR G c v:=by
 unfold vToA at h
 split at h
 ·rename_i cs
  simp only[Option.map_eq_some_iff]at h
  obtain⟨l,hl,rfl⟩:=h
  have:=zkI (G:=G) hl
  exact .agg (vs:=cs.toList) this.1 this.2
 ·exact zkH h
theorem zb3.list {G:Gh}{w:World}{b:Nat}:∀ {cs:List AV}{o:Nat},zb3 G w b o cs→∃ vs,VRs G cs vs∧∀ (j:Nat) v,vs[j]?=some v→w.cell? ⟨b,o+j,none⟩=some v
 | [],o,_=>⟨[],VRs.nil G,by simp⟩
 | c::cs,o,h=>by
   obtain⟨v,h1,h2⟩:=h 0 c rfl
   obtain⟨vs,k1,k2⟩:=zb3.list (cs:=cs) (o:=o+1) (fun j d hj=>by
    obtain⟨u,g1,g2⟩:=h (j+1) d (by simpa using hj)
    exact⟨u,by rw[show o+1+j=o+(j+1) by omega];exact g1,g2⟩)
   refine⟨v::vs,VRs.cons h2 k1,fun j u hj=>?_⟩
   cases j with
   | zero=>simp at hj;subst hj;exact h1
   | succ j=>rw[show o+(j+1)=o+1+j by omega];exact k2 j u (by simpa using hj)
theorem zb3.drop {G:Gh}{w:World}{b o:Nat}{cs:List AV} (h:zb3 G w b o cs) (n:Nat):zb3 G w b (o+n) (cs.drop n):=fun j c hj=>by
 rw[List.getElem?_drop]at hj
 rw[Nat.add_assoc];exact h (n+j) c hj
theorem zb3.take {G:Gh}{w:World}{b o:Nat}{cs:List AV} (h:zb3 G w b o cs) (n:Nat):zb3 G w b o (cs.take n):=fun j c hj=>by
 rw[List.getElem?_take]at hj
 split at hj
 ·exact h j c hj
 ·simp at hj
section
variable {P:Program} {w:World} {t:TypeId}
theorem zU {d:TypeDesc} (h:P.underlying t=some d):(underlying t).run P w=.ok d w:=by simp[underlying,h]
theorem zcR {i:TypeInfo} (h:P.info? t=some i):(typeInfo t).run P w=.ok i w:=by simp[typeInfo,h]
theorem zhI {s:Nat} (h:zG P t=some s):∃ i,P.info? t=some i∧i.size=s:=by simpa [zG,Option.map_eq_some_iff]using h
theorem jp {s:Nat} (h:zG P t=some s):(sizeOf t).run P w=.ok s w:=by
 obtain⟨i,h1,h2⟩:=zhI h
 simp[sizeOf,zcR h1,h2]
theorem zhJ {c:AV} (h:zff P t=some c):∃ i v,P.info? t=some i∧i.zero=some v∧vToA v=some c:=by
 unfold zff at h
 split at h
 ·rename_i x d s sz by' hp al fa z' cm ms he
  exact⟨_,z',he,rfl,h⟩
 ·simp at h
theorem zov {c:AV} (h:zff P t=some c):∃ v,(∀ w,(zeroValue t).run P w=.ok v w)∧∀ G,VR G c v:=by
 obtain⟨i,v,h1,h2,h3⟩:=zhJ h
 exact⟨v,fun w=>by simp[zeroValue,zcR h1,h2],fun G=>zcQ h3⟩
theorem zeT {z:List AV} (h:yl P t=some z):∃ i v c,P.info? t=some i∧i.zero=some v∧vToA v=some c∧c.cells=z:=by
 unfold yl at h
 split at h
 ·rename_i c hc
  simp only[Option.some.injEq]at h
  obtain⟨i,v,h1,h2,h3⟩:=zhJ hc
  exact⟨i,v,c,h1,h2,h3,h⟩
 ·simp at h
theorem zcS {z:List AV} (h:yl P t=some z):∃ v,(∀ w,(zeroValue t).run P w=.ok v w)∧∀ G,VRs G z v.cells.toList:=by
 obtain⟨i,v,c,h1,h2,h3,rfl⟩:=zeT h
 exact⟨v,fun w=>by simp[zeroValue,zcR h1,h2],fun G=>(zcQ h3).cells⟩
def zmd:TypeDesc→Bool
 | .struct _|.array _ _=>true
 | _=>false
theorem zee {d:TypeDesc} (h:P.underlying t=some d):(isAgg t).run P w=.ok (zmd d) w:=by
 simp only[isAgg,Sem.run_bind,zU h,Result.andThen_ok]
 cases d<;>rfl
theorem zgC {cs:List AV}{off:Nat}{c:AV} (h:zy P t cs off=some c) :
 (∃ d s,P.underlying t=some d∧zmd d=true∧zG P t=some s∧((cs.drop off).take s).length=s∧c=.agg ((cs.drop off).take s)) ∨
 (∃ d,P.underlying t=some d∧zmd d=false∧cs[off]?=some c):=by
 unfold zy at h
 split at h
 ·rename_i f hd
  split at h
  ·rename_i s hs
   simp only[]at h
   split at h
   ·rename_i hl
    simp only[Option.some.injEq]at h
    exact .inl ⟨_,s,hd,rfl,hs,hl,h.symm⟩
   ·simp at h
  ·simp at h
 ·rename_i n e hd
  split at h
  ·rename_i s hs
   simp only[]at h
   split at h
   ·rename_i hl
    simp only[Option.some.injEq]at h
    exact .inl ⟨_,s,hd,rfl,hs,hl,h.symm⟩
   ·simp at h
  ·simp at h
 ·rename_i d h1 h2 hd
  refine .inr ⟨d,hd,?_,h⟩
  cases d<;>first|rfl|exact(h1 _ rfl).elim|exact(h2 _ _ rfl).elim
 ·simp at h
theorem zgD {G:Gh}{b o off:Nat}{cs:List AV}{c:AV} (hh:zb3 G w b o cs) (h:zy P t cs off=some c) :
 ∃ v,(loadVar t ⟨b,o+off,none⟩).run P w=.ok v w∧VR G c v:=by
 rcases zgC h with ⟨d,s,hd,ha,hs,hl,rfl⟩|⟨d,hd,ha,hc⟩
 ·obtain⟨vs,h1,h2⟩:=((hh.drop off).take s).list
  refine⟨.agg vs.toArray,?_,.agg h1.1 h1.2⟩
  simp only[loadVar,Sem.run_bind,zee hd,ha,Result.andThen_ok,if_true,jp hs]
  have hlen:vs.length=s:=by rw[← h1.1];exact hl
  rw[← hlen,run_loadCells_list _ _ vs (fun j v hj=>by rw[j0];exact h2 j v hj)]
  rfl
 ·obtain⟨v,h1,h2⟩:=hh off c hc
  refine⟨v,?_,h2⟩
  simp[loadVar,zee hd,ha,h1]
theorem zfk {G:Gh}{off:Nat}{cs:List AV}{vs:List Value}{c:AV} (hv:VRs G cs vs) (h:zy P t cs off=some c) :
 ∃ v,(part t vs.toArray off).run P w=.ok v w∧VR G c v:=by
 rcases zgC h with ⟨d,s,hd,ha,hs,hl,rfl⟩|⟨d,hd,ha,hc⟩
 ·have h1:=(hv.drop off).take s
  refine⟨.agg ((vs.drop off).take s).toArray,?_,.agg h1.1 h1.2⟩
  simp only[part,Sem.run_bind,zee hd,ha,Result.andThen_ok,if_true,jp hs,Sem.run_pure]
  congr 2
  apply Array.ext'
  simp
 ·have hlt:off < cs.length:=(List.getElem?_eq_some_iff.1 hc).1
  have hlt':off < vs.length:=by have:=hv.1;omega
  refine⟨vs[off],?_,hv.2 off c _ hc (List.getElem?_eq_getElem hlt')⟩
  simp[part,zee hd,ha,hlt']
end
theorem zcT {P:Program}{B:Bs}{G:Gh}{H:Hp}{w:World} (h:R B H w G) {s:Sem Next}{c:AV}{v:Value} (hr:s.run P w=.ok (.value v) w) (hv:VR G c v):Sim P B H G w s c H:=
 ⟨.value v,w,G,v,hr,.inl rfl,hv,Step.refl h⟩
theorem jf {H H':Hp}{x:Option AV}{c:AV} (h:ret H x=some (c,H')):x=some c∧H'=H:=by
 cases x with
 | none=>simp[ret]at h
 | some v=>simp[ret]at h;exact⟨by rw[h.1],h.2.symm⟩
section
variable {P:Program} {B:Bs} {G:Gh} {H H':Hp} {w:World} (h:R B H w G) {c:AV}
include h
theorem zkJ {t:TypeId}{a:AV}{av:Value} (ha:VR G a av) (hl:zaZ P H t a=some c):∃ v,(Instr.loadAt t av).run P w=.ok v w∧VR G c v:=by
 unfold zaZ at hl
 split at hl
 ·rename_i r off
  cases ha with
  | ptr hr=>
    split at hl
    ·rename_i cs imm tip hc
     obtain⟨v,h1,h2⟩:=zgD (h.cells _ _ _ _ _ _ _ hr hc) hl
     exact⟨v,by simpa [Instr.loadAt,Instr.sureAddr]using h1,h2⟩
    ·simp at hl
 ·rename_i cs
  cases ha with
  | iptr vs hF hv=>
    rename_i b o
    have hh:zb3 G w b o cs:=fun j d hj=>⟨vs j,h.frz _ _ _ (hF j (List.getElem?_eq_some_iff.1 hj).1),hv j d hj⟩
    obtain⟨v,h1,h2⟩:=zgD hh hl
    exact⟨v,by simpa [Instr.loadAt,Instr.sureAddr]using h1,h2⟩
 ·simp at hl
theorem zow {t:TypeId}{a x:AV}{av xv:Value} (ha:VR G a av) (hx:VR G x xv) (hs:zbr P H t a x=some H') :
 ∃ w',(Instr.storeAt t av xv).run P w=.ok () w'∧Step B H.next G w H' w' G:=by
 unfold zbr at hs
 split at hs
 ·rename_i r off
  cases ha with
  | ptr hr=>
    rename_i b o ex
    split at hs
    ·rename_i cs imm tip s hc hsz
     split at hs
     ·rename_i hcond
      obtain⟨h1,h2,h3,h4⟩:=hcond
      simp only[Option.some.injEq]at hs
      subst hs
      have hcl:=hx.cells
      have hlen:xv.cells.toList.length=s:=by rw[← hcl.1];exact h1
      have hone:∀ v∈xv.cells.toList,v.oneCell'=true:=fun v hv=>by
       obtain⟨i,hi,rfl⟩:=List.getElem_of_mem hv
       have hi':i < x.cells.length:=by rw[hcl.1];exact hi
       rw[(hcl.2 i _ _ (List.getElem?_eq_getElem hi') (List.getElem?_eq_getElem hi)).oneCell]
       exact List.all_eq_true.1 h4 _ (List.getElem_mem hi')
      have hex:=h.ext r b o ex cs imm tip hr hc
      obtain⟨w',hw,hst⟩:=zdI P hr off x.cells xv.cells.toList cs 0 H w h hc hcl hone (by omega) (by omega) (by omega) (fun _=>by omega)
      refine⟨w',?_,by simpa using hst⟩
      have hsz':xv.cells.size=s:=by simpa using hlen
      simp only[Instr.storeAt,Instr.sureAddr,Sem.run_bind,Sem.run_pure,Result.andThen_ok,storeVar,jp hsz,hsz']
      simpa using hw
     ·simp at hs
    ·simp at hs
 ·simp at hs
end
section
variable {P:Program} {B:Bs} {G:Gh} {H H':Hp} {w:World}
theorem ziY {t:TypeId}{a c:AV}{av:Value}{i:Nat} (ha:VR G a av) (hf:zg P t a i=some c):∃ v,(Instr.fieldAt t av i).run P w=.ok v w∧VR G c v:=by
 unfold zg at hf
 split at hf
 ·rename_i fields hd
  split at hf
  ·rename_i f hfi
   split at hf
   ·rename_i s hs
    have hrun:∀ b o,av=.pointer (some ⟨b,o,none⟩)→(Instr.fieldAt t av i).run P w=.ok (.pointer (some ⟨b,o+f.offset,none⟩)) w:=fun b o e=>by
     subst e
     simp only[Instr.fieldAt,Sem.run_bind,zU hd,Result.andThen_ok]
     simp[hfi,Instr.sureAddr,fieldPlace,jp hs,j0]
    split at hf
    ·rename_i r off
     simp only[Option.some.injEq]at hf;subst hf
     cases ha with
     | ptr hr=>exact⟨_,hrun _ _ rfl,by rw[Nat.add_assoc];exact .ptr hr⟩
    ·rename_i cs
     simp only[Option.some.injEq]at hf;subst hf
     cases ha with
     | iptr vs hF hv=>
       refine⟨_,hrun _ _ rfl,.iptr (fun j=>vs (f.offset+j)) (fun j hj=>?_) (fun j d hj=>?_)⟩
       ·rw[List.length_drop]at hj
        rw[Nat.add_assoc];exact hF _ (by omega)
       ·rw[List.getElem?_drop]at hj;exact hv _ _ hj
    ·simp at hf
   ·simp at hf
  ·simp at hf
 ·simp at hf
theorem zox {t:TypeId}{a c:AV}{av:Value}{i:Nat} (ha:VR G a av) (hf:zN P t a i=some c):∃ v,(Instr.field t av i).run P w=.ok v w∧VR G c v:=by
 unfold zN at hf
 split at hf
 ·rename_i fields cs hd
  cases ha with
  | agg hl hv=>
    rename_i vs
    split at hf
    ·rename_i f hfi
     obtain⟨v,h1,h2⟩:=zfk (P:=P) (w:=w) ⟨hl,hv⟩ hf
     refine⟨v,?_,h2⟩
     simp only[Instr.field,Sem.run_bind,zU hd,Result.andThen_ok]
     simp only[hfi,Sem.run_bind,asAgg,Sem.run_pure,Result.andThen_ok]
     exact h1
    ·simp at hf
 ·simp at hf
theorem ziZ {t:TypeId}{a i c:AV}{av iv:Value} (ha:VR G a av) (hi:VR G i iv) (hf:zq P t a i=some c):∃ v,(Instr.indexAt t av iv).run P w=.ok v w∧VR G c v:=by
 unfold zq at hf
 split at hf
 ·rename_i kk k
  cases hi
  split at hf
  ·rename_i e hd
   split at hf
   ·rename_i s hs
    split at hf
    ·rename_i r off len z
     split at hf
     ·rename_i hk
      simp only[Option.some.injEq]at hf;subst hf
      cases ha with
      | sl hr hl hc=>
        rename_i b o x cap
        refine⟨.pointer (some ⟨b,o+off+k * s,none⟩),?_,by rw[Nat.add_assoc];exact .ptr hr⟩
        simp only[Instr.indexAt,asIntOf,Sem.run_bind,Sem.run_pure,Result.andThen_ok,zU hd]
        have h1:(0:Int)≤Int.ofNat k:=Int.natCast_nonneg k
        have h2:(Int.ofNat k) < (len:Int):=by simpa using hk
        simp[jp hs,hk,j0]
     ·simp at hf
    ·rename_i xs
     split at hf
     ·rename_i row hrow
      split at hf
      ·rename_i hrl
       simp only[Option.some.injEq]at hf;subst hf
       have hk:k < xs.length:=(List.getElem?_eq_some_iff.1 hrow).1
       cases ha with
       | lst vs hz hF hv hc=>
         rename_i b o cap z
         have hzs:s=z:=by rw[← hrl];exact hz k row hrow
         subst hzs
         refine⟨.pointer (some ⟨b,o+k * s,none⟩),?_,.iptr (vs k) (fun j hj=>hF k j hk (by omega)) (fun j d hj=>hv k j row d hrow hj)⟩
         simp only[Instr.indexAt,asIntOf,Sem.run_bind,Sem.run_pure,Result.andThen_ok,zU hd]
         simp[jp hs,hk,j0]
       | lst0 a cap=>simp at hk
      ·simp at hf
     ·simp at hf
    ·simp at hf
   ·simp at hf
  ·rename_i n e hd
   split at hf
   ·rename_i s hs
    split at hf
    ·rename_i r off
     split at hf
     ·rename_i hk
      simp only[Option.some.injEq]at hf;subst hf
      cases ha with
      | ptr hr=>
        rename_i b o x
        refine⟨.pointer (some ⟨b,o+off+k * s,none⟩),?_,by rw[Nat.add_assoc];exact .ptr hr⟩
        simp only[Instr.indexAt,asIntOf,Sem.run_bind,Sem.run_pure,Result.andThen_ok,zU hd]
        simp[jp hs,hk,j0,Instr.sureAddr]
     ·simp at hf
    ·simp at hf
   ·simp at hf
  ·simp at hf
 ·simp at hf
theorem zoy {t:TypeId}{a i c:AV}{av iv:Value} (ha:VR G a av) (hi:VR G i iv) (hf:zbX P t a i=some c):∃ v,(Instr.index t av iv).run P w=.ok v w∧VR G c v:=by
 unfold zbX at hf
 split at hf
 ·rename_i kk k
  cases hi
  split at hf
  ·rename_i s hd
   split at hf
   ·rename_i b hb
    simp only[Option.some.injEq]at hf;subst hf
    cases ha with
    | str sv l hl=>
      subst hl
      refine⟨_,?_,.int .u8 b.toNat⟩
      have hk:k < sv.size:=by
       have:=(List.getElem?_eq_some_iff.1 hb).1
       simpa using this
      have hg:sv[k]?=some b:=by
       rw[ByteArray.getElem?_lt' _ _ hk]
       have:=(List.getElem?_eq_some_iff.1 hb).2
       simp at this
       rw[← this];rfl
      simp only[Instr.index,asIntOf,Sem.run_bind,Sem.run_pure,Result.andThen_ok,zU hd]
      simp[hg]
   ·simp at hf
  ·rename_i n e cs hd
   split at hf
   ·rename_i hk
    split at hf
    ·rename_i s hs
     cases ha with
     | agg hl hv=>
       rename_i vs
       obtain⟨v,h1,h2⟩:=zfk (P:=P) (w:=w) ⟨hl,hv⟩ hf
       refine⟨v,?_,h2⟩
       simp only[Instr.index,asIntOf,Sem.run_bind,Sem.run_pure,Result.andThen_ok,zU hd]
       simp[jp hs,hk,h1]
    ·simp at hf
   ·simp at hf
  ·simp at hf
 ·simp at hf
theorem zkK {a c:AV}{av:Value}{i:Nat} (ha:VR G a av) (hf:extract a i=some c):∃ v,(Instr.extract av i).run P w=.ok v w∧VR G c v:=by
 unfold extract at hf
 split at hf
 ·rename_i cs
  cases ha with
  | tup hl hv=>
    rename_i vs
    have hi:i < cs.length:=(List.getElem?_eq_some_iff.1 hf).1
    have hi':i < vs.length:=by omega
    exact⟨vs[i],by simp[Instr.extract,hi'],hv i c _ hf (List.getElem?_eq_getElem hi')⟩
 ·simp at hf
theorem zfZ {op:BinOp}{k:IntKind}{a b:Int}{c:AV} (hop:op≠.shl∧op≠.shr) (h:yV op k a b=some c) (xt:TypeId):∃ v,(binOp op xt (.int k a) (.int k b)).run P w=.ok v w∧VR G c v:=by
 cases op<;>simp only[yV,Option.some.injEq,reduceCtorEq]at h<;>first
  | (subst h;exact⟨_,by simp[binOp,Op.intArith,Op.intBits,Op.intCmp];rfl,by constructor⟩)
  | (subst h;exact⟨.int k (k.wrap (BitVec.ofInt k.bits a &&& ~~~ BitVec.ofInt k.bits b).toNat),by simp[binOp,Op.intBits],by constructor⟩)
  | (split at h
     ·simp at h
     ·rename_i hb
      simp only[Option.some.injEq]at h
      subst h
      exact⟨_,by simp[binOp,Op.intDiv,hb];rfl,by constructor⟩)
  | simp at hop
theorem zoz {op:BinOp}{a b:ByteArray}{c:AV} (h:zhA op a.data.toList b.data.toList=some c) (xt:TypeId):∃ v,(binOp op xt (.string a) (.string b)).run P w=.ok v w∧VR G c v:=by
 have hlt:∀ x y,zcn x y=Op.bytesLess x y:=fun x=>by
  induction x with
  | nil=>intro y;cases y<;>rfl
  | cons p x ih=>intro y;cases y with
    | nil=>rfl
    | cons q y=>simp[zcn,Op.bytesLess,ih]
 cases op<;>simp only[zhA,Option.some.injEq,reduceCtorEq,hlt]at h<;>first
  | (subst h;exact⟨.bool (a.data.toList == b.data.toList),by simp[binOp,Op.stringOp,ByteArray.toList_eq],by constructor⟩)
  | (subst h;exact⟨.bool !(a.data.toList == b.data.toList),by simp[binOp,Op.stringOp,ByteArray.toList_eq],by constructor⟩)
  | (subst h;exact⟨.bool (Op.bytesLess a.data.toList b.data.toList),by simp[binOp,Op.stringOp,ByteArray.toList_eq],by constructor⟩)
  | (subst h;exact⟨.bool !(Op.bytesLess a.data.toList b.data.toList),by simp[binOp,Op.stringOp,ByteArray.toList_eq],by constructor⟩)
  | (subst h;exact⟨.bool (Op.bytesLess a.data.toList b.data.toList||a.data.toList == b.data.toList),by simp[binOp,Op.stringOp,ByteArray.toList_eq],by constructor⟩)
  | (subst h;exact⟨.bool !(Op.bytesLess a.data.toList b.data.toList||a.data.toList == b.data.toList),by simp[binOp,Op.stringOp,ByteArray.toList_eq],by constructor⟩)
  | (split at h
     ·rename_i hb
      simp only[Option.some.injEq]at h
      subst h
      refine⟨.string (a++b),?_,.str _ _ ?_⟩
      ·have hb':¬ ((a.size+b.size:Nat):Int) > IntKind.i64.max:=by
        have h1:a.size+b.size≤70368744177664:=by simpa [zW]using hb
        have h2:IntKind.i64.max=9223372036854775807:=rfl
        rw[h2];omega
       simp only[binOp,Op.stringOp,if_neg hb']
       rfl
      ·simp
     ·simp at h)
theorem zkL (dp:Nat) {x y:AV}{xv yv:Value}{r:Bool}{xt:TypeId} (hx:VR G x xv) (hy:VR G y yv) (h:eqA P xt x y=some r):(Op.equalIn (dp+1) xt xv yv).run P w=.ok r w:=by
 unfold eqA at h
 split at h
 all_goals first
  | (rename_i hd
     split at h<;>simp only[Option.some.injEq,reduceCtorEq]at h<;>subst h<;>cases hx<;>cases hy<;>simp[Op.equalIn,zU hd]
     done)
  | (rename_i e hd
     split at h<;>simp only[Option.some.injEq,reduceCtorEq]at h<;>subst h<;>cases hx<;>cases hy<;>simp[Op.equalIn,zU hd]
     done)
  | (rename_i e1 e2 hd
     split at h<;>simp only[Option.some.injEq,reduceCtorEq]at h<;>subst h<;>cases hx<;>cases hy<;>simp[Op.equalIn,zU hd]
     done)
  | (rename_i e1 e2 e3 hd
     split at h<;>simp only[Option.some.injEq,reduceCtorEq]at h<;>subst h<;>cases hx<;>cases hy<;>simp[Op.equalIn,zU hd]
     done)
  | simp at h
theorem zct {op:BinOp}{t:TypeId}{x y:Operand}{c d:AV}{cv dv:Value} (hc:VR G c cv) (hd:VR G d dv) (h:∀ l m,c=.agg l→d=.agg m→False):(eqGuard op t x y cv dv).run P w=.ok () w:=by
 cases op<;>first|rfl|(cases hc<;>cases hd<;>first|rfl|exact(h _ _ rfl rfl).elim)
theorem ba_beq (a b:ByteArray):(a == b)=(a.data.toList == b.data.toList):=by
 cases a with
 | mk x=>cases b with
   | mk y=>
     show(x == y)=_
     rw[Bool.eq_iff_iff,beq_iff_eq,beq_iff_eq]
     exact⟨fun h=>by rw[h],fun h=>Array.ext' h⟩
theorem zhK (dp:Nat) {x y:AV}{xv yv:Value}{r:Bool}{xt:TypeId} (hx:VR G x xv) (hy:VR G y yv) (h:zjK P xt x y=some r):(Op.equalIn (dp+1) xt xv yv).run P w=.ok r w:=by
 unfold zjK at h
 split at h
 ·split at h
  ·rename_i hd
   split at h
   ·rename_i hk
    simp only[Option.some.injEq]at h
    subst h hk
    cases hx;cases hy
    simp[Op.equalIn,zU hd]
   ·simp at h
  ·simp at h
 ·split at h
  ·rename_i hd
   simp only[Option.some.injEq]at h
   subst h
   cases hx with
   | str a la ha=>cases hy with
     | str b lb hb=>
       subst ha hb
       simp only[Op.equalIn,Sem.run_bind,zU hd,Result.andThen_ok,Sem.run_pure,ba_beq]
  ·simp at h
 ·exact zkL dp hx hy h
theorem zdb {xs ys:List AV}{xv yv:List Value} (hx:VRs G xs xv) (hy:VRs G ys yv) (dp:Nat):∀ (fs:List Field) (r:Bool),zbU P xs ys fs=some r →
 Sem.run P (forIn fs (none,()) fun (f:Field) (_:Option Bool×Unit)=>
         if f.name="_" then pure (ForInStep.yield (none,()))
         else do
          let a ← part f.type xv.toArray f.offset
          let b ← part f.type yv.toArray f.offset
          let c ← Op.equalIn (dp+1) f.type a b
          if c=false then pure (ForInStep.done (some false,()))else pure (ForInStep.yield (none,())))
  w=.ok (match r with|true=>(none,())|false=>(some false,())) w
 | [],r,h=>by
   simp only[zbU,Option.some.injEq]at h
   subst h
   rfl
 | f::fs,r,h=>by
   unfold zbU at h
   rw[List.forIn_cons]
   split at h
   ·rename_i hn
    rw[if_pos (by simpa using hn)]
    simp only[Sem.run_bind,Sem.run_pure,Result.andThen_ok]
    exact zdb hx hy dp fs r h
   ·rename_i hn
    rw[if_neg (by simpa using hn)]
    split at h
    ·rename_i a b ha hb
     obtain⟨av,ha1,ha2⟩:=zfk (P:=P) (w:=w) hx ha
     obtain⟨bv,hb1,hb2⟩:=zfk (P:=P) (w:=w) hy hb
     split at h
     ·rename_i he
      have:=zhK (P:=P) (w:=w) dp ha2 hb2 he
      simp only[Sem.run_bind,ha1,hb1,this,Result.andThen_ok,Bool.true_eq_false,if_false,Sem.run_pure]
      exact zdb hx hy dp fs r h
     ·rename_i he
      have:=zhK (P:=P) (w:=w) dp ha2 hb2 he
      simp only[Option.some.injEq]at h
      subst h
      simp only[Sem.run_bind,ha1,hb1,this,Result.andThen_ok,if_true,Sem.run_pure]
     ·simp at h
    ·simp at h
theorem zhL (d:Nat) {t:TypeId}{fields:Array Field}{xs ys:Array Value} (hd:P.underlying t=some (.struct fields)) (hs:P.stoodInHeld t=false) :
 (Op.equalIn (d+1) t (.agg xs) (.agg ys)).run P w=(Sem.run P (forIn fields.toList (none,()) fun (f:Field) (_:Option Bool×Unit)=>
   if f.name="_" then pure (ForInStep.yield (none,()))
   else do
    let a ← part f.type xs f.offset
    let b ← part f.type ys f.offset
    let c ← Op.equalIn d f.type a b
    if c=false then pure (ForInStep.done (some false,()))else pure (ForInStep.yield (none,())))
   w).andThen fun a w'=>Sem.run P (match a.1 with|some r=>pure r|none=>pure true) w':=by
 simp[Op.equalIn,zU hd,hs]
 congr 1
 funext a w'
 rcases a with ⟨_ | _,_⟩<;>rfl
theorem zkM (dp:Nat) {x y:AV}{xv yv:Value}{r:Bool}{xt:TypeId} (hx:VR G x xv) (hy:VR G y yv) (h:zeQ P xt x y=some r):(Op.equalIn (dp+2) xt xv yv).run P w=.ok r w:=by
 unfold zeQ at h
 split at h
 ·unfold zjL at h
  split at h
  ·rename_i fields hd
   split at h
   ·simp at h
   ·rename_i hg
    simp only[Bool.or_eq_false_iff]at hg
    cases hx with
    | agg hxl hxv=>cases hy with
      | agg hyl hyv=>
        have:=zdb (P:=P) (w:=w) ⟨hxl,hxv⟩ ⟨hyl,hyv⟩ dp fields.toList r h
        rw[zhL (dp+1) hd hg.1,this]
        cases r<;>rfl
  ·simp at h
 ·exact zkL (dp+1) hx hy h
theorem zoA {x y:AV}{xv yv:Value}{r:Bool}{xt:TypeId} (hx:VR G x xv) (hy:VR G y yv) (h:zeQ P xt x y=some r):(Op.equal xt xv yv).run P w=.ok r w:=zkM 9998 hx hy h
theorem zkN {op:BinOp}{t:TypeId}{x y:Operand}{xs ys:List AV}{xv yv:Value} (hx:VR G (.agg xs) xv) (hy:VR G (.agg ys) yv) {r:Bool} (h:zjL P t xs ys=some r):(eqGuard op t x y xv yv).run P w=.ok () w:=by
 unfold zjL at h
 split at h
 ·split at h
  ·simp at h
  ·rename_i hg
   simp only[Bool.or_eq_false_iff]at hg
   cases hx;cases hy
   cases op<;>first|rfl|simp[eqGuard,hg.2]
 ·simp at h
theorem zme {op:BinOp}{xt:TypeId}{ox oy:Operand}{x y c:AV}{xv yv:Value} (hx:VR G x xv) (hy:VR G y yv) (hn1:∀ k a k' b,x=.int k a→y=.int k' b→False)
 (hn2:∀ a b,x=.str a→y=.str b→False) (hn3:∀ k a,x=.sx k a→False) (hn4:∀ k a k' b,x=.int k a→y=.sx k' b→False) (h:zjM P op xt x y=some c) :
 ∃ v,(do eqGuard op xt ox oy xv yv;binOp op xt xv yv:Sem Value).run P w=.ok v w∧VR G c v:=by
 unfold zjM at h
 have hcase:∃ r,zeQ P xt x y=some r∧((op=.eql∧c=.bool r)∨(op=.neq∧c=.bool !r)):=by
  split at h
  ·split at h
   ·rename_i r hr;simp only[Option.some.injEq]at h;exact⟨r,hr,.inl ⟨rfl,h.symm⟩⟩
   ·simp at h
  ·split at h
   ·rename_i r hr;simp only[Option.some.injEq]at h;exact⟨r,hr,.inr ⟨rfl,h.symm⟩⟩
   ·simp at h
  ·simp at h
 obtain⟨r,hr,hop⟩:=hcase
 have hg:(eqGuard op xt ox oy xv yv).run P w=.ok () w:=by
  have hr':=hr
  unfold zeQ at hr'
  split at hr'
  ·exact zkN hx hy hr'
  ·rename_i hno
   exact zct hx hy hno
 have he:=zoA (P:=P) (w:=w) hx hy hr
 simp only[Sem.run_bind,hg,Result.andThen_ok]
 rcases hop with ⟨rfl,rfl⟩|⟨rfl,rfl⟩
 ·refine⟨.bool r,?_,.bool r⟩
  have:binOp .eql xt xv yv=(do pure (.bool (← Op.equal xt xv yv)):Sem Value):=by
   cases hx<;>cases hy<;>first|rfl|exact(hn1 _ _ _ _ rfl rfl).elim|exact(hn2 _ _ rfl rfl).elim|exact(hn3 _ _ rfl).elim|exact(hn4 _ _ _ _ rfl rfl).elim
  rw[this]
  simp[he]
 ·refine⟨.bool !r,?_,.bool _⟩
  have:binOp .neq xt xv yv=(do pure (.bool (!(← Op.equal xt xv yv))):Sem Value):=by
   cases hx<;>cases hy<;>first|rfl|exact(hn1 _ _ _ _ rfl rfl).elim|exact(hn2 _ _ rfl rfl).elim|exact(hn3 _ _ rfl).elim|exact(hn4 _ _ _ _ rfl rfl).elim
  rw[this]
  simp[he]
theorem zpI {x:AV}{k:IntKind}{e:Sx}{xv:Value} (hx:VR G x xv) (h:znr x=some (k,e)):xv=.int k (e.eval G.ρ):=by
 unfold znr at h
 split at h
 ·simp only[Option.some.injEq,Prod.mk.injEq]at h
  obtain⟨rfl,rfl⟩:=h
  cases hx;rfl
 ·simp only[Option.some.injEq,Prod.mk.injEq]at h
  obtain⟨rfl,rfl⟩:=h
  cases hx;rfl
 ·simp at h
theorem zkO {op:BinOp}{k:IntKind}{a b n:Int} (h:yV op k a b=some (.int k n)):zl8 op k a b=n:=by simp[zl8,h]
theorem zmf {D:BinOp→Sx→Sx→Option Bool} (hD:zcP D G.ρ) {op:BinOp}{k:IntKind}{a b:Sx}{c:AV} (h:zjJ D op k a b=some c) (xt:TypeId) :
 ∃ v,(binOp op xt (.int k (a.eval G.ρ)) (.int k (b.eval G.ρ))).run P w=.ok v w∧VR G c v:=by
 have key:∀ (op:BinOp) (n:Int),(op≠.shl∧op≠.shr)→yV op k (a.eval G.ρ) (b.eval G.ρ)=some (.int k n)→c=.sx k (.bin op k a b) →
  ∃ v,(binOp op xt (.int k (a.eval G.ρ)) (.int k (b.eval G.ρ))).run P w=.ok v w∧VR G c v:=fun op n hop hi hc=>by
  obtain⟨v,h1,h2⟩:=zfZ (P:=P) (w:=w) (G:=G) hop hi xt
  cases h2
  refine⟨_,h1,?_⟩
  subst hc
  have:VR G (.sx k (.bin op k a b)) (.int k ((Sx.bin op k a b).eval G.ρ)):=.sx _ _
  simp only[Sx.eval,zkO hi]at this
  exact this
 have hz:D .eql b (.lit 0)=some false→b.eval G.ρ≠0:=fun hd=>by
  have:=hD _ k _ _ _ hd
  simp[yV,Sx.eval]at this
  exact this
 cases op<;>simp only[zjJ,Option.some.injEq,reduceCtorEq]at h<;>first
  | exact key _ _ (by simp) rfl h.symm
  | (split at h
     ·rename_i hd
      simp only[Option.some.injEq]at h
      first
       | exact key .quo (k.wrap ((a.eval G.ρ).tdiv (b.eval G.ρ))) (by simp) (by simp only[yV,if_neg (hz hd)]) h.symm
       | exact key .rem ((a.eval G.ρ).tmod (b.eval G.ρ)) (by simp) (by simp only[yV,if_neg (hz hd)]) h.symm
     ·simp at h)
  | (split at h
     ·rename_i r hd
      simp only[Option.some.injEq]at h
      subst h
      exact zfZ (P:=P) (w:=w) (G:=G) (by simp) (hD _ k _ _ _ hd) xt
     ·simp at h)
theorem zkP {D:BinOp→Sx→Sx→Option Bool} (hD:zcP D G.ρ) {op:BinOp}{xt:TypeId}{ox oy:Operand}{x y c:AV}{xv yv:Value} (hx:VR G x xv) (hy:VR G y yv) (hna:∀ l m,x=.agg l→y=.agg m→False) (h:zns D op x y=some c) :
 ∃ v,(do eqGuard op xt ox oy xv yv;binOp op xt xv yv:Sem Value).run P w=.ok v w∧VR G c v:=by
 have hg:=zct (P:=P) (w:=w) (op:=op) (t:=xt) (x:=ox) (y:=oy) hx hy hna
 simp only[Sem.run_bind,hg,Result.andThen_ok]
 unfold zns at h
 split at h
 ·rename_i k a k' b hx' hy'
  have e1:=zpI hx hx'
  have e2:=zpI hy hy'
  subst e1 e2
  split at h
  ·rename_i hk
   subst hk
   exact zmf hD h xt
  ·simp at h
 ·simp at h
theorem zsb {D:BinOp→Sx→Sx→Option Bool} (hD:zcP D G.ρ) {op:BinOp}{xt:TypeId}{ox oy:Operand}{x y c:AV}{xv yv:Value} (hx:VR G x xv) (hy:VR G y yv) (h:jJ P D op xt x y=some c) :
 ∃ v,(do eqGuard op xt ox oy xv yv;binOp op xt xv yv:Sem Value).run P w=.ok v w∧VR G c v:=by
 unfold jJ at h
 split at h
 ·rename_i k a k' b
  have hg:=zct (P:=P) (w:=w) (op:=op) (t:=xt) (x:=ox) (y:=oy) hx hy (by simp)
  simp only[Sem.run_bind,hg,Result.andThen_ok]
  cases hx;cases hy
  unfold zbE at h
  split at h
  ·unfold zfX at h
   split at h
   ·simp only[Option.some.injEq]at h
    subst h
    refine⟨_,?_,.int _ _⟩
    simp only[binOp,Op.shift]
    rw[if_neg (by simp)]
    rfl
   ·simp at h
  ·unfold zfX at h
   split at h
   ·simp only[Option.some.injEq]at h
    subst h
    refine⟨_,?_,.int _ _⟩
    simp only[binOp,Op.shift]
    rw[if_neg (by simp)]
    rfl
   ·simp at h
  ·rename_i h1 h2
   split at h
   ·rename_i hk
    subst hk
    exact zfZ ⟨h1,h2⟩ h xt
   ·simp at h
 ·rename_i a b
  have hg:=zct (P:=P) (w:=w) (op:=op) (t:=xt) (x:=ox) (y:=oy) hx hy (by simp)
  simp only[Sem.run_bind,hg,Result.andThen_ok]
  cases hx with
  | str sa _ ha=>
    cases hy with
    | str sb _ hb=>
      subst ha hb
      exact zoz h xt
 ·exact zkP hD hx hy (by simp) h
 ·exact zkP hD hx hy (by simp) h
 ·exact zme hx hy (by assumption) (by assumption) (by assumption) (by assumption) h
theorem un_sim {op:UnOp}{x c:AV}{xv:Value} (hx:VR G x xv) (h:unA op x=some c):∃ v,(Op.unary op xv).run P w=.ok v w∧VR G c v:=by
 unfold unA at h
 split at h
 ·cases hx
  simp only[Option.some.injEq]at h
  subst h
  refine⟨_,rfl,?_⟩
  exact .sx _ _
 ·cases hx
  simp only[Option.some.injEq]at h
  subst h
  refine⟨_,rfl,?_⟩
  exact .sx _ _
 ·cases hx
  simp only[yV,Option.some.injEq]at h
  subst h
  exact⟨_,rfl,.int _ _⟩
 ·cases hx
  simp only[yV,Option.some.injEq]at h
  subst h
  exact⟨_,rfl,.int _ _⟩
 ·cases hx
  simp only[Option.some.injEq]at h
  subst h
  exact⟨_,rfl,.bool _⟩
 ·simp at h
end
end Go.Ab
