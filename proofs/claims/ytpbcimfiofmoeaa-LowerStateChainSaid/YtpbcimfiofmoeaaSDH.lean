/- Parts: R3a, Strs, AbWk, AbCut, AbIc, Ints, Bytes, SpecI, SpecR, R3b, I2, V1, EnX, R3c, L4a, R3d, R3e, R3f, R3g, R3h, R3i, R3j, Spec6, Sem6, Rep6, Rep6c. -/
import Derived.Test.YtpbcimfiofmoeaaSDG
set_option linter.unusedSimpArgs false
set_option linter.unusedVariables false
set_option linter.unusedSectionVars false
set_option linter.defProp false
set_option maxHeartbeats 32000000
namespace Go.Proofs.Ytpbcimfiofmoeaa
set_option maxRecDepth 20000
set_option maxRecDepth 20000
open Go Go.Ab
namespace tyR3a
def tyF:=And.intro @tq5 (And.intro @tq3 (And.intro @tq9 (And.intro @zcc (And.intro @zgb (And.intro @zgc (And.intro @zcj (And.intro @za9 (And.intro @zau (And.intro @zfA (And.intro @tq2 (@zba)))))))))))
end tyR3a
open tyR3a
theorem zab (f:FuncId):Plain (zK pls []) f:=⟨fun _=>rfl,rfl,rfl⟩
theorem yJ {l:List En}{f:FuncId} (h1:∀ args,yQ l f args=none) (h2:zev l f=false):Plain (zK pls l) f:=⟨h1,h2,rfl⟩
structure PlainA (cfg:Cfg) (f:FuncId) (args:List AV):Prop where
 call:cfg.call f args=none
 ice:cfg.ice f=false
 froz:cfg.froz f=false
theorem zmI {α:Type}{sz:α→Nat}{ok:α→Prop}{enc:α→List AV}{out:α→AV} (inj:∀ x y,enc x=enc y→x=y) {f:FuncId}{l:List En} (x:α) :
 PlainA (zK pls (⟨f,false,spP (fun y=>ok y∧sz y < sz x) enc out⟩::l)) f (enc x):=by
 have hf:Nat.beq f f=true:=Nat.beq_refl f
 refine⟨?_,?_,rfl⟩
 ·show yQ _ f (enc x)=none
  simp only[yQ,hf]
  exact zh9 fun y hy e=>by rw[inj _ _ e]at hy;exact Nat.lt_irrefl _ hy.2
 ·show zev _ f=false
  simp only[zev,hf]
def yz (l:List (List UInt8)) (s:List UInt8):Bool:=l.any fun x=>decide (x=s)
def zdm (op:Int):Bool:=decide (4≤op)&&decide (op≤18)
def zeroE (x:Ex):Bool:=decide (x.kind=0)&&decide (x.n=0)&&decide (x.name=[])&&decide (x.op=0)&&decide (x.kids.length=0)
def yw:List Fu→List UInt8→Int→Int
 | [],_,_=>-1
 | f::l,s,i=>if f.name=s then i else yw l s (i+1)
def bsE (s:List UInt8):List AV:=[.str s]
theorem znN (x y:List UInt8) (h:bsE x=bsE y):x=y:=by simpa [bsE]using h
end Go.Proofs.Ytpbcimfiofmoeaa
namespace Go.Proofs.Ytpbcimfiofmoeaa
set_option maxRecDepth 20000
open Go Go.Ab
def zj6 (H:Hp) (v:AV) (l:List (List UInt8)) (lo:Nat):Prop:=∃ r imm,v=.sl r 0 l.length 1∧H.get r=some (.cells (l.map .str) imm true)∧imm≤l.length∧lo≤r∧r < H.next
def zli (H:Hp) (v:AV) (l:List (List UInt8)) (lo:Nat):Prop:=(v=.nilS∧l=[])∨zj6 H v l lo
theorem zj6.low {H H':Hp}{v:AV}{l:List (List UInt8)}{lo:Nat} (h:zj6 H v l lo) (hn:H.next≤H'.next) (hg:∀ k,lo≤k→k < H.next→H'.get k=H.get k):zj6 H' v l lo:=by
 obtain⟨r,imm,h1,h2,h3,h4,h5⟩:=h
 exact⟨r,imm,h1,by rw[hg r h4 h5];exact h2,h3,h4,by omega⟩
def yq (v:AV) (k:Nat):Prop:=∃ n,v=.sl k 0 n 1
def zgQ (v v':AV) (H H':Hp):Prop:=(∀ k,k < H.next→¬ yq v k→H'.get k=H.get k)∧∀ k,yq v' k→yq v k∨H.next≤k
theorem zj6.lt {H:Hp}{v:AV}{l:List (List UInt8)}{lo:Nat} (h:zj6 H v l lo) {k:Nat} (hk:yq v k):lo≤k∧k < H.next:=by
 obtain⟨r,imm,rfl,_,_,h4,h5⟩:=h
 obtain⟨n,e⟩:=hk
 simp only[AV.sl.injEq]at e
 rw[← e.1];exact⟨h4,h5⟩
theorem zli.lt {H:Hp}{v:AV}{l:List (List UInt8)}{lo:Nat} (h:zli H v l lo) {k:Nat} (hk:yq v k):lo≤k∧k < H.next:=by
 rcases h with ⟨rfl,_⟩|h
 ·obtain⟨n,e⟩:=hk;simp at e
 ·exact h.lt hk
theorem zj6.keep {H H':Hp}{v:AV}{l:List (List UInt8)}{lo:Nat} (h:zj6 H v l lo) (hn:H.next≤H'.next) (hg:∀ k,yq v k→H'.get k=H.get k):zj6 H' v l lo:=by
 obtain⟨r,imm,rfl,h2,h3,h4,h5⟩:=h
 exact⟨r,imm,rfl,by rw[hg r ⟨_,rfl⟩];exact h2,h3,h4,by omega⟩
theorem zli.keep {H H':Hp}{v:AV}{l:List (List UInt8)}{lo:Nat} (h:zli H v l lo) (hn:H.next≤H'.next) (hg:∀ k,yq v k→H'.get k=H.get k):zli H' v l lo:=h.imp id fun h=>h.keep hn hg
theorem zlj (l:List (List UInt8)):(l.map AV.str).all AV.one=true:=by simp[AV.one]
theorem zgh (m:List (List UInt8)):(m.map fun s=>[AV.str s]).flatten=m.map .str:=by induction m with
 | nil=>rfl
 | cons a m ih=>simp[ih]
theorem zut {H:Hp}{r imm:Nat}{m:List (List UInt8)} (h:H.get r=some (.cells (m.map .str) imm true)):yk H 1 (.sl r 0 m.length 1)=some (m.length,m.map .str):=by
 have:=zdV (H:=H) (r:=r) (o:=0) (n:=m.length) (z:=1) (s:=1) h (by simp)
 rw[this,List.drop_zero,List.take_of_length_le (by simp)]
theorem zuu {H:Hp}{v x:AV}{l m:List (List UInt8)}{lo:Nat} (hv:zli H v l lo) (hlo:lo≤H.next) (hx:yk H 1 x=some (m.length,m.map .str)) (hm:m≠[]) (hb:l.length+m.length < 2 ^ 40) :
 ∃ v' H',zX Try.prog false H 47 47 v x=some (v',H')∧zj6 H' v' (l++m) lo∧H'.next=H.next+1∧(∀ k,k < lo→H'.get k=H.get k)∧zgQ v v' H H':=by
 obtain⟨n,hn⟩:∃ n,m.length=n+1:=⟨m.length - 1,by have:=List.length_pos_iff.2 hm;omega⟩
 have hmr:zW=70368744177664:=rfl
 rw[hn]at hx
 rcases hv with ⟨rfl,rfl⟩|⟨r,imm,rfl,h2,h3,h4,h5⟩
 ·refine⟨.sl H.next 0 (n+1) 1,H.alloc (.cells (m.map .str) 0 true),append_nil Try.underlying47 sz9 bt9 zr9 (by kernel_rfl) hx (zlj m) rfl (by rw[hmr];omega) (by rw[hmr];omega),⟨H.next,0,by simp[hn],by rw[za,if_pos rfl];rfl,by omega,hlo,Nat.lt_succ_self _⟩,rfl,fun k hk=>by rw[za,if_neg (by omega)],fun k hk _=>by rw[za,if_neg (by omega)],fun k hk=>.inr ?_⟩
  obtain⟨n',e⟩:=hk
  simp only[AV.sl.injEq]at e
  omega
 ·have htr:zae false H 1 (.sl r 0 l.length 1)=H:=by
   unfold zae
   simp only[h2,Nat.zero_add,List.length_map,Nat.mul_one]
   have:Nat.blt l.length l.length=false:=by
    cases hb:Nat.blt l.length l.length with
    | false=>rfl
    | true=>rw[Nat.blt_eq]at hb;omega
   simp[this]
  refine⟨.sl H.next 0 (l.length+(n+1)) 1,(H.kill r).alloc (.cells (l.map .str++m.map .str) (imm - 0) true),?_,⟨H.next,imm,by simp[hn],?_,by simp;omega,hlo,Nat.lt_succ_self _⟩,rfl,fun k hk=>?_,fun k hk hno=>?_,fun k hk=>.inr ?_⟩
  ·simp only[zX,Try.underlying47,sz9,bt9,zr9,show jh Try.prog 47=true by kernel_rfl,hx,zlj,htr,and_self,if_true,List.length_cons,List.length_nil,yY,h2,List.length_map,Nat.zero_add,Nat.mul_one,List.drop_zero]
   rw[if_pos ⟨by rw[hmr];omega,by rw[hmr];omega,trivial,trivial,h3⟩]
   simp
  ·show((H.kill r).alloc _).get (H.kill r).next=_
   rw[za,if_pos rfl];simp
  ·rw[za,if_neg (by simp only[zY];omega),zR,if_neg (by omega)]
  ·rw[za,if_neg (by simp only[zY];omega),zR,if_neg (fun e=>hno ⟨_,by rw[e]⟩)]
  ·obtain⟨n',e⟩:=hk
   simp only[AV.sl.injEq]at e
   omega
theorem znO {H:Hp}{v:AV}{l:List (List UInt8)}{lo r imm:Nat} (s:List UInt8) (hv:zli H v l lo) (hlo:lo≤H.next) (hs:H.get r=some (.cells [.str s] imm true)) (hb:l.length < 2 ^ 39) :
 ∃ v' H',zX Try.prog false H 47 47 v (.sl r 0 1 1)=some (v',H')∧zj6 H' v' (l++[s]) lo∧H'.next=H.next+1∧(∀ k,k < lo→H'.get k=H.get k)∧zgQ v v' H H':=
 zuu hv hlo (zut (m:=[s]) hs) (by simp) (by simp;omega)
theorem zo0 (l:List (List UInt8)):za1 1 l.length (l.map .str)=l.map fun s=>[AV.str s]:=by
 induction l with
 | nil=>rfl
 | cons a l ih=>simp[za1,ih]
end Go.Proofs.Ytpbcimfiofmoeaa
namespace Go.Ab
set_option maxRecDepth 20000
open Go
def wkN:Nat→AV→AV
 | 0,v=>v
 | n+1,v=>match v with
   | .nilS=>.lst []
   | .lst xs=>.lst (xs.map fun row=>row.map (wkN n))
   | .agg cs=>.agg (cs.map (wkN n))
   | .tup cs=>.tup (cs.map (wkN n))
   | v=>v
theorem VR.wk {G:Gh}:∀ (n:Nat) {v:AV}{x:Value},VR G v x→VR G (wkN n v) x
 | 0,_,_,h=>h
 | n+1,v,x,h=>by
   cases h with
   | nilS=>exact .lst0 _ _
   | lst vs hz hF hv hc=>
     rename_i xs b o cap z
     have:=VR.lst (G:=G) (xs:=xs.map fun row=>row.map (wkN n)) (b:=b) (o:=o) (cap:=cap) (z:=z) vs ?_ ?_ ?_ ?_
     ·rw[List.length_map]at this;exact this
     ·intro i row hr
      rw[List.getElem?_map]at hr
      cases hx:xs[i]? with
      | none=>rw[hx]at hr;simp at hr
      | some r0=>rw[hx]at hr;simp only[Option.map_some,Option.some.injEq]at hr;rw[← hr,List.length_map];exact hz i r0 hx
     ·intro i j hi hj;rw[List.length_map]at hi;exact hF i j hi hj
     ·intro i j row c hr hc2
      rw[List.getElem?_map]at hr
      cases hx:xs[i]? with
      | none=>rw[hx]at hr;simp at hr
      | some r0=>
        rw[hx]at hr;simp only[Option.map_some,Option.some.injEq]at hr
        rw[← hr,List.getElem?_map]at hc2
        cases hy:r0[j]? with
        | none=>rw[hy]at hc2;simp at hc2
        | some c0=>rw[hy]at hc2;simp only[Option.map_some,Option.some.injEq]at hc2;rw[← hc2];exact VR.wk n (hv i j r0 c0 hx hy)
     ·rw[List.length_map];exact hc
   | lst0 a cap=>exact .lst0 a cap
   | agg hl hv=>
     refine .agg (by rw[List.length_map];exact hl) fun i c v hc hv2=>?_
     rw[List.getElem?_map]at hc
     rename_i cs vs
     cases hy:cs[i]? with
     | none=>rw[hy]at hc;simp at hc
     | some c0=>rw[hy]at hc;simp only[Option.map_some,Option.some.injEq]at hc;rw[← hc];exact VR.wk n (hv i c0 v hy hv2)
   | tup hl hv=>
     refine .tup (by rw[List.length_map];exact hl) fun i c v hc hv2=>?_
     rw[List.getElem?_map]at hc
     rename_i cs vs
     cases hy:cs[i]? with
     | none=>rw[hy]at hc;simp at hc
     | some c0=>rw[hy]at hc;simp only[Option.map_some,Option.some.injEq]at hc;rw[← hc];exact VR.wk n (hv i c0 v hy hv2)
   | int k m=>exact .int k m
   | sx k e=>exact .sx k e
   | bool b=>exact .bool b
   | str s l h=>exact .str s l h
   | nilP=>exact .nilP
   | nilM=>exact .nilM
   | nilF=>exact .nilF
   | ptr h=>exact .ptr h
   | iptr vs hF hv=>exact .iptr vs hF hv
   | sl h hl hc=>exact .sl h hl hc
   | map h=>exact .map h
   | clo hl hv=>exact .clo hl hv
theorem Con.wk {P:Program}{ρ:Nat→Int}{f:FuncId}{args:List AV}{r:AV} (n:Nat) (h:Con P ρ f args r):Con P ρ f args (wkN n r):=
 ⟨h.1,fun G w vs h1 h2 h3=>(h.2 G w vs h1 h2 h3).mono fun _ _ ⟨v,F1,h4,h5,h6⟩=>⟨v,F1,h4,h5.wk n,h6⟩⟩
theorem znP {P:Program}{ρ:Nat→Int}{f:FuncId}{args:List AV}{r r':AV} (n:Nat) (h:Con P ρ f args r) (e:wkN n r=r'):Con P ρ f args r':=e ▸ h.wk n
variable {P:Program} {cfg:Cfg} {f N:Nat}
theorem zqy {c:SC}{E:Env}{H:Hp}{Q:AX→Env→Hp→Prop} (cs:List Nat) (h:∀ E':Env,(∀ k∈cs,E'.at k=E.at k)→Wp P cfg f N c E' H Q):Wp P cfg f N c E H Q:=h E fun _ _=>rfl
def zbf {α β:Type} (p:α→β→Prop):List α→List β→Prop
 | [],[]=>True
 | a::l,b::m=>p a b∧zbf p l m
 | _,_=>False
theorem zbf.len {α β:Type}{p:α→β→Prop}:∀ {l:List α}{m:List β},zbf p l m→l.length=m.length
 | [],[],_=>rfl
 | _::_,_::_,h=>by simp only[List.length_cons,zbf.len h.2]
theorem zbf.mono {α β:Type}{p q:α→β→Prop} (h:∀ a b,p a b→q a b):∀ {l:List α}{m:List β},zbf p l m→zbf q l m
 | [],[],_=>trivial
 | _::_,_::_,k=>⟨h _ _ k.1,zbf.mono h k.2⟩
theorem zbf.append {α β:Type}{p:α→β→Prop}:∀ {l:List α}{m:List β}{l':List α}{m':List β},zbf p l m→zbf p l' m'→zbf p (l++l') (m++m')
 | [],[],_,_,_,h=>h
 | _::_,_::_,_,_,h,k=>⟨h.1,zbf.append h.2 k⟩
theorem zbf.refl {α:Type}{p:α→α→Prop}:∀ {l:List α},(∀ a∈l,p a a)→zbf p l l
 | [],_=>trivial
 | a::l,h=>⟨h a List.mem_cons_self,zbf.refl fun b hb=>h b (List.mem_cons_of_mem _ hb)⟩
theorem zbf.get {α β:Type}{p:α→β→Prop}:∀ {l:List α}{m:List β},zbf p l m→∀ {i:Nat}{a:α}{b:β},l[i]?=some a→m[i]?=some b→p a b
 | [],[],_,i,_,_,h,_=>by simp at h
 | a::l,b::m,h,0,_,_,h1,h2=>by
   simp only[List.getElem?_cons_zero,Option.some.injEq]at h1 h2
   subst h1;subst h2;exact h.1
 | a::l,b::m,h,i+1,_,_,h1,h2=>zbf.get h.2 (by simpa using h1) (by simpa using h2)
def flatA (v:AV):Prop:=zaH v∧match v with
 | .sl _ _ _ _|.agg _=>False
 | _=>True
def Ic (S:Nat→Prop):Nat→Hp→AV→AV→Prop
 | 0,_,_,_=>False
 | n+1,H,v,u=>match v with
   | .sl r off len z=>S r∧r < H.next∧∃ cs imm tip l,H.get r=some (.cells cs imm tip)∧imm≤cs.length∧off+len * z≤cs.length∧zbf (Ic S n H) ((cs.drop off).take (len * z)) l∧u=.lst (za1 z len l)
   | .agg cs=>∃ ds,zbf (Ic S n H) cs ds∧u=.agg ds
   | v=>zaH v∧u=v
theorem Ic.flat {S:Nat→Prop}{n:Nat}{H:Hp}{v:AV} (h:flatA v):Ic S (n+1) H v v:=by
 cases v<;>first|exact h.2.elim|exact⟨h.1,rfl⟩
theorem Ic.up {S:Nat→Prop}{H:Hp}:∀ {n m:Nat}{v u:AV},Ic S n H v u→n≤m→Ic S m H v u
 | 0,_,_,_,h,_=>h.elim
 | n+1,0,_,_,_,hm=>by omega
 | n+1,m+1,v,u,h,hm=>by
   cases v with
   | sl r off len z=>
     obtain⟨h1,h0,cs,imm,tip,l,h2,h3,h4,h5,h6⟩:=h
     exact⟨h1,h0,cs,imm,tip,l,h2,h3,h4,h5.mono fun a b k=>Ic.up k (by omega),h6⟩
   | agg cs=>
     obtain⟨ds,h1,h2⟩:=h
     exact⟨ds,h1.mono fun a b k=>Ic.up k (by omega),h2⟩
   | _=>exact h
def zie (a b:Option HB):Prop:=a=b∨∃ cs i j tip,a=some (.cells cs i tip)∧b=some (.cells cs j tip)∧(i≤cs.length→j≤cs.length)
theorem zie.trans {a b c:Option HB} (h:zie a b) (k:zie b c):zie a c:=by
 rcases h with rfl|⟨cs,i,j,tip,rfl,rfl,h⟩
 ·exact k
 ·rcases k with rfl|⟨cs',i',j',tip',e,rfl,k⟩
  ·exact .inr ⟨cs,i,j,tip,rfl,rfl,h⟩
  ·simp only[Option.some.injEq,HB.cells.injEq]at e
   obtain⟨rfl,rfl,rfl⟩:=e
   exact .inr ⟨cs,i,j',tip,rfl,rfl,fun q=>k (h q)⟩
theorem Ic.frame2 {S S':Nat→Prop}{H H':Hp} (hS:∀ k,k < H.next→S k→S' k) (hn:H.next≤H'.next) (hf:∀ k,S k→k < H.next→zie (H.get k) (H'.get k)):∀ {n:Nat}{v u:AV},Ic S n H v u→Ic S' n H' v u
 | 0,_,_,h=>h.elim
 | n+1,v,u,h=>by
   cases v with
   | sl r off len z=>
     obtain⟨h1,h0,cs,imm,tip,l,h2,h3,h4,h5,h6⟩:=h
     have h5':=h5.mono fun a b k=>Ic.frame2 hS hn hf k
     rcases hf r h1 h0 with e|⟨cs',i,j,tip',e1,e2,e3⟩
     ·exact⟨hS r h0 h1,by omega,cs,imm,tip,l,by rw[← e];exact h2,h3,h4,h5',h6⟩
     ·rw[h2]at e1
      simp only[Option.some.injEq,HB.cells.injEq]at e1
      obtain⟨rfl,rfl,rfl⟩:=e1
      exact⟨hS r h0 h1,by omega,cs,j,tip,l,e2,e3 h3,h4,h5',h6⟩
   | agg cs=>
     obtain⟨ds,h1,h2⟩:=h
     exact⟨ds,h1.mono fun a b k=>Ic.frame2 hS hn hf k,h2⟩
   | _=>exact h
theorem Ic.frame {S S':Nat→Prop} (hS:∀ k,S k→S' k) {H H':Hp} (hn:H.next≤H'.next) (hf:∀ k,S k→k < H.next→zie (H.get k) (H'.get k)) {n:Nat}{v u:AV} (h:Ic S n H v u):Ic S' n H' v u:=h.frame2 (fun k _ q=>hS k q) hn hf
structure Icy (S:Nat→Prop) (H H':Hp):Prop where
 next:H'.next=H.next
 out:∀ k,¬ S k→H'.get k=H.get k
 same:∀ k,zie (H.get k) (H'.get k)
theorem Icy.refl (S:Nat→Prop) (H:Hp):Icy S H H:=⟨rfl,fun _ _=>rfl,fun _=>.inl rfl⟩
theorem Icy.trans {S:Nat→Prop}{a b c:Hp} (h:Icy S a b) (k:Icy S b c):Icy S a c:=⟨k.next.trans h.next,fun r hr=>(k.out r hr).trans (h.out r hr),fun r=>(h.same r).trans (k.same r)⟩
theorem Icy.ic {S S':Nat→Prop}{H H':Hp} (h:Icy S H H') {n:Nat}{v u:AV} (k:Ic S' n H v u):Ic S' n H' v u:=k.frame (fun _ q=>q) (Nat.le_of_eq h.next.symm) fun r _ _=>h.same r
theorem zek {S:Nat→Prop}{n:Nat} (ih:∀ {v u:AV}{H:Hp},Ic S n H v u→∃ H',zc8 n v H=some (u,H')∧Icy S H H'):∀ {l m:List AV}{H:Hp},zbf (Ic S n H) l m→∃ H',zb2 (zc8 n) l H=some (m,H')∧Icy S H H'
 | [],[],H,_=>⟨H,rfl,Icy.refl S H⟩
 | a::l,b::m,H,h=>by
   obtain⟨H1,h1,h2⟩:=ih h.1
   obtain⟨H2,h3,h4⟩:=zek ih (l:=l) (m:=m) (H:=H1) (h.2.mono fun a b k=>h2.ic k)
   exact⟨H2,by simp only[zb2,h1,h3],h2.trans h4⟩
theorem Ic.ice {S:Nat→Prop}:∀ {n:Nat}{v u:AV}{H:Hp},Ic S n H v u→∃ H',zc8 n v H=some (u,H')∧Icy S H H'
 | 0,_,_,_,h=>h.elim
 | n+1,v,u,H,h=>by
   cases v with
   | sl r off len z=>
     obtain⟨h1,h0,cs,imm,tip,l,h2,h3,h4,h5,rfl⟩:=h
     have hset:Icy S H (H.set r (.cells cs (max imm (off+len * z)) tip)):=by
      refine⟨rfl,fun k hk=>by rw[Hp.get_set,if_neg (fun e=>hk (by rw[e];exact h1))],fun k=>?_⟩
      rw[Hp.get_set]
      split
      ·rename_i e;subst e;exact .inr ⟨cs,imm,max imm (off+len * z),tip,h2,rfl,fun _=>by omega⟩
      ·exact .inl rfl
     obtain⟨H',h6,h7⟩:=zek (fun k=>Ic.ice k) (h5.mono fun a b k=>hset.ic k)
     refine⟨H',?_,hset.trans h7⟩
     have e:zc8 (n+1) (.sl r off len z) H=match H.get r with
      | some (.cells cs imm tip)=>match Nat.ble (off+len * z) cs.length&&Nat.ble imm cs.length with
        | true=>match zb2 (zc8 n) ((cs.drop off).take (len * z)) (H.set r (.cells cs (max imm (off+len * z)) tip))with
          | some (l',H)=>some (.lst (za1 z len l'),H)
          | none=>none
        | false=>none
      | _=>none:=rfl
     rw[e,h2]
     have e1:Nat.ble (off+len * z) cs.length=true:=by rw[Nat.ble_eq];exact h4
     have e2:Nat.ble imm cs.length=true:=by rw[Nat.ble_eq];exact h3
     simp only[e1,e2,Bool.and_self,h6]
   | agg cs=>
     obtain⟨ds,h1,rfl⟩:=h
     obtain⟨H',h2,h3⟩:=zek (fun k=>Ic.ice k) h1
     refine⟨H',?_,h3⟩
     have e:zc8 (n+1) (.agg cs) H=match zb2 (zc8 n) cs H with
      | some (ds,H)=>some (.agg ds,H)
      | none=>none:=rfl
     rw[e,h2]
   | ptr r o=>
     obtain⟨k,hk⟩:=h.1
     exact absurd (hk (k+1) (by omega) H) (by simp[iceV])
   | map r=>
     obtain⟨k,hk⟩:=h.1
     exact absurd (hk (k+1) (by omega) H) (by simp[iceV])
   | _=>exact⟨H,by rw[show u=_ from h.2];rfl,Icy.refl S H⟩
theorem Ic.iceL {S:Nat→Prop}{n:Nat}{l m:List AV}{H:Hp} (h:zbf (Ic S n H) l m):∃ H',zb2 (zc8 n) l H=some (m,H')∧Icy S H H':=zek (fun k=>Ic.ice k) h
theorem zfE {S:Nat→Prop}{n:Nat}{H:Hp} (ih:∀ {v u:AV},Ic S n H v u→∃ m0,∀ m,m0≤m→iceV H m v=some u):∀ {l k:List AV},zbf (Ic S n H) l k→∃ m0,∀ m,m0≤m→iceL (iceV H m) l=some k
 | [],[],_=>⟨0,fun _ _=>rfl⟩
 | a::l,b::k,h=>by
   obtain⟨m1,h1⟩:=ih h.1
   obtain⟨m2,h2⟩:=zfE ih (l:=l) (k:=k) h.2
   exact⟨max m1 m2,fun m hm=>by simp only[iceL,h1 m (by omega),h2 m (by omega)]⟩
theorem Ic.iceV {S:Nat→Prop}{H:Hp}:∀ {n:Nat}{v u:AV},Ic S n H v u→∃ m0,∀ m,m0≤m→iceV H m v=some u
 | 0,_,_,h=>h.elim
 | n+1,v,u,h=>by
   cases v with
   | sl r off len z=>
     obtain⟨h1,h0,cs,imm,tip,l,h2,h3,h4,h5,rfl⟩:=h
     obtain⟨m0,hm0⟩:=zfE (fun k=>Ic.iceV k) h5
     refine⟨m0+1,fun m hm=>?_⟩
     obtain⟨m,rfl⟩:∃ k,m=k+1:=⟨m - 1,by omega⟩
     have e:Ab.iceV H (m+1) (.sl r off len z)=match H.get r with
      | some (.cells cs _ _)=>match Ab.iceL (Ab.iceV H m) ((cs.drop off).take (len * z))with
        | some l'=>if l'.length=len * z then some (.lst (za1 z len l'))else none
        | none=>none
      | _=>none:=rfl
     have hl:l.length=len * z:=by rw[← h5.len,List.length_take,List.length_drop];omega
     rw[e,h2]
     simp only[hm0 m (by omega),hl,if_true]
   | agg cs=>
     obtain⟨ds,h1,rfl⟩:=h
     obtain⟨m0,hm0⟩:=zfE (fun k=>Ic.iceV k) h1
     refine⟨m0+1,fun m hm=>?_⟩
     obtain⟨m,rfl⟩:∃ k,m=k+1:=⟨m - 1,by omega⟩
     have e:Ab.iceV H (m+1) (.agg cs)=match Ab.iceL (Ab.iceV H m) cs with
      | some ds=>some (.agg ds)
      | none=>none:=rfl
     rw[e,hm0 m (by omega)]
   | _=>
     obtain⟨k,hk⟩:=h.1
     exact⟨k,fun m hm=>by rw[hk m hm H,h.2]⟩
theorem zif (z:Nat):∀ (rows:List (List AV)),(∀ r∈rows,r.length=z)→za1 z rows.length rows.flatten=rows
 | [],_=>rfl
 | r::rows,h=>by
   have h1:=h r List.mem_cons_self
   rw[List.flatten_cons,List.length_cons]
   show(r++rows.flatten).take z::za1 z rows.length ((r++rows.flatten).drop z)=_
   rw[List.take_append_of_le_length (by omega),List.take_of_length_le (by omega),List.drop_append_of_le_length (by omega),List.drop_of_length_le (by omega),List.nil_append,zif z rows fun q hq=>h q (List.mem_cons_of_mem _ hq)]
theorem zdZ {z:Nat}:∀ {rows:List (List AV)},(∀ r∈rows,r.length=z)→rows.flatten.length=rows.length * z
 | [],_=>by simp
 | r::rows,h=>by
   rw[List.flatten_cons,List.length_append,h r List.mem_cons_self,zdZ fun q hq=>h q (List.mem_cons_of_mem _ hq),List.length_cons,Nat.succ_mul];omega
theorem zbf.flat {p:AV→AV→Prop}:∀ {a b:List (List AV)},zbf (zbf p) a b→zbf p a.flatten b.flatten
 | [],[],_=>trivial
 | _::_,_::_,h=>by rw[List.flatten_cons,List.flatten_cons];exact h.1.append (zbf.flat h.2)
theorem zbf.rowlen {p:AV→AV→Prop}{z:Nat}:∀ {a b:List (List AV)},zbf (zbf p) a b→(∀ r∈a,r.length=z)→∀ r∈b,r.length=z
 | [],[],_,_,r,hr=>by simp at hr
 | x::a,y::b,h,hz,r,hr=>by
   rcases List.mem_cons.1 hr with rfl|hr
   ·rw[← h.1.len];exact hz x List.mem_cons_self
   ·exact zbf.rowlen h.2 (fun q hq=>hz q (List.mem_cons_of_mem _ hq)) r hr
theorem Ic.rows {S:Nat→Prop}{n:Nat}{H:Hp}{r z imm:Nat}{tip:Bool}{a b:List (List AV)} (hS:S r) (hr:r < H.next) (hg:H.get r=some (.cells a.flatten imm tip)) (hi:imm≤a.flatten.length) (hz:∀ x∈a,x.length=z) (h:zbf (zbf (Ic S n H)) a b):Ic S (n+1) H (.sl r 0 a.length z) (.lst b):=by
 have hl:=zdZ hz
 refine⟨hS,hr,a.flatten,imm,tip,b.flatten,hg,hi,by omega,?_,?_⟩
 ·rw[List.drop_zero,List.take_of_length_le (by omega)];exact h.flat
 ·rw[h.len,zif z b (h.rowlen hz)]
theorem VRs.wk {G:Gh} (n:Nat):∀ {args:List AV}{vs:List Value},VRs G args vs→VRs G (args.map (wkN n)) vs
 | [],vs,h=>h
 | a::l,[],h=>by have:=h.1;simp at this
 | a::l,v::vs,h=>by
   obtain⟨h1,h2⟩:=h.of_cons
   exact VRs.cons (h1.wk n) (VRs.wk n h2)
theorem Con.wkA {P:Program}{ρ:Nat→Int}{f:FuncId}{args:List AV}{r:AV} (n:Nat) (h:Con P ρ f (args.map (wkN n)) r):Con P ρ f args r:=⟨h.1,fun G w vs h1 h2 h3=>h.2 G w vs h1 h2 (h3.wk n)⟩
def enW (e:En):En:=⟨e.f,e.ice,fun args=>e.sp (args.map (wkN 60))⟩
theorem enW_ok {P:Program}{ρ:Nat→Int}{e:En} (h:zbI P ρ e):zbI P ρ (enW e):=fun args r hr=>(h _ r hr).wkA 60
end Go.Ab
namespace Go.Proofs.Ytpbcimfiofmoeaa
set_option maxRecDepth 20000
open Go Go.Ab
def zew (H:Hp) (v:AV) (l:List Int) (lo:Nat):Prop:=∃ r imm,v=.sl r 0 l.length 1∧H.get r=some (.cells (l.map (.int .i64)) imm true)∧imm≤l.length∧lo≤r∧r < H.next
def zex (H:Hp) (v:AV) (l:List Int) (lo:Nat):Prop:=(v=.nilS∧l=[])∨zew H v l lo
theorem zew.low {H H':Hp}{v:AV}{l:List Int}{lo:Nat} (h:zew H v l lo) (hn:H.next≤H'.next) (hg:∀ k,lo≤k→k < H.next→H'.get k=H.get k):zew H' v l lo:=by
 obtain⟨r,imm,h1,h2,h3,h4,h5⟩:=h
 exact⟨r,imm,h1,by rw[hg r h4 h5];exact h2,h3,h4,by omega⟩
theorem zew.lt {H:Hp}{v:AV}{l:List Int}{lo:Nat} (h:zew H v l lo) {k:Nat} (hk:yq v k):lo≤k∧k < H.next:=by
 obtain⟨r,imm,rfl,_,_,h4,h5⟩:=h
 obtain⟨n,e⟩:=hk
 simp only[AV.sl.injEq]at e
 rw[← e.1];exact⟨h4,h5⟩
theorem zex.lt {H:Hp}{v:AV}{l:List Int}{lo:Nat} (h:zex H v l lo) {k:Nat} (hk:yq v k):lo≤k∧k < H.next:=by
 rcases h with ⟨rfl,_⟩|h
 ·obtain⟨n,e⟩:=hk;simp at e
 ·exact h.lt hk
theorem zew.keep {H H':Hp}{v:AV}{l:List Int}{lo:Nat} (h:zew H v l lo) (hn:H.next≤H'.next) (hg:∀ k,yq v k→H'.get k=H.get k):zew H' v l lo:=by
 obtain⟨r,imm,rfl,h2,h3,h4,h5⟩:=h
 exact⟨r,imm,rfl,by rw[hg r ⟨_,rfl⟩];exact h2,h3,h4,by omega⟩
theorem zex.keep {H H':Hp}{v:AV}{l:List Int}{lo:Nat} (h:zex H v l lo) (hn:H.next≤H'.next) (hg:∀ k,yq v k→H'.get k=H.get k):zex H' v l lo:=h.imp id fun h=>h.keep hn hg
theorem iOne (l:List Int):(l.map (AV.int .i64)).all AV.one=true:=by simp[AV.one]
theorem zcX {H:Hp}{r imm:Nat}{m:List Int} (h:H.get r=some (.cells (m.map (.int .i64)) imm true)):yk H 1 (.sl r 0 m.length 1)=some (m.length,m.map (.int .i64)):=by
 have:=zdV (H:=H) (r:=r) (o:=0) (n:=m.length) (z:=1) (s:=1) h (by simp)
 rw[this,List.drop_zero,List.take_of_length_le (by simp)]
theorem zlk {H:Hp}{v x:AV}{l m:List Int}{lo:Nat} (hv:zex H v l lo) (hlo:lo≤H.next) (hx:yk H 1 x=some (m.length,m.map (.int .i64))) (hm:m≠[]) (hb:l.length+m.length < 2 ^ 40) :
 ∃ v' H',zX Try.prog false H 23 23 v x=some (v',H')∧zew H' v' (l++m) lo∧H'.next=H.next+1∧(∀ k,k < lo→H'.get k=H.get k)∧zgQ v v' H H':=by
 obtain⟨n,hn⟩:∃ n,m.length=n+1:=⟨m.length - 1,by have:=List.length_pos_iff.2 hm;omega⟩
 have hmr:zW=70368744177664:=rfl
 rw[hn]at hx
 rcases hv with ⟨rfl,rfl⟩|⟨r,imm,rfl,h2,h3,h4,h5⟩
 ·refine⟨.sl H.next 0 (n+1) 1,H.alloc (.cells (m.map (.int .i64)) 0 true),append_nil Try.underlying23 sz3 bt3 zr3 (by kernel_rfl) hx (iOne m) rfl (by rw[hmr];omega) (by rw[hmr];omega),⟨H.next,0,by simp[hn],by rw[za,if_pos rfl];rfl,by omega,hlo,Nat.lt_succ_self _⟩,rfl,fun k hk=>by rw[za,if_neg (by omega)],fun k hk _=>by rw[za,if_neg (by omega)],fun k hk=>.inr ?_⟩
  obtain⟨n',e⟩:=hk
  simp only[AV.sl.injEq]at e
  omega
 ·have htr:zae false H 1 (.sl r 0 l.length 1)=H:=by
   unfold zae
   simp only[h2,Nat.zero_add,List.length_map,Nat.mul_one]
   have:Nat.blt l.length l.length=false:=by
    cases hb:Nat.blt l.length l.length with
    | false=>rfl
    | true=>rw[Nat.blt_eq]at hb;omega
   simp[this]
  refine⟨.sl H.next 0 (l.length+(n+1)) 1,(H.kill r).alloc (.cells (l.map (.int .i64)++m.map (.int .i64)) (imm - 0) true),?_,⟨H.next,imm,by simp[hn],?_,by simp;omega,hlo,Nat.lt_succ_self _⟩,rfl,fun k hk=>?_,fun k hk hno=>?_,fun k hk=>.inr ?_⟩
  ·simp only[zX,Try.underlying23,sz3,bt3,zr3,show jh Try.prog 23=true by kernel_rfl,hx,iOne,htr,and_self,if_true,List.length_cons,List.length_nil,yY,h2,List.length_map,Nat.zero_add,Nat.mul_one,List.drop_zero]
   rw[if_pos ⟨by rw[hmr];omega,by rw[hmr];omega,trivial,trivial,h3⟩]
   simp
  ·show((H.kill r).alloc _).get (H.kill r).next=_
   rw[za,if_pos rfl];simp
  ·rw[za,if_neg (by simp only[zY];omega),zR,if_neg (by omega)]
  ·rw[za,if_neg (by simp only[zY];omega),zR,if_neg (fun e=>hno ⟨_,by rw[e]⟩)]
  ·obtain⟨n',e⟩:=hk
   simp only[AV.sl.injEq]at e
   omega
theorem zll {H:Hp}{v:AV}{l:List Int}{lo r imm:Nat} (s:Int) (hv:zex H v l lo) (hlo:lo≤H.next) (hs:H.get r=some (.cells [.int .i64 s] imm true)) (hb:l.length < 2 ^ 39) :
 ∃ v' H',zX Try.prog false H 23 23 v (.sl r 0 1 1)=some (v',H')∧zew H' v' (l++[s]) lo∧H'.next=H.next+1∧(∀ k,k < lo→H'.get k=H.get k)∧zgQ v v' H H':=
 zlk hv hlo (zcX (m:=[s]) hs) (by simp) (by simp;omega)
theorem zlm {H:Hp}{v w:AV}{l m:List Int}{lo lo':Nat} (hv:zew H v l lo) (hlo:lo≤H.next) (hw:zex H w m lo') (hb:l.length+m.length < 2 ^ 40) :
 ∃ v' H',zX Try.prog false H 23 23 v w=some (v',H')∧zew H' v' (l++m) lo∧H.next≤H'.next∧(∀ k,k < lo→H'.get k=H.get k)∧zgQ v v' H H':=by
 by_cases hm:m=[]
 ·subst hm
  refine⟨v,H,?_,by rw[List.append_nil];exact hv,Nat.le_refl _,fun _ _=>rfl,fun _ _ _=>rfl,fun _ h=>.inl h⟩
  obtain⟨r,imm,rfl,h2,_⟩:=hv
  rcases hw with ⟨rfl,_⟩|⟨r',imm',rfl,g2,_⟩
  ·simp only[zX,Try.underlying23,sz3,bt3,zr3,show jh Try.prog 23=true by kernel_rfl,yk]
  ·have g3:=zcX g2
   simp only[List.length_nil]at g3
   simp only[zX,Try.underlying23,sz3,bt3,zr3,show jh Try.prog 23=true by kernel_rfl,List.length_nil,g3]
 ·rcases hw with ⟨_,h⟩|⟨r',imm',rfl,g2,_⟩
  ·exact(hm h).elim
  ·obtain⟨v',H',h1,h2,h3,h4⟩:=zlk (.inr hv) hlo (zcX g2) hm hb
   exact⟨v',H',h1,h2,by omega,h4⟩
theorem zew.len {H H':Hp}{v:AV}{l:List Int}{lo:Nat} (h:zew H v l lo):ye Try.prog H' 23 v=some (.int .i64 l.length):=by
 obtain⟨r,imm,rfl,_⟩:=h
 exact jq Try.underlying23 _ _ _ _
theorem zew.at {H:Hp}{v:AV}{l:List Int}{lo:Nat} (h:zew H v l lo) {i:Nat} (hi:i < l.length) :
 ∃ r,zq Try.prog 23 v (.int .i64 (i:Int))=some (.ptr r i)∧zaZ Try.prog H 3 (.ptr r i)=some (.int .i64 l[i]):=by
 obtain⟨r,imm,rfl,h2,_⟩:=h
 refine⟨r,?_,?_⟩
 ·rw[zdU Try.underlying23 sz3 hi];simp
 ·rw[zh2 Try.underlying3 rfl h2,List.getElem?_map,List.getElem?_eq_getElem hi];rfl
def IntZ (H:Hp) (v:AV) (l:List Int) (lo:Nat):Prop:=∃ r,v=.sl r 0 l.length 1∧H.get r=some (.cells (l.map (.int .i64)) 0 true)∧lo≤r∧r < H.next
def zfF (H:Hp) (v:AV) (l:List Int) (lo:Nat):Prop:=(v=.nilS∧l=[])∨IntZ H v l lo
theorem IntZ.b {H:Hp}{v:AV}{l:List Int}{lo:Nat} (h:IntZ H v l lo):zew H v l lo:=by
 obtain⟨r,h1,h2,h3,h4⟩:=h
 exact⟨r,0,h1,h2,Nat.zero_le _,h3,h4⟩
theorem zfF.n {H:Hp}{v:AV}{l:List Int}{lo:Nat} (h:zfF H v l lo):zex H v l lo:=h.imp id fun h=>h.b
theorem IntZ.keep {H H':Hp}{v:AV}{l:List Int}{lo:Nat} (h:IntZ H v l lo) (hn:H.next≤H'.next) (hg:∀ k,yq v k→H'.get k=H.get k):IntZ H' v l lo:=by
 obtain⟨r,rfl,h2,h4,h5⟩:=h
 exact⟨r,rfl,by rw[hg r ⟨_,rfl⟩];exact h2,h4,by omega⟩
theorem zfF.keep {H H':Hp}{v:AV}{l:List Int}{lo:Nat} (h:zfF H v l lo) (hn:H.next≤H'.next) (hg:∀ k,yq v k→H'.get k=H.get k):zfF H' v l lo:=h.imp id fun h=>h.keep hn hg
theorem zln {H:Hp}{v x:AV}{l m:List Int}{lo:Nat} (hv:zfF H v l lo) (hlo:lo≤H.next) (hx:yk H 1 x=some (m.length,m.map (.int .i64))) (hm:m≠[]) (hb:l.length+m.length < 2 ^ 40) :
 ∃ v' H',zX Try.prog false H 23 23 v x=some (v',H')∧IntZ H' v' (l++m) lo∧H'.next=H.next+1∧(∀ k,k < lo→H'.get k=H.get k)∧zgQ v v' H H':=by
 obtain⟨n,hn⟩:∃ n,m.length=n+1:=⟨m.length - 1,by have:=List.length_pos_iff.2 hm;omega⟩
 have hmr:zW=70368744177664:=rfl
 rw[hn]at hx
 rcases hv with ⟨rfl,rfl⟩|⟨r,rfl,h2,h4,h5⟩
 ·refine⟨.sl H.next 0 (n+1) 1,H.alloc (.cells (m.map (.int .i64)) 0 true),append_nil Try.underlying23 sz3 bt3 zr3 (by kernel_rfl) hx (iOne m) rfl (by rw[hmr];omega) (by rw[hmr];omega),⟨H.next,by simp[hn],by rw[za,if_pos rfl];rfl,hlo,Nat.lt_succ_self _⟩,rfl,fun k hk=>by rw[za,if_neg (by omega)],fun k hk _=>by rw[za,if_neg (by omega)],fun k hk=>.inr ?_⟩
  obtain⟨n',e⟩:=hk
  simp only[AV.sl.injEq]at e
  omega
 ·have htr:zae false H 1 (.sl r 0 l.length 1)=H:=by
   unfold zae
   simp only[h2,Nat.zero_add,List.length_map,Nat.mul_one]
   have:Nat.blt l.length l.length=false:=by
    cases hb:Nat.blt l.length l.length with
    | false=>rfl
    | true=>rw[Nat.blt_eq]at hb;omega
   simp[this]
  refine⟨.sl H.next 0 (l.length+(n+1)) 1,(H.kill r).alloc (.cells (l.map (.int .i64)++m.map (.int .i64)) (0 - 0) true),?_,⟨H.next,by simp[hn],?_,hlo,Nat.lt_succ_self _⟩,rfl,fun k hk=>?_,fun k hk hno=>?_,fun k hk=>.inr ?_⟩
  ·simp only[zX,Try.underlying23,sz3,bt3,zr3,show jh Try.prog 23=true by kernel_rfl,hx,iOne,htr,and_self,if_true,List.length_cons,List.length_nil,yY,h2,List.length_map,Nat.zero_add,Nat.mul_one,List.drop_zero]
   rw[if_pos ⟨by rw[hmr];omega,by rw[hmr];omega,trivial,trivial,Nat.zero_le _⟩]
   simp
  ·show((H.kill r).alloc _).get (H.kill r).next=_
   rw[za,if_pos rfl];simp
  ·rw[za,if_neg (by simp only[zY];omega),zR,if_neg (by omega)]
  ·rw[za,if_neg (by simp only[zY];omega),zR,if_neg (fun e=>hno ⟨_,by rw[e]⟩)]
  ·obtain⟨n',e⟩:=hk
   simp only[AV.sl.injEq]at e
   omega
theorem repB (n:Nat):rep [.bool false] n=(List.replicate n false).map .bool:=by
 induction n with
 | zero=>rfl
 | succ n ih=>simp only[rep,ih];simp[List.replicate_succ]
theorem makeB {H:Hp} (n:Nat) (hc:n < 2 ^ 40):jB Try.prog H 107 (.int .i64 n) (.int .i64 n)=some (.sl H.next 0 n 1,H.alloc (.cells ((List.replicate n false).map .bool) 0 true)):=by
 have hm:zW=70368744177664:=rfl
 show jB Try.prog H 107 (.int .i64 (Int.ofNat n)) (.int .i64 (Int.ofNat n))=_
 simp only[jB,Try.underlying107,sz4,bt4,zr4]
 rw[if_pos ⟨Nat.le_refl _,by rw[hm];omega,by rw[hm];omega,rfl⟩,repB]
theorem splice_one (cs:List AV) {o:Nat} (ho:o < cs.length) (x:AV):splice cs o [x]=cs.set o x:=by
 rw[zjg,List.set_eq_take_append_cons_drop,if_pos ho];simp
theorem zuv {H:Hp}{r o:Nat}{cs:List AV} (hg:H.get r=some (.cells cs 0 true)) (ho:o < cs.length) (n:Int):zbr Try.prog H 3 (.ptr r o) (.int .i64 n)=some (H.set r (.cells (cs.set o (.int .i64 n)) 0 true)):=by
 rw[zh3,hg,sz3,zdj,cells_int,splice_one cs ho,if_pos ⟨rfl,Nat.zero_le _,ho,rfl⟩]
theorem zqz {H:Hp}{r o:Nat}{cs:List AV} (hg:H.get r=some (.cells cs 0 true)) (ho:o < cs.length) (b:Bool):zbr Try.prog H 4 (.ptr r o) (.bool b)=some (H.set r (.cells (cs.set o (.bool b)) 0 true)):=by
 rw[zh3,hg,sz4,zdj,zh4,splice_one cs ho,if_pos ⟨rfl,Nat.zero_le _,ho,rfl⟩]
def zgi (H:Hp) (v:AV) (l:List Int) (lo:Nat):Prop:=∃ r imm,v=.sl r 0 l.length 1∧H.get r=some (.cells (l.map (.int .u8)) imm true)∧imm≤l.length∧lo≤r∧r < H.next
def BytN (H:Hp) (v:AV) (l:List Int) (lo:Nat):Prop:=(v=.nilS∧l=[])∨zgi H v l lo
theorem zgi.low {H H':Hp}{v:AV}{l:List Int}{lo:Nat} (h:zgi H v l lo) (hn:H.next≤H'.next) (hg:∀ k,lo≤k→k < H.next→H'.get k=H.get k):zgi H' v l lo:=by
 obtain⟨r,imm,h1,h2,h3,h4,h5⟩:=h
 exact⟨r,imm,h1,by rw[hg r h4 h5];exact h2,h3,h4,by omega⟩
theorem zgi.lt {H:Hp}{v:AV}{l:List Int}{lo:Nat} (h:zgi H v l lo) {k:Nat} (hk:yq v k):lo≤k∧k < H.next:=by
 obtain⟨r,imm,rfl,_,_,h4,h5⟩:=h
 obtain⟨n,e⟩:=hk
 simp only[AV.sl.injEq]at e
 rw[← e.1];exact⟨h4,h5⟩
theorem zgi.keep {H H':Hp}{v:AV}{l:List Int}{lo:Nat} (h:zgi H v l lo) (hn:H.next≤H'.next) (hg:∀ k,yq v k→H'.get k=H.get k):zgi H' v l lo:=by
 obtain⟨r,imm,rfl,h2,h3,h4,h5⟩:=h
 exact⟨r,imm,rfl,by rw[hg r ⟨_,rfl⟩];exact h2,h3,h4,by omega⟩
theorem bOne (l:List Int):(l.map (AV.int .u8)).all AV.one=true:=by simp[AV.one]
theorem zqA {H:Hp}{r imm:Nat}{m:List Int} (h:H.get r=some (.cells (m.map (.int .u8)) imm true)):yk H 1 (.sl r 0 m.length 1)=some (m.length,m.map (.int .u8)):=by
 have:=zdV (H:=H) (r:=r) (o:=0) (n:=m.length) (z:=1) (s:=1) h (by simp)
 rw[this,List.drop_zero,List.take_of_length_le (by simp)]
theorem zqB {H:Hp}{v x:AV}{l m:List Int}{lo:Nat} (hv:BytN H v l lo) (hlo:lo≤H.next) (hx:yk H 1 x=some (m.length,m.map (.int .u8))) (hm:m≠[]) (hb:l.length+m.length < 2 ^ 40) :
 ∃ v' H',zX Try.prog false H 61 61 v x=some (v',H')∧zgi H' v' (l++m) lo∧H'.next=H.next+1∧(∀ k,k < lo→H'.get k=H.get k)∧zgQ v v' H H':=by
 obtain⟨n,hn⟩:∃ n,m.length=n+1:=⟨m.length - 1,by have:=List.length_pos_iff.2 hm;omega⟩
 have hmr:zW=70368744177664:=rfl
 rw[hn]at hx
 rcases hv with ⟨rfl,rfl⟩|⟨r,imm,rfl,h2,h3,h4,h5⟩
 ·refine⟨.sl H.next 0 (n+1) 1,H.alloc (.cells (m.map (.int .u8)) 0 true),append_nil Try.underlying61 sz5 bt5 zr5 (by kernel_rfl) hx (bOne m) rfl (by rw[hmr];omega) (by rw[hmr];omega),⟨H.next,0,by simp[hn],by rw[za,if_pos rfl];rfl,by omega,hlo,Nat.lt_succ_self _⟩,rfl,fun k hk=>by rw[za,if_neg (by omega)],fun k hk _=>by rw[za,if_neg (by omega)],fun k hk=>.inr ?_⟩
  obtain⟨n',e⟩:=hk
  simp only[AV.sl.injEq]at e
  omega
 ·have htr:zae false H 1 (.sl r 0 l.length 1)=H:=by
   unfold zae
   simp only[h2,Nat.zero_add,List.length_map,Nat.mul_one]
   have:Nat.blt l.length l.length=false:=by
    cases hb:Nat.blt l.length l.length with
    | false=>rfl
    | true=>rw[Nat.blt_eq]at hb;omega
   simp[this]
  refine⟨.sl H.next 0 (l.length+(n+1)) 1,(H.kill r).alloc (.cells (l.map (.int .u8)++m.map (.int .u8)) (imm - 0) true),?_,⟨H.next,imm,by simp[hn],?_,by simp;omega,hlo,Nat.lt_succ_self _⟩,rfl,fun k hk=>?_,fun k hk hno=>?_,fun k hk=>.inr ?_⟩
  ·simp only[zX,Try.underlying61,sz5,bt5,zr5,show jh Try.prog 61=true by kernel_rfl,hx,bOne,htr,and_self,if_true,List.length_cons,List.length_nil,yY,h2,List.length_map,Nat.zero_add,Nat.mul_one,List.drop_zero]
   rw[if_pos ⟨by rw[hmr];omega,by rw[hmr];omega,trivial,trivial,h3⟩]
   simp
  ·show((H.kill r).alloc _).get (H.kill r).next=_
   rw[za,if_pos rfl];simp
  ·rw[za,if_neg (by simp only[zY];omega),zR,if_neg (by omega)]
  ·rw[za,if_neg (by simp only[zY];omega),zR,if_neg (fun e=>hno ⟨_,by rw[e]⟩)]
  ·obtain⟨n',e⟩:=hk
   simp only[AV.sl.injEq]at e
   omega
theorem zqC {H:Hp}{v:AV}{l:List Int}{lo r imm:Nat} (s:Int) (hv:BytN H v l lo) (hlo:lo≤H.next) (hs:H.get r=some (.cells [.int .u8 s] imm true)) (hb:l.length < 2 ^ 39) :
 ∃ v' H',zX Try.prog false H 61 61 v (.sl r 0 1 1)=some (v',H')∧zgi H' v' (l++[s]) lo∧H'.next=H.next+1∧(∀ k,k < lo→H'.get k=H.get k)∧zgQ v v' H H':=
 zqB hv hlo (zqA (m:=[s]) hs) (by simp) (by simp;omega)
theorem bu1 (H:Hp) (n:Int):zI Try.prog H 61 1 [(0,.int .u8 n)]=some (.sl H.next 0 1 1,H.alloc (.cells [.int .u8 n] 0 true)):=by kernel_rfl
theorem bin_shr {D:BinOp→Sx→Sx→Option Bool}{t:TypeId}{k k':IntKind}{a:Int}{m:Nat} (h:m < 64) (hk:k=.u64):jJ Try.prog D .shr t (.int k a) (.int k' (m:Int))=some (.int k (a.fdiv (2 ^ m))):=by
 subst hk
 have e:jJ Try.prog D .shr t (.int .u64 a) (.int k' (Int.ofNat m))=some (.int .u64 (a.fdiv (2 ^ min m 64))):=rfl
 rw[show min m 64=m by omega]at e
 exact e
def zce (n:Int) (i:Nat):Int:=IntKind.wrap .u8 (n.fdiv (2 ^ (8 * i)))
def jT (n:Int) (i:Nat):List Int:=(List.range i).map (zce n)
theorem zac (n:Int) (i:Nat):(jT n i).length=i:=by simp[jT]
theorem zlo (n:Int) (i:Nat):jT n (i+1)=jT n i++[zce n i]:=by simp[jT,List.range_succ]
def zlp (l:List Int):List UInt8:=l.map fun n=>UInt8.ofNat n.toNat
end Go.Proofs.Ytpbcimfiofmoeaa
namespace Go.Ab
set_option maxRecDepth 20000
open Go
instance:DecidableEq Nd:=fun x y=>decidable_of_iff (x.op=y.op∧x.imm=y.imm∧x.kids=y.kids) (by cases x;cases y;simp)
def arI (op:Int):Int×Bool:=
 if op=1∨op=2∨op=3∨op=26 then (0,true)
 else if op=20∨op=21∨op=24∨op=25 then (1,true)
 else if op=23∨op=27∨op=29 then (2,true)
 else if op=22∨op=28 then (3,true)
 else if op=30∨op=31 then (-1,true)
 else if 4≤op∧op≤19 then (2,true)
 else (0,false)
def lvI (n:Int):Int:=(n - 1).tdiv 2
def zj7 (l:List Nd) (k:Int):Int:=match l[k.toNat]? with
 | some n=>n.kids.length
 | none=>0
def zbo (l:List Nd) (n:Nd):Int:=
 if n.op=2 then 5 else if n.op=3 then 255 else if n.op=23∨n.op=28 then 3 else if n.op=30 then 7 else if n.op=31 then 15
 else if n.op=25 then lvI (zj7 l (n.kids.headD 0)) - 1 else 0
def zbb (l:List Nd) (n:Nd):Bool:=
 if n.op=1 then true
 else if n.op=27 then decide (1≤n.imm)&&decide (n.imm≤1000016)
 else decide (0≤n.imm)&&decide (n.imm≤zbo l n)
def zfG (op:Int):List Int:=
 if op=22 then [1,1,1]else if op=23∨op=27∨op=29 then [2,1]else if op=28 then [2,1,1]else if op=24 then [2]else if op=25 then [3]else [1,1]
def jm:List Int→List Int→Bool
 | [],_=>true
 | a::s,w=>decide (a=w.headD 0)&&jm s w.tail
def znQ (n:Nat):List Int:=((List.replicate n (1:Int)).set 0 2).set (lvI n+1).toNat 2
def yR (op:Int) (s:List Int):Bool:=
 if (arI op).2=false then false
 else if 0≤(arI op).1∧(arI op).1≠s.length then false
 else if op=31 then decide (3≤s.length)&&decide (s.length % 2=1)&&decide (lvI s.length≤16)&&jm s (znQ s.length)
 else if op=30 then decide (1≤s.length)&&decide (s.length≤7)&&decide (s.headD 0=2)&&s.tail.all fun x=>decide (x=1)
 else if op=22∧s.getD 1 0=2 then decide (s.headD 0=1)&&decide (s.getD 2 0=2)
 else jm s (zfG op)
def zbJ (i:Nat) (known:List Int):List Int→Option (List Int)
 | []=>some []
 | k::ks=>if k < 0∨(i:Int)≤k∨known.getD k.toNat 0=0 then none else (zbJ i known ks).map fun s=>known.getD k.toNat 0::s
def zdE (n:Nd) (s:List Int):Int:=
 if n.op=31 then 3
 else if n.op=26∨n.op=27∨n.op=28∨n.op=29∨n.op=30 then 2
 else if n.op=22 then s.getD 1 0
 else if n.op=3∧n.imm.tmod 16=0 then 2
 else if n.op=25∧n.imm=0 then 2
 else 1
def zeK (l:List Nd) (i:Nat) (known:List Int):Int:=match l[i]? with
 | none=>0
 | some n=>match zbJ i known n.kids with
   | none=>0
   | some s=>if yR n.op s&&zbb l n then zdE n s else 0
def jN (l:List Nd):Nat→List Int
 | 0=>[]
 | i+1=>jN l i++[zeK l i (jN l i)]
def zaI (l:List Nd) (i:Int):Int:=if i < 0∨(l.length:Int)≤i then 0 else (jN (l.take (i.toNat+1)) (i.toNat+1)).getD i.toNat 0
theorem zdn (l:List Nd):∀ i,(jN l i).length=i
 | 0=>rfl
 | i+1=>by rw[jN,List.length_append,zdn l i];rfl
theorem ze4 (l:List Nd):∀ {i j:Nat},j < i→(jN l i).getD j 0=zeK l j (jN l j)
 | 0,j,h=>by omega
 | i+1,j,h=>by
   rw[jN]
   by_cases e:j < i
   ·rw[List.getD_eq_getElem?_getD,List.getElem?_append_left (by rw[zdn];exact e),← List.getD_eq_getElem?_getD]
    exact ze4 l e
   ·obtain rfl:j=i:=by omega
    rw[List.getD_eq_getElem?_getD,List.getElem?_append_right (by rw[zdn];omega),zdn,Nat.sub_self];rfl
theorem zcY {i:Nat}{known:List Int}:∀ {ks s:List Int},zbJ i known ks=some s→∀ k∈ks,0≤k∧k < i∧known.getD k.toNat 0≠0
 | [],s,_,k,h=>by simp at h
 | a::ks,s,h,k,hk=>by
   rw[zbJ]at h
   split at h
   ·cases h
   ·rename_i c
    obtain⟨t,ht,_⟩:=Option.map_eq_some_iff.1 h
    rcases List.mem_cons.1 hk with rfl|hk
    ·omega
    ·exact zcY ht k hk
theorem zgj {i:Nat}{known:List Int}:∀ {ks s:List Int},zbJ i known ks=some s→s.length=ks.length
 | [],s,h=>by cases h;rfl
 | a::ks,s,h=>by
   rw[zbJ]at h
   split at h
   ·cases h
   ·obtain⟨t,ht,rfl⟩:=Option.map_eq_some_iff.1 h
    rw[List.length_cons,List.length_cons,zgj ht]
theorem zig {l:List Nd}{i:Nat}{known:List Int}{n:Nd} (hn:l[i]?=some n) (h:zeK l i known≠0):∃ s,zbJ i known n.kids=some s∧yR n.op s=true∧zbb l n=true:=by
 unfold zeK at h
 rw[hn]at h
 simp only at h
 split at h
 ·exact absurd rfl h
 ·rename_i s hs
  split at h
  ·rename_i c
   rw[Bool.and_eq_true]at c
   exact⟨s,hs,c.1,c.2⟩
  ·exact absurd rfl h
theorem zjj {l:List Nd}{m:Nat}{n:Nd} (h:n.op=25→∃ k ks,n.kids=k::ks∧k.toNat < m):zbb (l.take m) n=zbb l n:=by
 have e:zbo (l.take m) n=zbo l n:=by
  unfold zbo
  by_cases c:n.op=25
  ·obtain⟨k,ks,h1,h2⟩:=h c
   rw[c]
   simp only[h1,List.headD_cons,zj7,List.getElem?_take,h2,if_true]
  ·simp only[c,if_false]
 unfold zbb
 rw[e]
theorem zmJ {l:List Nd}{i m:Nat} (hm:i < m) (known:List Int):zeK (l.take m) i known=zeK l i known:=by
 unfold zeK
 rw[List.getElem?_take,if_pos hm]
 cases hn:l[i]? with
 | none=>rfl
 | some n=>
   simp only
   cases hk:zbJ i known n.kids with
   | none=>rfl
   | some s=>
     simp only
     by_cases c:yR n.op s=true
     ·have e:zbb (l.take m) n=zbb l n:=zjj fun h25=>by
       have hl:=zgj hk
       have h1:s.length=1:=by
        have c2:=c
        unfold yR at c2
        rw[h25]at c2
        have:arI 25=(1,true):=by decide
        rw[this]at c2
        simp only at c2
        split at c2
        ·cases c2
        ·split at c2
         ·cases c2
         ·omega
       cases hq:n.kids with
       | nil=>rw[hq,h1]at hl;simp at hl
       | cons k ks=>
         refine⟨k,ks,rfl,?_⟩
         have:=zcY hk k (by rw[hq];exact List.mem_cons_self)
         omega
      rw[e]
     ·have c':yR n.op s=false:=by simpa using c
      rw[c',Bool.false_and,Bool.false_and]
theorem zd0 {l:List Nd}{m:Nat}:∀ {i:Nat},i≤m→jN (l.take m) i=jN l i
 | 0,_=>rfl
 | i+1,h=>by rw[jN,jN,zd0 (by omega:i≤m),zmJ (by omega)]
theorem zd1 {l:List Nd}{i:Nat} (h:i < l.length):zaI l i=zeK l i (jN l i):=by
 unfold zaI
 rw[if_neg (by omega),Int.toNat_natCast,zd0 (Nat.le_refl _),ze4 l (Nat.lt_succ_self i)]
theorem zel {l:List Nd}{i j:Nat} (hj:j < i) (hi:i≤l.length):(jN l i).getD j 0=zaI l j:=by
 rw[ze4 l hj,zd1 (by omega)]
theorem zjk {l m:List Nd}{i:Nat} (h:i < l.length):zaI (l++m) i=zaI l i:=by
 unfold zaI
 rw[if_neg (by simp;omega),if_neg (by omega),Int.toNat_natCast,List.take_append_of_le_length (by omega)]
theorem zmK {l:List Nd}{i:Nat}{n:Nd} (hn:l[i]?=some n) (h:zaI l i≠0):∀ k∈n.kids,0≤k∧k < i∧zaI l k≠0:=by
 have hi:i < l.length:=by
  by_cases c:i < l.length
  ·exact c
  ·rw[List.getElem?_eq_none (by omega)]at hn;cases hn
 rw[zd1 hi]at h
 obtain⟨s,hs,_⟩:=zig hn h
 intro k hk
 obtain⟨h1,h2,h3⟩:=zcY hs k hk
 refine⟨h1,h2,?_⟩
 obtain⟨k,rfl⟩:=Int.eq_ofNat_of_zero_le h1
 rw[Int.toNat_natCast,zel (by omega) (by omega)]at h3
 exact h3
def zmL (k:List Int):Bool:=k.all fun x=>decide (x=1)
theorem ze5:∀ (s w:List Int),s.length≤w.length→(∀ x∈w,x=1)→jm s w=zmL s
 | [],w,_,_=>by simp[jm,zmL]
 | a::s,[],h,_=>by simp at h
 | a::s,b::w,h,hw=>by
   have hb:=hw b List.mem_cons_self
   subst hb
   rw[jm,List.headD_cons,List.tail_cons,ze5 s w (by simpa using h) (fun x hx=>hw x (List.mem_cons_of_mem _ hx))]
   simp[zmL]
theorem zdo (a b:Int) (s w:List Int):jm (a::s) (b::w)=(decide (a=b)&&jm s w):=rfl
theorem zi5 (n m:Nat) (h:m < n):(List.replicate n (1:Int)).set m 2=List.replicate m 1++2::List.replicate (n - m - 1) 1:=by
 apply List.ext_getElem?
 intro i
 rw[List.getElem?_set,List.getElem?_append]
 simp only[List.length_replicate]
 by_cases c:i < m
 ·rw[if_neg (by omega),if_pos c,List.getElem?_replicate,List.getElem?_replicate,if_pos (by omega),if_pos c]
 ·rw[if_neg c]
  by_cases e:m=i
  ·subst e;simp[h]
  ·rw[if_neg e]
   obtain⟨j,rfl⟩:∃ j,i=m+1+j:=⟨i - m - 1,by omega⟩
   rw[show m+1+j - m=j+1 by omega,List.getElem?_cons_succ,List.getElem?_replicate,List.getElem?_replicate]
   by_cases g:m+1+j < n
   ·rw[if_pos g,if_pos (by omega)]
   ·rw[if_neg g,if_neg (by omega)]
theorem zjl:∀ (a s w v:List Int),a.length=w.length→jm (a++s) (w++v)=(jm a w&&jm s v)
 | [],s,[],v,_=>by simp[jm]
 | x::a,s,y::w,v,h=>by
   rw[List.cons_append,List.cons_append,zdo,zdo,zjl a s w v (by simpa using h),Bool.and_assoc]
 | [],_,_::_,_,h=>by simp at h
 | _::_,_,[],_,h=>by simp at h
theorem zmM (n:Nat) (h:1≤n):lvI n=((n - 1) / 2:Nat):=by
 unfold lvI
 rw[show(n:Int) - 1=((n - 1:Nat):Int) by omega];rfl
theorem zmN (s:List Int) (h:3≤s.length) (ho:s.length % 2=1):jm s (znQ s.length)=(decide (s.headD 0=2)&&zmL ((s.drop 1).take (s.length / 2))&&decide (s.getD (s.length / 2+1) 0=2)&&zmL (s.drop (s.length / 2+2))):=by
 obtain⟨m,hm⟩:∃ m,s.length=2 * m+1:=⟨s.length / 2,by omega⟩
 have hm1:1≤m:=by omega
 have e1:s.length / 2=m:=by omega
 have e2:(lvI s.length+1).toNat=m+1:=by rw[zmM _ (by omega)];omega
 have hl:znQ s.length=2::(List.replicate m 1++2::List.replicate (m - 1) 1):=by
  unfold znQ
  rw[e2,hm]
  have e3:List.replicate (2 * m+1) (1:Int)=1::List.replicate (2 * m) 1:=rfl
  rw[e3,List.set_cons_zero,List.set_cons_succ,zi5 _ _ (by omega)]
  congr 4;omega
 rw[hl,e1]
 match s,hm with
 | a::t,hm=>
   have ht:t.length=2 * m:=by simpa using hm
   rw[zdo,List.headD_cons,List.drop_succ_cons,List.drop_zero]
   have hd:t=t.take m++t.drop m:=(List.take_append_drop m t).symm
   have htk:(t.take m).length=m:=by rw[List.length_take];omega
   conv=>lhs;rw[hd]
   rw[zjl _ _ _ _ (by rw[htk];simp),ze5 (t.take m) _ (by rw[htk];simp) (fun x hx=>List.eq_of_mem_replicate hx)]
   have hg:(a::t).getD (m+1) 0=t.getD m 0:=rfl
   have hdr:(a::t).drop (m+2)=t.drop (m+1):=rfl
   rw[hg,hdr]
   have hdd:t.drop m=t.getD m 0::t.drop (m+1):=by
    rw[List.drop_eq_getElem_cons (by omega),List.getD_eq_getElem?_getD,List.getElem?_eq_getElem (by omega)];rfl
   rw[hdd,zdo,ze5 (t.drop (m+1)) _ (by simp;omega) (fun x hx=>List.eq_of_mem_replicate hx),Bool.and_assoc,Bool.and_assoc]
end Go.Ab
namespace Go.Proofs.Ytpbcimfiofmoeaa
set_option maxRecDepth 20000
set_option maxRecDepth 20000
open Go Go.Ab
namespace tyR3b
def tyF:=And.intro @tq3 (And.intro @tq9 (And.intro @za9 (And.intro @zba (And.intro @zau (And.intro @zbw (@tq2))))))
end tyR3b
open tyR3b
noncomputable def zuw:{ c:SC // slim 22 (Try.f120.body.getD .skip)=c }:=by
 refine⟨?_,?_⟩
 rotate_left
 ·simp only[Try.f120,Option.getD_some,slim,zZ,zS,z6,z7,Nat.blt,Nat.ble]
  rfl
noncomputable def zux:{ c:SC // slim 78 (Try.f118.body.getD .skip)=c }:=by
 refine⟨?_,?_⟩
 rotate_left
 ·simp only[Try.f118,Option.getD_some,slim,zZ,zS,z6,z7,Nat.blt,Nat.ble]
  rfl
mutual
def yN:Ex→Nat
 | .mk _ _ _ _ ks=>za5 ks
def za5:List Ex→Nat
 | []=>0
 | e::es=>max (1+yN e) (za5 es)
end
theorem zuy (x:Ex):yN x=za5 x.kids:=by cases x;rw[yN];rfl
mutual
theorem znR:∀ x:Ex,yN x≤x.sz
 | .mk _ _ _ _ ks=>by have:=zlq ks;simp only[yN,Ex.sz];omega
theorem zlq:∀ l:List Ex,za5 l≤yc l
 | []=>Nat.le_refl _
 | e::es=>by have:=znR e;have:=zlq es;simp only[za5,yc];omega
end
def exE (x:Ex):List AV:=[.agg x.cells]
theorem zhm (x y:Ex) (h:exE x=exE y):x=y:=by simp only[exE,List.cons.injEq,AV.agg.injEq,and_true]at h;exact Ex.inj h
def zlr (l:List St):List AV:=[.lst (l.map St.cells)]
theorem zls (x y:List St) (h:zlr x=zlr y):x=y:=by simp only[zlr,List.cons.injEq,AV.lst.injEq,and_true]at h;exact zj5 h
theorem zo1 (ρ:Nat→Int):∀ x:Ex,x.sz < 2 ^ 60→Con Try.prog ρ 120 [.agg x.cells] (.int .i64 (yN x)):=
 zia fit (pls:=pls) (l:=[]) trivial (fun x=>x.sz) (ok:=fun x=>x.sz < 2 ^ 60) (enc:=exE) (out:=fun x=>.int .i64 (yN x)) (fun x _=>.cons (.agg x.pure) .nil) (fun x _=>.int _ _) (fun x hx=>by
 have hw:=zmI (sz:=fun x:Ex=>x.sz) (ok:=fun x=>x.sz < 2 ^ 60) (out:=fun x=>.int .i64 (yN x)) zhm (f:=120) (l:=[]) x
 generalize hl:(⟨120,false,spP (fun y=>y.sz < 2 ^ 60∧y.sz < x.sz) exE fun x=>.int .i64 (yN x)⟩:En)::[]=l at hw ⊢
 have kr:∀ y:Ex,y.sz < 2 ^ 60→y.sz < x.sz→∀ H,zr Try.prog (zK pls l) 120 [.agg y.cells] H fun v H'=>v=.int .i64 (yN y)∧H'=H:=fun y h1 h2 H=>by
  subst hl;exact yr (enc:=exE) (out:=fun x=>.int .i64 (yN x)) zhm (x:=y) rfl ⟨h1,h2⟩
 have hsz:=x.sz_eq
 have hlen:=j7 x.kids
 have hlk:x.kids.length < 2 ^ 60:=by omega
 have hdl:=znR x
 change zr _ _ _ [.agg x.cells] _ _
 refine zj (M:=22) (rs:=[.tmp 2]) hw.call hw.ice hw.froz Try.func120 rfl rfl zuw.2 rfl ?_;dsimp only[zuw,zO,Nat.reduceAdd]
 repeat' (first
  | (apply Rx.nl ?_;clear hK K)|apply Rx.o ?_|(apply Rx.cd (fun hb hbp=>?_) (fun hb hbp=>?_)<;>try (cases hb;done))|apply Wp.seq ?_|(apply zd fun K hK=>?_)|apply Wp.block ?_|apply zh ?_|apply Rx.rt ?_|apply zk ?_)
 refine yd [1] [0] 4 x.kids.length (fun i E H=>∃ m:Nat,E.at 3=.int .i64 m∧max m (za5 (x.kids.drop i))=yN x) eE ⟨0,eE,by simp[zuy]⟩ ?_
 rintro i E H2 hi hcE hrH hnH hsI ⟨m,k3,hJ⟩
 (try simp only[zi,zl,and_true,sB,sO,Nat.reduceBEq,Nat.reduceAdd,Nat.reduceLeDiff,tyF, *]at hcE)
 (try simp only[zi,zl,and_true,sB,sO,Nat.reduceBEq,Nat.reduceAdd,Nat.reduceLeDiff,tyF, *]at hrH)
 (try simp only[zb,ze,zH,Nat.zero_add,Nat.reduceAdd]at hnH)
 have hB0:(0 == H2.next)=false:=zP (by omega)
 have hC0:(H2.next == 0)=false:=zP (by omega)
 repeat' (first
  | (apply Rx.nl ?_;clear hK K)|apply Rx.o ?_|(apply Rx.cd (fun hb hbp=>?_) (fun hb hbp=>?_)<;>try (cases hb;done))|apply Wp.seq ?_|(apply zd fun K hK=>?_)|apply Wp.block ?_|apply zh ?_|apply Rx.rt ?_|apply zk ?_)
 ·have hlt:i < x.kids.length:=by simpa using hb
  have hgx:x.kids[i]?=some x.kids[i]:=List.getElem?_eq_getElem hlt
  have hm:=jQ (List.getElem_mem hlt)
  have hdr:za5 (x.kids.drop i)=max (1+yN x.kids[i]) (za5 (x.kids.drop (i+1))):=by rw[List.drop_eq_getElem_cons hlt];rfl
  have hwr:IntKind.wrap .i64 (1+(yN x.kids[i]:Int))=((1+yN x.kids[i]:Nat):Int):=by rw[IntWalk.i64_in _ (by omega)];omega
  repeat' (first
   | (apply Rx.nl ?_;clear hK K)|apply Rx.o ?_|(apply Rx.call ?_;first|refine zaF (kr _ (by omega) (by omega) _) ?_)|(apply Rx.cd (fun hb hbp=>?_) (fun hb hbp=>?_)<;>try (cases hb;done))|apply Wp.seq ?_|(apply zd fun K hK=>?_)|apply Wp.block ?_|apply zh ?_|apply Rx.rt ?_|apply zk ?_)
  refine⟨by omega,eL,eL,eN,(by simp only[sB,Nat.reduceBEq, *];exact zT (n:=x.kids.length) (by omega) (by omega)),?_⟩
  exact⟨max m (1+yN x.kids[i]),by simp only[sB,Nat.reduceBEq];congr 1;omega,by rw[← hJ,hdr];omega⟩
 ·all_goals (refine⟨eI,_,eR,?_⟩;try simp only[zp])
  rw[show i=x.kids.length by simp at hb;omega,List.drop_length]at hJ
  simp[za5]at hJ
  rw[hJ])
mutual
def n1:St→Nat
 | .mk _ _ _ _ _ _ _ th el=>1+nS th+nS el
def nS:List St→Nat
 | []=>0
 | x::l=>n1 x+nS l
end
mutual
def w1:St→Nat
 | .mk k _ _ _ _ _ _ th el=>(if k=4 then 1 else 0)+wS th+wS el
def wS:List St→Nat
 | []=>0
 | x::l=>w1 x+wS l
end
mutual
def m1:St→Nat→Nat
 | .mk _ _ _ _ _ _ _ th el,d=>max d (max (mS th (d+1)) (mS el (d+1)))
def mS:List St→Nat→Nat
 | [],_=>0
 | x::l,d=>max (m1 x d) (mS l d)
end
theorem n1_eq (x:St):n1 x=1+nS x.thn+nS x.els:=by cases x;rw[n1];rfl
theorem zqD (x:St):w1 x=(if x.kind=4 then 1 else 0)+wS x.thn+wS x.els:=by cases x;rw[w1];rfl
theorem m1_eq (x:St) (d:Nat):m1 x d=max d (max (mS x.thn (d+1)) (mS x.els (d+1))):=by cases x;rw[m1];rfl
mutual
theorem n1_le:∀ x:St,n1 x≤x.sz
 | .mk _ _ _ _ _ _ _ th el=>by have:=znS th;have:=znS el;simp only[n1,St.sz];omega
theorem znS:∀ l:List St,nS l≤zu l
 | []=>Nat.le_refl _
 | x::l=>by have:=n1_le x;have:=znS l;simp only[nS,zu];omega
end
mutual
theorem w1_le:∀ x:St,w1 x≤x.sz
 | .mk k _ _ _ _ _ _ th el=>by have:=znT th;have:=znT el;simp only[w1,St.sz];split<;>omega
theorem znT:∀ l:List St,wS l≤zu l
 | []=>Nat.le_refl _
 | x::l=>by have:=w1_le x;have:=znT l;simp only[wS,zu];omega
end
mutual
theorem m1_le:∀ (x:St) (d:Nat),m1 x d≤d+x.sz
 | .mk _ _ _ _ _ _ _ th el,d=>by have:=znU th (d+1);have:=znU el (d+1);simp only[m1,St.sz];omega
theorem znU:∀ (l:List St) (d:Nat),mS l d≤d+zu l
 | [],_=>Nat.zero_le _
 | x::l,d=>by have:=m1_le x d;have:=znU l d;simp only[mS,zu];omega
end
theorem zaV {z:Int} (h1:-9223372036854775808≤z) (h2:z < 9223372036854775808):IntKind.wrap .i64 z=z:=IntWalk.i64_in _ (by omega)
def sdE (x:List St×Nat):List AV:=[.lst (x.1.map St.cells),.int .i64 x.2]
theorem znV (x y:List St×Nat) (h:sdE x=sdE y):x=y:=by
 simp only[sdE,List.cons.injEq,AV.lst.injEq,AV.int.injEq,and_true,true_and]at h
 exact Prod.ext (zj5 h.1) (by omega)
def zmO (x:List St×Nat):AV:=.tup [.int .i64 (nS x.1),.int .i64 (wS x.1),.int .i64 (mS x.1 x.2)]
theorem zqE (a b c:AV):Ab.extract (.tup [a,b,c]) 0=some a:=rfl
theorem zqF (a b c:AV):Ab.extract (.tup [a,b,c]) 1=some b:=rfl
theorem zqG (a b c:AV):Ab.extract (.tup [a,b,c]) 2=some c:=rfl
theorem zo2 (ρ:Nat→Int):∀ x:List St×Nat,zu x.1+x.2 < 2 ^ 60→Con Try.prog ρ 118 (sdE x) (zmO x):=
 zia fit (pls:=pls) (l:=[]) trivial (fun x=>zu x.1) (ok:=fun x=>zu x.1+x.2 < 2 ^ 60) (enc:=sdE) (out:=zmO) (fun x _=>.cons (zid _) (.cons (.int _ _) .nil)) (fun x _=>.tup (.cons (.int _ _) (.cons (.int _ _) (.cons (.int _ _) .nil)))) (fun x hx=>by
 have hw:=zmI (sz:=fun x:List St×Nat=>zu x.1) (ok:=fun x=>zu x.1+x.2 < 2 ^ 60) (out:=zmO) znV (f:=118) (l:=[]) x
 generalize hl:(⟨118,false,spP (fun y=>zu y.1+y.2 < 2 ^ 60∧zu y.1 < zu x.1) sdE zmO⟩:En)::[]=l at hw ⊢
 obtain⟨x,d⟩:=x
 have kr:∀ (y:List St),zu y < zu x→∀ H,zr Try.prog (zK pls l) 118 [.lst (y.map St.cells),.int .i64 ((d+1:Nat):Int)] H fun v H'=>v=.tup [.int .i64 (nS y),.int .i64 (wS y),.int .i64 (mS y (d+1))]∧H'=H:=fun y h2 H=>by
  subst hl;exact yr (enc:=sdE) (out:=zmO) znV (x:=(y,d+1)) rfl ⟨by simp only[]at hx ⊢;omega,h2⟩
 simp only[]at hx
 have hlen:=j8 x
 have hn:=znS x
 have hwl:=znT x
 have hm:=znU x d
 have hwd:IntKind.wrap .i64 ((d:Int)+1)=((d+1:Nat):Int):=by rw[IntWalk.i64_in _ (by omega)];omega
 change zr _ _ _ [.lst (x.map St.cells),.int .i64 d] _ _
 refine zj (M:=78) (rs:=[.tmp 4,.tmp 5,.tmp 6]) hw.call hw.ice hw.froz Try.func118 rfl rfl zux.2 rfl ?_;dsimp only[zux,zO,Nat.reduceAdd]
 repeat' (first
  | (apply Rx.nl ?_;clear hK K)|apply Rx.o ?_|(apply Rx.cd (fun hb hbp=>?_) (fun hb hbp=>?_)<;>try (cases hb;done))|apply Wp.seq ?_|(apply zd fun K hK=>?_)|apply Wp.block ?_|apply zh ?_|apply Rx.rt ?_|apply zk ?_)
 refine yd [0,1] [] 10 x.length (fun i E H=>∃ a b m:Nat,E.at 7=.int .i64 a∧E.at 8=.int .i64 b∧E.at 9=.int .i64 m∧a+nS (x.drop i)=nS x∧b+wS (x.drop i)=wS x∧max m (mS (x.drop i) d)=mS x d) eE ⟨0,0,0,eE,eE,eE,by simp,by simp,by simp⟩ ?_
 rintro i E H2 hi hcE hrH hnH hsI ⟨a,b,m,k7,k8,k9,hJ1,hJ2,hJ3⟩
 (try simp only[zi,zl,and_true,sB,sO,Nat.reduceBEq,Nat.reduceAdd,Nat.reduceLeDiff,tyF, *]at hcE)
 (try simp only[zi,zl,and_true,sB,sO,Nat.reduceBEq,Nat.reduceAdd,Nat.reduceLeDiff,tyF, *]at hrH)
 (try simp only[zb,ze,zH,Nat.zero_add,Nat.reduceAdd]at hnH)
 repeat' (first
  | (apply Rx.nl ?_;clear hK K)|apply Rx.o ?_|(apply Rx.cd (fun hb hbp=>?_) (fun hb hbp=>?_)<;>try (cases hb;done))|apply Wp.seq ?_|(apply zd fun K hK=>?_)|apply Wp.block ?_|apply zh ?_|apply Rx.rt ?_|apply zk ?_)
 ·have hlt:i < x.length:=by simpa using hb
  have hgx:x[i]?=some x[i]:=List.getElem?_eq_getElem hlt
  have hsm:=jv (List.getElem_mem hlt)
  have hsz:=x[i].sz_eq
  have d1:nS (x.drop i)=n1 x[i]+nS (x.drop (i+1)):=by rw[List.drop_eq_getElem_cons hlt];rfl
  have d2:wS (x.drop i)=w1 x[i]+wS (x.drop (i+1)):=by rw[List.drop_eq_getElem_cons hlt];rfl
  have d3:mS (x.drop i) d=max (m1 x[i] d) (mS (x.drop (i+1)) d):=by rw[List.drop_eq_getElem_cons hlt];rfl
  rw[n1_eq]at d1
  rw[zqD]at d2
  rw[m1_eq]at d3
  have gh0:=@zqE
  have gh1:=@zqF
  have gh2:=@zqG
  repeat' (first
   | (apply Rx.nl ?_;clear hK K)|apply Rx.o ?_|(apply Rx.call ?_;first|refine zaF (kr _ (by omega) _) ?_)|(apply Rx.cd (fun hb hbp=>?_) (fun hb hbp=>?_)<;>try (cases hb;done))|apply Wp.seq ?_|(apply zd fun K hK=>?_)|apply Wp.block ?_|apply zh ?_|apply Rx.rt ?_|apply zk ?_)
  all_goals
   refine⟨by omega,eL,eL,eN,(by simp only[sB,Nat.reduceBEq, *];exact zT (n:=x.length) (by omega) (by omega)),?_⟩
   refine⟨a+1+nS x[i].thn+nS x[i].els,b+(if x[i].kind=4 then 1 else 0)+wS x[i].thn+wS x[i].els,max (max m d) (max (mS x[i].thn (d+1)) (mS x[i].els (d+1))),?_,?_,?_,by omega,by omega,by omega⟩
   ·simp only[sB,Nat.reduceBEq]
    congr 1
    simp (disch:=omega) only[zaV]
    omega
   ·simp only[sB,Nat.reduceBEq]
    congr 1
    simp (disch:=omega) only[zaV, *]
    simp
    try omega
   ·simp only[sB,Nat.reduceBEq]
    congr 1
    omega
 ·all_goals (refine⟨eI,_,eR,?_⟩;try simp only[zp])
  rw[show i=x.length by simp at hb;omega,List.drop_length]at hJ1 hJ2 hJ3
  simp[nS,wS,mS]at hJ1 hJ2 hJ3
  simp only[zmO,hJ1,hJ2,hJ3])
end Go.Proofs.Ytpbcimfiofmoeaa
namespace Go.Proofs.Ytpbcimfiofmoeaa
set_option maxRecDepth 20000
set_option maxRecDepth 20000
open Go Go.Ab
namespace tyI2
end tyI2
open tyI2
theorem xt0 (a b:AV):Ab.extract (.tup [a,b]) 0=some a:=rfl
theorem xt1 (a b:AV):Ab.extract (.tup [a,b]) 1=some b:=rfl
end Go.Proofs.Ytpbcimfiofmoeaa
namespace Go.Proofs.Ytpbcimfiofmoeaa
set_option maxRecDepth 20000
set_option maxRecDepth 20000
open Go Go.Ab
namespace tyV1
def tyF:=And.intro @tq2 (And.intro @tq3 (And.intro @tq5 (And.intro @tq9 (And.intro @zcV (And.intro @tq25 (And.intro @tq61 (And.intro @tq121 (And.intro @znH (And.intro @cv3_5 (And.intro @znI (And.intro @tq145 (And.intro @znJ (And.intro @znK (@bu1))))))))))))))
end tyV1
open tyV1
def zih (n:Nd):List Int:=IntKind.wrap .u8 n.op::(jT (IntKind.wrap .u64 n.imm) 8++n.kids.flatMap fun k=>jT (IntKind.wrap .u64 k) 8)
theorem zqH (n:Nd):zih n=[IntKind.wrap .u8 n.op]++jT (IntKind.wrap .u64 n.imm) 8++n.kids.flatMap fun k=>jT (IntKind.wrap .u64 k) 8:=by
 rw[zih];simp
theorem zgR:∀ l:List Int,zbZ (l.map (.int .u8))=some (zlp l)
 | []=>rfl
 | a::l=>by
   have:=zgR l
   simp only[List.map_cons,zbZ,this];rfl
theorem zqI {H:Hp}{v:AV}{l:List Int}{lo:Nat} (hv:zgi H v l lo):jo Try.prog H 61 9 v=some (.str (zlp l)):=by
 obtain⟨r,im,rfl,hg,_⟩:=hv
 have hx:yk H 1 (.sl r 0 l.length 1)=some (l.length,l.map (.int .u8)):=by
  have:=zdV (H:=H) (r:=r) (o:=0) (n:=l.length) (z:=1) (s:=1) hg (by simp)
  rw[this,List.drop_zero,List.take_of_length_le (by simp)]
 simp only[jo,Try.underlying61,Try.underlying9,Try.underlying5,hx]
 rw[zgR]
end Go.Proofs.Ytpbcimfiofmoeaa
namespace Go.Proofs.Ytpbcimfiofmoeaa
set_option maxRecDepth 20000
open Go Go.Ab
def zd2:Nat→AV→Bool
 | 0,_=>false
 | n+1,v=>match v with
   | .sl _ _ _ _=>true
   | .agg cs=>cs.any (zd2 n)
   | _=>false
theorem zfH {S:Nat→Prop}{H:Hp}{n m k:Nat} (ih:∀ {v u:AV},Ic S n H v u→zd2 m (wkN k v)=false→wkN k u=wkN k v):∀ {cs ds:List AV},zbf (Ic S n H) cs ds→(cs.map (wkN k)).any (zd2 m)=false→ds.map (wkN k)=cs.map (wkN k)
 | [],[],_,_=>rfl
 | c::cs,d::ds,h,h2=>by
   simp only[List.map_cons,List.any_cons,Bool.or_eq_false_iff]at h2
   rw[List.map_cons,List.map_cons,ih h.1 h2.1,zfH ih h.2 h2.2]
theorem zj8 {S:Nat→Prop}{H:Hp}:∀ (n m k:Nat) {v u:AV},n≤m→Ic S n H v u→zd2 m (wkN k v)=false→wkN k u=wkN k v
 | 0,_,_,_,_,_,h,_=>h.elim
 | n+1,0,_,_,_,h,_,_=>by omega
 | n+1,m+1,k,v,u,hm,h,h2=>by
   cases v with
   | sl r o l z=>cases k<;>simp[wkN,zd2]at h2
   | agg cs=>
     obtain⟨ds,h1,rfl⟩:=h
     cases k with
     | zero=>
       have e:∀ v,wkN 0 v=v:=fun v=>by cases v<;>rfl
       have h3:(cs.map (wkN 0)).any (zd2 m)=false:=by
        rw[show cs.map (wkN 0)=cs by rw[show wkN 0=id from funext e,List.map_id]]
        simpa [wkN,zd2]using h2
       have:=zfH (k:=0) (fun h4 h5=>zj8 n m 0 (by omega) h4 h5) h1 h3
       rw[show wkN 0=id from funext e,List.map_id,List.map_id]at this
       rw[this]
     | succ k=>
       have h3:(cs.map (wkN k)).any (zd2 m)=false:=by simpa [wkN,zd2]using h2
       show AV.agg (ds.map (wkN k))=AV.agg (cs.map (wkN k))
       rw[zfH (fun h4 h5=>zj8 n m k (by omega) h4 h5) h1 h3]
   | _=>obtain⟨_,rfl⟩:=h;rfl
theorem zmP {l:List En}{fn:FuncId}{α:Type}{ok:α→Prop}{enc:α→List AV}{out:α→AV} (inj:∀ x y,enc x=enc y→x=y) (hl:∀ ar,yQ l fn ar=spP ok enc out (ar.map (wkN 60))) (hi:zev l fn=true) (hns:∀ y,(enc y).any (zd2 90)=false) {x:α} (hx:ok x) {S:Nat→Prop}{n:Nat} (hn:n≤90) {H:Hp}{args us:List AV} (h1:zbf (Ic S n H) args us) (h2:us.map (wkN 60)=enc x) :
 zr Try.prog (zK pls l) fn args H fun v H'=>v=out x∧Icy S H H':=by
 by_cases hd:∃ y,ok y∧enc y=args.map (wkN 60)
 ·obtain⟨y,_,e⟩:=hd
  have h3:us.map (wkN 60)=args.map (wkN 60):=zfH (m:=90) (fun h4 h5=>zj8 n 90 60 hn h4 h5) h1 (by rw[← e];exact hns y)
  refine zr.mono ?_ (zge (r:=out x) (by show yQ l fn args=_;rw[hl,← h3,h2];exact zhj inj hx))
  rintro v H' ⟨rfl,rfl⟩
  exact⟨rfl,Icy.refl _ _⟩
 ·obtain⟨H',h4,h5⟩:=Ic.iceL (n:=100) (l:=args) (m:=us) (zbf.mono (fun a b k=>Ic.up k (by omega)) h1)
  refine zgM (r:=out x) ?_ hi rfl h4 ?_ ⟨rfl,h5⟩
  ·show yQ l fn args=none
   rw[hl]
   exact zh9 fun y hy e=>hd ⟨y,hy,e⟩
  ·show yQ l fn us=_
   rw[hl,h2]
   exact zhj inj hx
theorem zqJ {P:Program}{cfg:Cfg}{f N:Nat}{a:SC}{E:Env}{H:Hp}{Q:AX→Env→Hp→Prop} (F:Env→Hp→Prop) (h1:Wp P cfg f N a E H fun x E' H'=>x=.normal∧F E' H') (h2:∀ E' H',F E' H'→Q .normal E' H'):Wp P cfg f N a E H Q:=
 Wp.mono (fun x E' H' h=>by obtain⟨rfl,h⟩:=h;exact h2 E' H' h) h1
namespace tyR3c
def tyF:=And.intro @tq2 (And.intro @tq3 (And.intro @tq9 (And.intro @zgb (And.intro @zgc (And.intro @zcj (And.intro @zcc (And.intro @za9 (And.intro @zba (And.intro @zau (And.intro @zfA (And.intro @zbw (And.intro @zld (And.intro @zqE (And.intro @zqF (@zqG)))))))))))))))
end tyR3c
open tyR3c
noncomputable def zuz:{ c:SC // slim 50 (Try.f119.body.getD .skip)=c }:=by
 refine⟨?_,?_⟩
 rotate_left
 ·simp only[Try.f119,Option.getD_some,slim,zZ,zS,z6,z7,Nat.blt,Nat.ble]
  rfl
mutual
def zbP:St→Bool
 | .mk _ _ _ _ a v args th el=>decide ((20:Int) < yN a)||decide ((20:Int) < yN v)||yX th||yX el||args.any fun e=>decide ((20:Int) < yN e)
def yX:List St→Bool
 | []=>false
 | x::l=>zbP x||yX l
end
theorem zqK (x:St):zbP x=(decide ((20:Int) < yN x.at_)||decide ((20:Int) < yN x.value)||yX x.thn||yX x.els||x.args.any fun e=>decide ((20:Int) < yN e)):=by cases x;rw[zbP];rfl
noncomputable def zfI:En:=⟨120,false,spP (fun x=>x.sz < 2 ^ 60) exE fun x=>.int .i64 (yN x)⟩
theorem zii (ρ:Nat→Int):zbI Try.prog ρ zfI:=jL fun x hx=>zo1 ρ x hx
theorem zlt (ρ:Nat→Int):∀ x:List St,zu x < 2 ^ 60→Con Try.prog ρ 119 (zlr x) (.bool (yX x)):=
 zia fit (pls:=pls) (l:=[zfI]) ⟨zii ρ,trivial⟩ (fun x=>zu x) (ok:=fun x=>zu x < 2 ^ 60) (enc:=zlr) (out:=fun x=>.bool (yX x)) (fun x _=>.cons (zid _) .nil) (fun x _=>.bool _) (fun x hx=>by
 have hw:=zmI (sz:=fun x:List St=>zu x) (ok:=fun x=>zu x < 2 ^ 60) (out:=fun x=>.bool (yX x)) zls (f:=119) (l:=[zfI]) x
 generalize hl:(⟨119,false,spP (fun y=>zu y < 2 ^ 60∧zu y < zu x) zlr fun x=>.bool (yX x)⟩:En)::[zfI]=l at hw ⊢
 have kr:∀ (y:List St),zu y < zu x→∀ H,zr Try.prog (zK pls l) 119 [.lst (y.map St.cells)] H fun v H'=>v=.bool (yX y)∧H'=H:=fun y h2 H=>by
  subst hl;exact yr (enc:=zlr) (out:=fun x=>.bool (yX x)) zls (x:=y) rfl ⟨by omega,h2⟩
 have kd:∀ y:Ex,y.sz < 2 ^ 60→∀ H,zr Try.prog (zK pls l) 120 [.agg y.cells] H fun v H'=>v=.int .i64 (yN y)∧H'=H:=fun y h1 H=>by
  subst hl;exact yr (enc:=exE) (out:=fun x=>.int .i64 (yN x)) zhm (x:=y) rfl h1
 have hlen:=j8 x
 change zr _ _ _ [.lst (x.map St.cells)] _ _
 refine zj (M:=50) (rs:=[.tmp 2]) hw.call hw.ice hw.froz Try.func119 rfl rfl zuz.2 rfl ?_;dsimp only[zuz,zO,Nat.reduceAdd]
 repeat' (first
  | (apply Rx.nl ?_;clear hK K)|apply Rx.o ?_|apply Rx.on ?_|(apply Rx.gd (fun hg hgp=>?_) (fun hg hgp=>?_)<;>try (cases hg;done))|(apply Rx.cd (fun hb hbp=>?_) (fun hb hbp=>?_)<;>try (cases hb;done))|apply Wp.seq ?_|(apply zd fun K hK=>?_)|apply Wp.block ?_|apply zh ?_|apply Rx.rt ?_|apply zk ?_)
 refine yd [0] [] 3 x.length (fun i E H=>yX x=yX (x.drop i)) eE (by simp) ?_
 rintro i E H2 hi hcE hrH hnH hsI hJ
 (try simp only[zi,zl,and_true,sB,sO,Nat.reduceBEq,Nat.reduceAdd,Nat.reduceLeDiff,tyF, *]at hcE)
 (try simp only[zi,zl,and_true,sB,sO,Nat.reduceBEq,Nat.reduceAdd,Nat.reduceLeDiff,tyF, *]at hrH)
 (try simp only[zb,ze,zH,Nat.zero_add,Nat.reduceAdd]at hnH)
 repeat' (first
  | (apply Rx.nl ?_;clear hK K)|apply Rx.o ?_|apply Rx.on ?_|(apply Rx.gd (fun hg hgp=>?_) (fun hg hgp=>?_)<;>try (cases hg;done))|(apply Rx.cd (fun hb hbp=>?_) (fun hb hbp=>?_)<;>try (cases hb;done))|apply Wp.seq ?_|(apply zd fun K hK=>?_)|apply Wp.block ?_|apply zh ?_|apply Rx.rt ?_|apply zk ?_)
 ·have hlt:i < x.length:=by simpa using hb
  have hgx:x[i]?=some x[i]:=List.getElem?_eq_getElem hlt
  have hsm:=jv (List.getElem_mem hlt)
  have hsz:=x[i].sz_eq
  have hla:=j7 x[i].args
  have hdr:yX (x.drop i)=(zbP x[i]||yX (x.drop (i+1))):=by rw[List.drop_eq_getElem_cons hlt];rfl
  rw[zqK]at hdr
  repeat' (first
   | (apply Rx.nl ?_;clear hK K)|apply Rx.o ?_|apply Rx.on ?_|(apply Rx.call ?_;first|refine zaF (kd _ (by omega) _) ?_|refine zaF (kr _ (by omega) _) ?_)|(apply Rx.gd (fun hg hgp=>?_) (fun hg hgp=>?_)<;>try (cases hg;done))|(apply Rx.cd (fun hb hbp=>?_) (fun hb hbp=>?_)<;>try (cases hb;done))|apply Wp.seq ?_|(apply zd fun K hK=>?_)|apply Wp.block ?_|apply zh ?_|apply Rx.rt ?_|apply zk ?_)
  rotate_left
  ·refine yd [0,3,4] [H2.next] 5 x[i].args.length (fun j E H=>(x[i].args.any fun e=>decide ((20:Int) < yN e))=(x[i].args.drop j).any fun e=>decide ((20:Int) < yN e)) eE (by simp) ?_
   rintro j E3 H3 hj hcE hrH hnH hsI hJ2
   (try simp only[zi,zl,and_true,sB,sO,Nat.reduceBEq,Nat.reduceAdd,Nat.reduceLeDiff,tyF, *]at hcE)
   (try simp only[zi,zl,and_true,sB,sO,Nat.reduceBEq,Nat.reduceAdd,Nat.reduceLeDiff,tyF, *]at hrH)
   (try simp only[zb,ze,zH,Nat.zero_add,Nat.reduceAdd]at hnH)
   have hB0:(H2.next == H3.next)=false:=zP (by omega)
   have hC0:(H3.next == H2.next)=false:=zP (by omega)
   repeat' (first
    | (apply Rx.nl ?_;clear hK K)|apply Rx.o ?_|apply Rx.on ?_|(apply Rx.gd (fun hg hgp=>?_) (fun hg hgp=>?_)<;>try (cases hg;done))|(apply Rx.cd (fun hb hbp=>?_) (fun hb hbp=>?_)<;>try (cases hb;done))|apply Wp.seq ?_|(apply zd fun K hK=>?_)|apply Wp.block ?_|apply zh ?_|apply Rx.rt ?_|apply zk ?_)
   ·have hlt2:j < x[i].args.length:=by simpa using hb
    have hgx2:x[i].args[j]?=some x[i].args[j]:=List.getElem?_eq_getElem hlt2
    have hsm2:=jQ (List.getElem_mem hlt2)
    have hdr2:((x[i].args.drop j).any fun e=>decide ((20:Int) < yN e))=(decide ((20:Int) < yN x[i].args[j])||(x[i].args.drop (j+1)).any fun e=>decide ((20:Int) < yN e)):=by rw[List.drop_eq_getElem_cons hlt2];rfl
    repeat' (first
     | (apply Rx.nl ?_;clear hK K)|apply Rx.o ?_|apply Rx.on ?_|(apply Rx.call ?_;first|refine zaF (kd _ (by omega) _) ?_)|(apply Rx.gd (fun hg hgp=>?_) (fun hg hgp=>?_)<;>try (cases hg;done))|(apply Rx.cd (fun hb hbp=>?_) (fun hb hbp=>?_)<;>try (cases hb;done))|apply Wp.seq ?_|(apply zd fun K hK=>?_)|apply Wp.block ?_|apply zh ?_|apply Rx.rt ?_|apply zk ?_)
    ·all_goals (refine⟨eI,_,eR,?_⟩;try simp only[zp])
     rw[hJ,hdr,hJ2,hdr2];(try simp only[Bool.not_eq_true',Bool.not_eq_false']at *);simp only[*,decide_true,decide_false,Bool.false_or,Bool.or_false,Bool.true_or,Bool.or_true,Bool.false_and,Bool.and_false,Bool.true_and,Bool.and_true,Bool.not_true,Bool.not_false,if_true,if_false,Int.reduceEq]
    ·refine⟨by omega,eL,eL,eN,(by simp only[sB,Nat.reduceBEq, *];exact zT (n:=x[i].args.length) (by omega) (by omega)),?_⟩
     rw[hJ2,hdr2];(try simp only[Bool.not_eq_true',Bool.not_eq_false']at *);simp only[*,decide_true,decide_false,Bool.false_or,Bool.or_false,Bool.true_or,Bool.or_true,Bool.false_and,Bool.and_false,Bool.true_and,Bool.and_true,Bool.not_true,Bool.not_false,if_true,if_false,Int.reduceEq]
   ·refine⟨by omega,eL,eL,eN,(by simp only[sB,Nat.reduceBEq, *];exact zT (n:=x.length) (by omega) (by omega)),?_⟩
    have hje:j=x[i].args.length:=by simp at hb;omega
    rw[hje,List.drop_length,List.any_nil]at hJ2
    rw[hJ,hdr,hJ2];(try simp only[Bool.not_eq_true',Bool.not_eq_false']at *);simp only[*,decide_true,decide_false,Bool.false_or,Bool.or_false,Bool.true_or,Bool.or_true,Bool.false_and,Bool.and_false,Bool.true_and,Bool.and_true,Bool.not_true,Bool.not_false,if_true,if_false,Int.reduceEq]
  all_goals
   all_goals (refine⟨eI,_,eR,?_⟩;try simp only[zp])
   rw[hJ,hdr];(try simp only[Bool.not_eq_true',Bool.not_eq_false']at *);simp only[*,decide_true,decide_false,Bool.false_or,Bool.or_false,Bool.true_or,Bool.or_true,Bool.false_and,Bool.and_false,Bool.true_and,Bool.and_true,Bool.not_true,Bool.not_false,if_true,if_false,Int.reduceEq]
 ·all_goals (refine⟨eI,_,eR,?_⟩;try simp only[zp])
  rw[hJ,show i=x.length by simp at hb;omega];simp[yX])
def prE (p:Pr):List AV:=[.agg p.cells]
theorem zcx (x y:Pr) (h:prE x=prE y):x=y:=by simp only[prE,List.cons.injEq,AV.agg.injEq,and_true]at h;exact Pr.inj h
noncomputable def znW:En:=⟨118,false,spP (fun x=>zu x.1+x.2 < 2 ^ 60) sdE zmO⟩
theorem zmQ (ρ:Nat→Int):zbI Try.prog ρ znW:=jL fun x hx=>zo2 ρ x hx
noncomputable def zqL:En:=⟨119,false,spP (fun x=>zu x < 2 ^ 60) zlr fun x=>.bool (yX x)⟩
theorem zo3 (ρ:Nat→Int):zbI Try.prog ρ zqL:=jL fun x hx=>zlt ρ x hx
def zgk (f:Fu):Bool:=decide ((6:Int) < f.params.length)||decide ((8:Int) < f.locals.length)||decide ((200:Int) < nS f.body)||decide ((16:Int) < wS f.body)||decide ((20:Int) < mS f.body 0)||yX f.body||decide ((20:Int) < yN f.value)
def exAr (a:Ar):Bool:=decide (a.len < 1)||decide (16 < a.len)
def exB (p:Pr):Bool:=decide ((4:Int) < p.arrays.length)||decide ((8:Int) < p.funcs.length)||p.arrays.any exAr||p.funcs.any zgk
noncomputable def levC:List En:=[zfI,znW,zqL]
theorem levC_ok (ρ:Nat→Int):zdC Try.prog ρ levC:=⟨zii ρ,zmQ ρ,zo3 ρ,trivial⟩
end Go.Proofs.Ytpbcimfiofmoeaa
namespace Go.Proofs.Ytpbcimfiofmoeaa
set_option maxRecDepth 20000
open Go Go.Ab
theorem w64s (d:Nat) (h:d < 2 ^ 60):w64 ((d:Int)+1)=((d+1:Nat):Int):=by unfold w64;rw[zaV (by omega) (by omega)];omega
mutual
theorem zjm:∀ (x:Ex) (d:Nat),d≤21→zcd zj4 x d=decide (d+yN x≤20)
 | .mk k n s o ks,d,hd=>by
   rw[zcd,zj4,yN]
   by_cases h:d≤20
   ·rw[w64s d (by omega),zij ks d h]
    simp only[show decide ((d:Int)≤20)=true by simpa using (by omega:(d:Int)≤20),Bool.true_and]
   ·have h1:decide ((d:Int)≤20)=false:=by simp;omega
    rw[h1,Bool.false_and];symm;simp;omega
theorem zij:∀ (l:List Ex) (d:Nat),d≤20→jM zj4 l ((d+1:Nat):Int)=decide (d+za5 l≤20)
 | [],d,hd=>by rw[jM,za5];symm;simpa using hd
 | e::es,d,hd=>by
   rw[jM,zjm e (d+1) (by omega),zij es d hd,za5]
   by_cases h1:d+1+yN e≤20<;>by_cases h2:d+za5 es≤20
   all_goals simp only[h1,h2,decide_true,decide_false,Bool.and_true,Bool.and_false,Bool.true_and,Bool.false_and]
   all_goals (symm;simp;omega)
end
theorem ze6 (x:Ex):zcd zj4 x 0=!decide ((20:Int) < yN x):=by
 have:=zjm x 0 (by omega)
 rw[show((0:Nat):Int)=0 from rfl]at this
 rw[this]
 by_cases h:yN x≤20
 ·have:¬ (20:Int) < yN x:=by omega
  simp[h,this]
 ·have:(20:Int) < yN x:=by omega
  simp[h,this]
theorem zgS:∀ (l:List Ex),jM zj4 l 0=!(l.any fun e=>decide ((20:Int) < yN e))
 | []=>rfl
 | e::es=>by rw[jM,ze6,zgS es,List.any_cons,Bool.not_or]
mutual
theorem zmR:∀ (x:St) (d:Int),zbn (zg5 zj4) x d ()=(!zbP x,())
 | .mk k nm to n a v args th el,d=>by
   rw[zbn,zg5,zbP]
   simp only[St.at_,St.value,St.args,ze6,zgS]
   cases h1:decide ((20:Int) < yN a)
   ·cases h2:decide ((20:Int) < yN v)
    ·cases h3:args.any fun e=>decide ((20:Int) < yN e)
     ·simp only[Bool.not_false,Bool.and_true,Bool.true_and,zdp th]
      cases h4:yX th
      ·simp only[Bool.not_false,zdp el,Bool.or_false,Bool.false_or]
      ·simp
     ·simp
    ·simp
   ·simp
theorem zdp:∀ (l:List St) (d:Int),yT (zg5 zj4) l d ()=(!yX l,())
 | [],_=>rfl
 | x::l,d=>by
   rw[yT,zmR x,yX]
   cases h:zbP x
   ·simp only[Bool.not_false,zdp l,Bool.false_or]
   ·simp
end
def whI (k:Int):Nat:=if k=4 then 1 else 0
theorem zqM (x:St) (d n l:Nat) (hn:n < 2 ^ 60) (hl:l < 2 ^ 60):zgf x d ((n:Int),(l:Int))=(decide ((d:Int)≤20)&&decide (((n+1:Nat):Int)≤200)&&decide (((l+whI x.kind:Nat):Int)≤16),(((n+1:Nat):Int),((l+whI x.kind:Nat):Int))):=by
 have hw:(if x.kind=4 then w64 ((l:Int)+1)else (l:Int))=((l+whI x.kind:Nat):Int):=by
  unfold whI
  split
  ·rw[w64s l (by omega)]
  ·rfl
 unfold zgf
 simp only[w64s n (by omega),hw]
mutual
theorem zo4:∀ (x:St) (d n l:Nat),d≤21→n≤200→l≤16 →
 ((m1 x d≤20∧n+n1 x≤200∧l+w1 x≤16)→zbn zgf x d ((n:Int),(l:Int))=(true,(((n+n1 x:Nat):Int),((l+w1 x:Nat):Int)))) ∧
 (¬ (m1 x d≤20∧n+n1 x≤200∧l+w1 x≤16)→(zbn zgf x d ((n:Int),(l:Int))).1=false)
 | .mk k nm to n0 a v args th el,d,n,l,hd,hn,hl=>by
   have hlw:whI (St.mk k nm to n0 a v args th el).kind≤1:=by unfold whI;split<;>omega
   have e1:w1 (.mk k nm to n0 a v args th el)=whI (St.mk k nm to n0 a v args th el).kind+wS th+wS el:=by rw[w1];rfl
   rw[zbn,zqM _ _ _ _ (by omega) (by omega),e1]
   obtain⟨z,hz⟩:∃ z,whI (St.mk k nm to n0 a v args th el).kind=z:=⟨_,rfl⟩
   rw[hz]at hlw ⊢
   clear hz e1
   simp only[w64s d (by omega),m1,n1]
   by_cases h0:d≤20∧n+1≤200∧l+z≤16
   ·have e0:(decide ((d:Int)≤20)&&decide (((n+1:Nat):Int)≤200)&&decide (((l+z:Nat):Int)≤16))=true:=by
     rw[Bool.and_eq_true,Bool.and_eq_true];refine⟨⟨?_,?_⟩,?_⟩<;>apply decide_eq_true<;>omega
    rw[e0]
    simp only[]
    have t:=zem th (d+1) (n+1) (l+z) (by omega) (by omega) (by omega)
    by_cases h1:mS th (d+1)≤20∧n+1+nS th≤200∧l+z+wS th≤16
    ·rw[t.1 h1]
     simp only[]
     have u:=zem el (d+1) (n+1+nS th) (l+z+wS th) (by omega) (by omega) (by omega)
     by_cases h2:mS el (d+1)≤20∧n+1+nS th+nS el≤200∧l+z+wS th+wS el≤16
     ·rw[u.1 h2]
      refine⟨fun _=>?_,fun h=>(h ⟨by omega,by omega,by omega⟩).elim⟩
      rw[show n+1+nS th+nS el=n+(1+nS th+nS el) by omega,show l+z+wS th+wS el=l+(z+wS th+wS el) by omega]
     ·refine⟨fun h=>(h2 ⟨by omega,by omega,by omega⟩).elim,fun _=>u.2 h2⟩
    ·refine⟨fun h=>(h1 ⟨by omega,by omega,by omega⟩).elim,fun _=>?_⟩
     have:=t.2 h1
     generalize yT zgf th _ _=r at this ⊢
     obtain⟨b,s⟩:=r
     simp only at this
     subst this
     rfl
   ·have e0:(decide ((d:Int)≤20)&&decide (((n+1:Nat):Int)≤200)&&decide (((l+z:Nat):Int)≤16))=false:=by
     rw[← Bool.not_eq_true,Bool.and_eq_true,Bool.and_eq_true]
     rintro⟨⟨a1,a2⟩,a3⟩
     have a1:=of_decide_eq_true a1
     have a2:=of_decide_eq_true a2
     have a3:=of_decide_eq_true a3
     exact h0 ⟨by omega,by omega,by omega⟩
    rw[e0]
    exact⟨fun h=>(h0 ⟨by omega,by omega,by omega⟩).elim,fun _=>rfl⟩
theorem zem:∀ (x:List St) (d n l:Nat),d≤21→n≤200→l≤16 →
 ((mS x d≤20∧n+nS x≤200∧l+wS x≤16)→yT zgf x d ((n:Int),(l:Int))=(true,(((n+nS x:Nat):Int),((l+wS x:Nat):Int)))) ∧
 (¬ (mS x d≤20∧n+nS x≤200∧l+wS x≤16)→(yT zgf x d ((n:Int),(l:Int))).1=false)
 | [],d,n,l,hd,hn,hl=>by
   rw[yT,mS,nS,wS]
   exact⟨fun _=>rfl,fun h=>(h ⟨by omega,by omega,by omega⟩).elim⟩
 | x::r,d,n,l,hd,hn,hl=>by
   rw[yT,mS,nS,wS]
   have t:=zo4 x d n l hd hn hl
   by_cases h1:m1 x d≤20∧n+n1 x≤200∧l+w1 x≤16
   ·rw[t.1 h1]
    simp only[]
    have u:=zem r d (n+n1 x) (l+w1 x) hd (by omega) (by omega)
    by_cases h2:mS r d≤20∧n+n1 x+nS r≤200∧l+w1 x+wS r≤16
    ·rw[u.1 h2]
     refine⟨fun _=>?_,fun h=>(h ⟨by omega,by omega,by omega⟩).elim⟩
     rw[show n+n1 x+nS r=n+(n1 x+nS r) by omega,show l+w1 x+wS r=l+(w1 x+wS r) by omega]
    ·exact⟨fun h=>(h2 ⟨by omega,by omega,by omega⟩).elim,fun _=>u.2 h2⟩
   ·refine⟨fun h=>(h1 ⟨by omega,by omega,by omega⟩).elim,fun _=>?_⟩
    have:=t.2 h1
    generalize zbn zgf x _ _=r at this ⊢
    obtain⟨b,s⟩:=r
    simp only at this
    subst this
    rfl
end
theorem zmS (x:List St):(yT zgf x 0 (0,0)).1=(!decide ((200:Int) < nS x) && !decide ((16:Int) < wS x) && !decide ((20:Int) < mS x 0)):=by
 have t:=zem x 0 0 0 (by omega) (by omega) (by omega)
 rw[show((0:Nat):Int)=0 from rfl]at t
 simp only[Nat.zero_add]at t
 by_cases h:mS x 0≤20∧nS x≤200∧wS x≤16
 ·rw[t.1 h]
  have h1:¬ (200:Int) < nS x:=by omega
  have h2:¬ (16:Int) < wS x:=by omega
  have h3:¬ (20:Int) < mS x 0:=by omega
  simp[h1,h2,h3]
 ·rw[t.2 h]
  symm
  rw[← Bool.not_eq_true,Bool.and_eq_true,Bool.and_eq_true]
  rintro⟨⟨a1,a2⟩,a3⟩
  simp only[Bool.not_eq_true',decide_eq_false_iff_not]at a1 a2 a3
  exact h ⟨by omega,by omega,by omega⟩
theorem zqN (f:Fu):za3 f=!zgk f:=by
 rw[za3,zgk,zbM,zmS,ze6,zdp]
 have h1:decide ((f.params.length:Int)≤6)=!decide ((6:Int) < f.params.length):=by
  by_cases h:(6:Int) < f.params.length
  ·have:¬ (f.params.length:Int)≤6:=by omega
   simp[h,this]
  ·have:(f.params.length:Int)≤6:=by omega
   simp[h,this]
 have h2:decide ((f.locals.length:Int)≤8)=!decide ((8:Int) < f.locals.length):=by
  by_cases h:(8:Int) < f.locals.length
  ·have:¬ (f.locals.length:Int)≤8:=by omega
   simp[h,this]
  ·have:(f.locals.length:Int)≤8:=by omega
   simp[h,this]
 rw[h1,h2]
 simp only[Bool.not_or]
 generalize (!decide ((6:Int) < f.params.length))=a
 generalize (!decide ((8:Int) < f.locals.length))=b
 generalize (!decide ((200:Int) < nS f.body))=c
 generalize (!decide ((16:Int) < wS f.body))=d
 generalize (!decide ((20:Int) < mS f.body 0))=e
 generalize (!yX f.body)=g
 generalize (!decide ((20:Int) < yN f.value))=h
 cases a<;>cases b<;>cases c<;>cases d<;>cases e<;>cases g<;>cases h<;>rfl
theorem zgT {α:Type} (l:List α) (p q:α→Bool) (h:∀ x,p x=!q x):l.all p=!l.any q:=by
 induction l with
 | nil=>rfl
 | cons a l ih=>rw[List.all_cons,List.any_cons,Bool.not_or,h,ih]
theorem zuA (p:Pr):zdX p=!exB p:=by
 rw[zdX,exB,zgT p.funcs za3 zgk zqN,zgT p.arrays _ exAr (fun a=>by rw[exAr,Bool.not_or])]
 simp only[Bool.not_or]
namespace tyR3d
def tyF:=And.intro @tq2 (And.intro @tq3 (And.intro @tq9 (And.intro @zba (And.intro @zau (And.intro @za9 (@zbw))))))
end tyR3d
open tyR3d
def wfX (x:Ex):Bool:=
 if x.kind=1 then decide ((x.kids.length:Int)=0)&&decide (x.name=[])&&decide (x.op=0)
 else if x.kind=2 then decide ((x.kids.length:Int)=0)&&decide (x.n=0)&&decide (x.op=0)&&yx x.name
 else if x.kind=3 then decide ((x.kids.length:Int)=1)&&decide (x.n=0)&&decide (x.op=0)&&yx x.name
 else if x.kind=4 then decide (x.n=0)&&decide (x.name=[])&&((decide ((x.kids.length:Int)=2)&&zdm x.op)||(decide ((x.kids.length:Int)=1)&&(decide (x.op=20)||decide (x.op=21))))
 else if x.kind=5 then decide ((x.kids.length:Int)=3)&&decide (x.n=0)&&decide (x.name=[])&&decide (x.op=0)
 else false
mutual
def wfE:Ex→Bool
 | .mk k n s o ks=>zaJ ks&&wfX (.mk k n s o ks)
def zaJ:List Ex→Bool
 | []=>true
 | e::es=>wfE e&&zaJ es
end
theorem zmT (x:Ex):wfE x=(zaJ x.kids&&wfX x):=by cases x;rw[wfE];rfl
theorem zlu (x y:Int) (h:([.int .i64 x]:List AV)=[.int .i64 y]):x=y:=by simpa using h
end Go.Proofs.Ytpbcimfiofmoeaa
namespace Go.Proofs.Ytpbcimfiofmoeaa
set_option maxRecDepth 20000
set_option maxRecDepth 20000
open Go Go.Ab
namespace tyR3e
end tyR3e
open tyR3e
def zik (x:St):Bool:=decide (x.name=[])&&decide (x.to=[])&&decide (x.n=0)&&zeroE x.at_&&decide ((x.args.length:Int)=0)
def zd3 (x:St):Bool:=decide ((x.thn.length:Int)=0)&&decide ((x.els.length:Int)=0)
def zbQ (x:St):Bool:=
 if x.kind=1 then zd3 x&&yx x.name&&decide (x.to=[])&&decide (x.n=0)&&zeroE x.at_&&decide ((x.args.length:Int)=0)&&wfE x.value
 else if x.kind=2 then zd3 x&&yx x.name&&decide (x.to=[])&&decide (x.n=0)&&wfE x.at_&&decide ((x.args.length:Int)=0)&&wfE x.value
 else if x.kind=3 then zik x&&wfE x.value
 else if x.kind=4 then zik x&&wfE x.value&&decide ((x.els.length:Int)=0)
 else if x.kind=5 then zd3 x&&zik x&&wfE x.value
 else if x.kind=6 then zd3 x&&yx x.name&&yx x.to&&decide (x.n=0)&&zeroE x.at_&&zeroE x.value
 else if x.kind=7 then zd3 x&&decide (x.name=[])&&decide (x.to=[])&&decide (0≤x.n)&&decide (x.n≤1000000)&&zeroE x.at_&&zeroE x.value&&decide ((x.args.length:Int)=0)
 else false
def zbg (x:St):Bool:=zaJ x.args&&zbQ x
end Go.Proofs.Ytpbcimfiofmoeaa
namespace Go.Proofs.Ytpbcimfiofmoeaa
set_option maxRecDepth 20000
set_option maxRecDepth 20000
open Go Go.Ab
namespace tyR3f
def tyF:=And.intro @tq2 (And.intro @tq3 (And.intro @tq9 (And.intro @zgb (And.intro @zgc (And.intro @zcj (And.intro @zcc (And.intro @za9 (And.intro @zba (And.intro @zau (And.intro @zfA (And.intro @zbw (@zld))))))))))))
end tyR3f
open tyR3f
mutual
def zey:St→Bool
 | .mk k nm to n a v args th el=>zbg (.mk k nm to n a v args th el)&&zaW th&&zaW el
def zaW:List St→Bool
 | []=>true
 | x::l=>zey x&&zaW l
end
theorem zdq (x:St):zey x=(zbg x&&zaW x.thn&&zaW x.els):=by cases x;rw[zey];rfl
theorem zil:∀ {l:List Ar}{a:Ar},a∈l→a.name.length < zak l
 | [],_,h=>by simp at h
 | e::es,x,h=>by
   rcases List.mem_cons.1 h with rfl|h
   ·simp only[zak];omega
   ·have:=zil h;simp only[zak];omega
def fnNames (f:Fu):List (List UInt8):=[f.name]++f.params++f.locals
def zez (f:Fu):Bool:=(fnNames f).all yx&&zaW f.body&&wfE f.value
def wfP (p:Pr):Bool:=p.arrays.all (fun a=>yx a.name)&&p.funcs.all zez
theorem bsS1 (H:Hp) (s:List UInt8):zI Try.prog H 47 1 [(0,.str s)]=some (.sl H.next 0 1 1,H.alloc (.cells [.str s] 0 true)):=by kernel_rfl
end Go.Proofs.Ytpbcimfiofmoeaa
namespace Go.Proofs.Ytpbcimfiofmoeaa
set_option maxRecDepth 20000
set_option maxRecDepth 20000
open Go Go.Ab
namespace tyR3g
end tyR3g
open tyR3g
def zM:List (List UInt8)→List (List UInt8)→Bool
 | _,[]=>false
 | seen,s::l=>yz seen s||zM (seen++[s]) l
def zim (an:List (List UInt8)):List (List UInt8)→List Fu→Bool
 | _,[]=>false
 | seen,f::fs=>yz seen f.name||zM an (f.params++f.locals)||zim an (seen++[f.name]) fs
def zB (p:Pr):List (List UInt8):=p.arrays.map (·.name)
def zgl (p:Pr):Bool:=zM [] (zB p)||zim (zB p) [] p.funcs
end Go.Proofs.Ytpbcimfiofmoeaa
namespace Go.Proofs.Ytpbcimfiofmoeaa
set_option maxRecDepth 20000
set_option maxRecDepth 20000
open Go Go.Ab
namespace tyR3h
end tyR3h
open tyR3h
structure Sc where
 vars:List (List UInt8)
 arrays:Option (List (List UInt8))
 p:Pr
def Sc.an (x:Sc):List (List UInt8):=x.arrays.getD []
def orowA:Option (List (List UInt8))→AV
 | none=>.nilS
 | some l=>je l
def Sc.cells (x:Sc):List AV:=[je x.vars,orowA x.arrays,.lst (x.p.arrays.map Ar.cells),.lst (x.p.funcs.map Fu.cells)]
theorem Sc.whole (x:Sc):yL 4 x.cells=some (.agg x.cells):=rfl
theorem zuB (x:Sc):yL 2 (x.cells.drop 2)=some (.agg x.p.cells):=rfl
section
variable (vs an:List (List UInt8))
def zck (x:Ex):Bool:=(!decide (x.kind=2)||yz vs x.name)&&(!decide (x.kind=3)||yz an x.name)
mutual
def zap:Ex→Bool
 | .mk k n s o ks=>jR ks&&zck vs an (.mk k n s o ks)
def jR:List Ex→Bool
 | []=>true
 | e::es=>zap e&&jR es
end
theorem znX (x:Ex):zap vs an x=(jR vs an x.kids&&zck vs an x):=by cases x;rw[zap];rfl
end
def zal (c:Sc) (x:St):Bool:=
 if x.kind=1 then yz c.vars x.name
 else if x.kind=6 then yz c.vars x.name&&decide (0≤yw c.p.funcs x.to 0)
 else if x.kind=2 then yz c.an x.name
 else true
def zcf (c:Sc) (x:St):Bool:=jR c.vars c.an x.args&&zap c.vars c.an x.at_&&zap c.vars c.an x.value&&zal c x
end Go.Proofs.Ytpbcimfiofmoeaa
namespace Go.Proofs.Ytpbcimfiofmoeaa
set_option maxRecDepth 20000
set_option maxRecDepth 20000
open Go Go.Ab
namespace tyR3i
def tyF:=And.intro @tq3 (And.intro @tq9 (And.intro @zgb (And.intro @zgc (And.intro @zcj (And.intro @zcc (And.intro @za9 (And.intro @zba (And.intro @zau (And.intro @zfA (And.intro @zbw (And.intro @tq147 (And.intro @zuB (@Sc.whole)))))))))))))
end tyR3i
open tyR3i
def zi6 (p:Pr) (s:List UInt8):Nat:=((p.funcs[(yw p.funcs s 0).toNat]?).map fun f=>f.params.length).getD 0
def arK (p:Pr) (x:St):Bool:=!(decide (x.kind=6) && !decide ((x.args.length:Int)=zi6 p x.to))
section
variable (c:Sc)
mutual
def zbz (b:Bool):St→Bool
 | .mk k nm to n a v args th el=>(bif b then arK c.p (.mk k nm to n a v args th el)else zcf c (.mk k nm to n a v args th el))&&jr b th&&jr b el
def jr (b:Bool):List St→Bool
 | []=>true
 | x::l=>zbz b x&&jr b l
end
theorem zj9 (b:Bool) (x:St):zbz c b x=((bif b then arK c.p x else zcf c x)&&jr c b x.thn&&jr c b x.els):=by cases x;rw[zbz];rfl
end
section
variable (p:Pr)
end
theorem zlv:∀ (l:List Fu) (s:List UInt8) (i:Nat),0≤yw l s i→∃ k,k < l.length∧yw l s i=((i+k:Nat):Int)
 | [],s,i,h=>by simp[yw]at h
 | f::l,s,i,h=>by
   simp only[yw]at h ⊢
   split
   ·exact⟨0,by simp,by simp⟩
   ·rename_i hn
    rw[if_neg hn]at h
    obtain⟨k,h1,h2⟩:=zlv l s (i+1) (by exact h)
    exact⟨k+1,by simpa using h1,by rw[show((i:Int)+1)=((i+1:Nat):Int) by omega,h2];omega⟩
end Go.Proofs.Ytpbcimfiofmoeaa
namespace Go.Proofs.Ytpbcimfiofmoeaa
set_option maxRecDepth 20000
set_option maxRecDepth 20000
open Go Go.Ab
namespace tyR3j
end tyR3j
open tyR3j
def zas (p:Pr) (f:Fu):Sc:=⟨f.params++f.locals,some (zB p),p⟩
def zcg (p:Pr) (f:Fu):Bool:=!(jr (zas p f) false f.body&&zap (zas p f).vars (zas p f).an f.value)
def zcy (p:Pr) (f:Fu):Bool:=!jr (zas p f) true f.body
def yE (p:Pr):Int:=if exB p=true then 6 else if wfP p=false then 2 else if zgl p=true then 4 else if p.funcs.any (zcg p)=true then 3 else if p.funcs.any (zcy p)=true then 5 else 0
end Go.Proofs.Ytpbcimfiofmoeaa
namespace Go.Ab
set_option maxRecDepth 20000
open Go
def shrI (k:IntKind) (a b:Int):Int:=a.fdiv (2 ^ min b.toNat k.bits)
theorem bin_shr {P:Program}{D:BinOp→Sx→Sx→Option Bool}{t:TypeId}{k k':IntKind}{a b:Int} (hb:0≤b):jJ P D .shr t (.int k a) (.int k' b)=some (.int k (shrI k a b)):=by
 obtain⟨m,rfl⟩:=Int.eq_ofNat_of_zero_le hb
 simp only[jJ,zbE]
 show zfX .shr k a (Int.ofNat m)=_
 simp[zfX,shrI]
abbrev Nm:=List UInt8
def lkV:List (Nm×Int)→Nm→Int
 | [],_=>0
 | p::l,nm=>if nm=p.1 then p.2 else lkV l nm
def setV:List (Nm×Int)→Nm→Int→List (Nm×Int)
 | [],nm,x=>[(nm,x)]
 | p::l,nm,x=>if nm=p.1 then (nm,x)::l else p::setV l nm x
section
variable (p:Pr) (fi:List (Nm × Int))
end
def vEs (vs:List (Nm×Int)):List (AV×AV):=vs.map fun p=>(.str p.1,.int .i64 p.2)
def cEs:List (Nm×List Int)→List Nat→List (AV×AV)
 | p::l,r::rs=>(.str p.1,.sl r 0 p.2.length 1)::cEs l rs
 | _,_=>[]
theorem zin (nm:Nm):∀ (vs:List (Nm×Int)) (i:Nat),(jn .string (.str nm) (vEs vs) i=some none∧lkV vs nm=0∧∀ x,vEs (setV vs nm x)=vEs vs++[(.str nm,.int .i64 x)]) ∨
 ∃ j,j < vs.length∧jn .string (.str nm) (vEs vs) i=some (some (i+j,.int .i64 (lkV vs nm)))∧∀ x,vEs (setV vs nm x)=(vEs vs).set j (.str nm,.int .i64 x)
 | [],i=>.inl ⟨rfl,rfl,fun _=>rfl⟩
 | p::l,i=>by
   by_cases h:nm=p.1
   ·refine .inr ⟨0,by simp,?_,fun x=>?_⟩
    ·simp[vEs,jn,zg1,lkV,h]
    ·simp[vEs,setV,h]
   ·have hf:jn .string (.str nm) (vEs (p::l)) i=jn .string (.str nm) (vEs l) (i+1):=by
     show jn .string (.str nm) ((.str p.1,.int .i64 p.2)::vEs l) i=_
     have:(nm == p.1)=false:=by simpa using h
     simp[jn,zg1,this]
    have hl:lkV (p::l) nm=lkV l nm:=by simp[lkV,h]
    have hs:∀ x,vEs (setV (p::l) nm x)=(.str p.1,.int .i64 p.2)::vEs (setV l nm x):=fun x=>by simp[setV,h,vEs]
    rw[hf,hl]
    rcases zin nm l (i+1)with ⟨h1,h2,h3⟩|⟨j,hj,h1,h3⟩
    ·refine .inl ⟨h1,h2,fun x=>?_⟩
     rw[hs,h3];simp[vEs]
    ·refine .inr ⟨j+1,by simp;omega,?_,fun x=>?_⟩
     ·rw[h1,show i+1+j=i+(j+1) by omega]
     ·rw[hs,h3];simp[vEs]
theorem zio {P:Program}{H:Hp}{t kt e r:Nat}{es:List (AV×AV)}{nm:Nm}{z:AV} (ht:P.underlying t=some (.map kt e)) (hk:zam P kt=some .string) (hz:zff P e=some z) (hg:H.get r=some (.map es)) :
 (jn .string (.str nm) es 0=some none→ji P H t (.map r) (.str nm) false=some z)∧∀ i v,jn .string (.str nm) es 0=some (some (i,v))→ji P H t (.map r) (.str nm) false=some v:=by
 refine⟨fun h=>?_,fun i v h=>?_⟩<;>simp only[ji,ht,hk,hz,zbY,hg,h,okOr]
theorem ze7 {P:Program}{H:Hp}{t kt e r:Nat}{es:List (AV×AV)}{nm:Nm}{x:AV} (ht:P.underlying t=some (.map kt e)) (hk:zam P kt=some .string) (hg:H.get r=some (.map es)) :
 (jn .string (.str nm) es 0=some none→yZ P H t (.map r) (.str nm) x=some (H.set r (.map (es++[(.str nm,x)]))))∧∀ i v,jn .string (.str nm) es 0=some (some (i,v))→yZ P H t (.map r) (.str nm) x=some (H.set r (.map (es.set i (.str nm,x)))):=by
 refine⟨fun h=>?_,fun i v h=>?_⟩<;>simp only[yZ,ht,hk,hg,h]
theorem zip {P:Program}{H:Hp}{t kt e r:Nat} (ht:P.underlying t=some (.map kt e)) (hk:zam P kt=some .string) (hz:zff P e=some (.int .i64 0)) {vs:List (Nm×Int)} (hg:H.get r=some (.map (vEs vs))) (nm:Nm) :
 ji P H t (.map r) (.str nm) false=some (.int .i64 (lkV vs nm)):=by
 obtain⟨l1,l2⟩:=zio (nm:=nm) ht hk hz hg
 rcases zin nm vs 0 with ⟨h1,h2,h3⟩|⟨j,hj,h1,h3⟩
 ·rw[l1 h1,h2]
 ·rw[l2 _ _ h1]
theorem zfJ {P:Program}{H:Hp}{t kt e r:Nat} (ht:P.underlying t=some (.map kt e)) (hk:zam P kt=some .string) {vs:List (Nm×Int)} (hg:H.get r=some (.map (vEs vs))) (nm:Nm) (x:Int) :
 yZ P H t (.map r) (.str nm) (.int .i64 x)=some (H.set r (.map (vEs (setV vs nm x)))):=by
 obtain⟨l1,l2⟩:=ze7 (nm:=nm) (x:=.int .i64 x) ht hk hg
 rcases zin nm vs 0 with ⟨h1,h2,h3⟩|⟨j,hj,h1,h3⟩
 ·rw[l1 h1,h3]
 ·rw[l2 _ _ h1,h3,Nat.zero_add]
def zdr:List Fu→Nat→List (Nm×Int)→List (Nm×Int)
 | [],_,m=>m
 | f::l,i,m=>zdr l (i+1) (setV m f.name i)
def zbN:List (Nm×Int)→Nm→Bool
 | [],_=>false
 | p::l,nm=>if nm=p.1 then true else zbN l nm
theorem ziq (nm:Nm):∀ (vs:List (Nm×Int)) (i:Nat),(zbN vs nm=false→jn .string (.str nm) (vEs vs) i=some none∧lkV vs nm=0)∧(zbN vs nm=true→∃ j,jn .string (.str nm) (vEs vs) i=some (some (j,.int .i64 (lkV vs nm))))
 | [],i=>⟨fun _=>⟨rfl,rfl⟩,fun h=>by simp[zbN]at h⟩
 | p::l,i=>by
   by_cases h:nm=p.1
   ·refine⟨fun h2=>by simp[zbN,h]at h2,fun _=>⟨i,?_⟩⟩
    simp[vEs,jn,zg1,lkV,h]
   ·have hf:jn .string (.str nm) (vEs (p::l)) i=jn .string (.str nm) (vEs l) (i+1):=by
     show jn .string (.str nm) ((.str p.1,.int .i64 p.2)::vEs l) i=_
     have:(nm == p.1)=false:=by simpa using h
     simp[jn,zg1,this]
    have hl:lkV (p::l) nm=lkV l nm:=by simp[lkV,h]
    have hh:zbN (p::l) nm=zbN l nm:=by simp[zbN,h]
    rw[hf,hl,hh]
    exact ziq nm l (i+1)
theorem znY {P:Program}{H:Hp}{t kt e r:Nat} (ht:P.underlying t=some (.map kt e)) (hk:zam P kt=some .string) (hz:zff P e=some (.int .i64 0)) {vs:List (Nm×Int)} (hg:H.get r=some (.map (vEs vs))) (nm:Nm) :
 ji P H t (.map r) (.str nm) true=some (.tup [.int .i64 (lkV vs nm),.bool (zbN vs nm)]):=by
 obtain⟨h1,h2⟩:=ziq nm vs 0
 cases hh:zbN vs nm with
 | false=>
   obtain⟨g1,g2⟩:=h1 hh
   simp only[ji,ht,hk,hz,zbY,hg,g1,okOr,g2]
 | true=>
   obtain⟨j,g1⟩:=h2 hh
   simp only[ji,ht,hk,zbY,hg,g1,okOr]
end Go.Ab
