/- Parts: R3a, Strs, AbWk, AbCut, AbIc, Ints, Bytes, SpecI, SpecR, R3b, I1, I2, V1, EnX, I3, R3c, L4a, R3d, R3e, R3f, R3g, R3h, R3i, R3j, Spec6, Sem6. -/
import Derived.Test.YtpbcimfiofmoeaaSIG
set_option linter.unusedSimpArgs false
set_option linter.unusedVariables false
set_option linter.unusedSectionVars false
set_option linter.defProp false
set_option maxHeartbeats 32000000
namespace Go.Proofs.Ytpbcimfiofmoeaa
set_option maxRecDepth 20000
set_option maxRecDepth 20000
open Go Go.Ab
namespace tyR3a
def tyF:=And.intro @tq5 (And.intro @tq3 (And.intro @tq9 (And.intro @zcg (And.intro @zfG (And.intro @zgk (And.intro @zcp (And.intro @zbb (And.intro @zay (And.intro @zfH (And.intro @tq2 (@zbc)))))))))))
end tyR3a
open tyR3a
theorem ju (f:FuncId):Plain (zJ pls []) f:=⟨fun _=>rfl,rfl,rfl⟩
theorem yD {l:List En}{f:FuncId} (h1:∀ args,yJ l f args=none) (h2:zfI l f=false):Plain (zJ pls l) f:=⟨h1,h2,rfl⟩
def yC (l:List (List UInt8)) (s:List UInt8):Bool:=l.any fun x=>decide (x=s)
def zgp (op:Int):Bool:=decide (4≤op)&&decide (op≤18)
def zeroE (x:Ex):Bool:=decide (x.kind=0)&&decide (x.n=0)&&decide (x.name=[])&&decide (x.op=0)&&decide (x.kids.length=0)
def yn:List Fu→List UInt8→Int→Int
 | [],_,_=>-1
 | f::l,s,i=>if f.name=s then i else yn l s (i+1)
def bsE (s:List UInt8):List AV:=[.str s]
theorem znW (x y:List UInt8) (h:bsE x=bsE y):x=y:=by simpa [bsE]using h
end Go.Proofs.Ytpbcimfiofmoeaa
namespace Go.Proofs.Ytpbcimfiofmoeaa
set_option maxRecDepth 20000
open Go Go.Ab
def zj9 (H:Hp) (v:AV) (l:List (List UInt8)) (lo:Nat):Prop:=∃ r imm,v=.sl r 0 l.length 1∧H.get r=some (.cells (l.map .str) imm true)∧imm≤l.length∧lo≤r∧r < H.next
def zlv (H:Hp) (v:AV) (l:List (List UInt8)) (lo:Nat):Prop:=(v=.nilS∧l=[])∨zj9 H v l lo
theorem zj9.low {H H':Hp}{v:AV}{l:List (List UInt8)}{lo:Nat} (h:zj9 H v l lo) (hn:H.next≤H'.next) (hg:∀ k,lo≤k→k < H.next→H'.get k=H.get k):zj9 H' v l lo:=by
 obtain⟨r,imm,h1,h2,h3,h4,h5⟩:=h
 exact⟨r,imm,h1,by rw[hg r h4 h5];exact h2,h3,h4,by omega⟩
def yp (v:AV) (k:Nat):Prop:=∃ n,v=.sl k 0 n 1
def zfM (v v':AV) (H H':Hp):Prop:=(∀ k,k < H.next→¬ yp v k→H'.get k=H.get k)∧∀ k,yp v' k→yp v k∨H.next≤k
theorem zj9.lt {H:Hp}{v:AV}{l:List (List UInt8)}{lo:Nat} (h:zj9 H v l lo) {k:Nat} (hk:yp v k):lo≤k∧k < H.next:=by
 obtain⟨r,imm,rfl,_,_,h4,h5⟩:=h
 obtain⟨n,e⟩:=hk
 simp only[AV.sl.injEq]at e
 rw[← e.1];exact⟨h4,h5⟩
theorem zlv.lt {H:Hp}{v:AV}{l:List (List UInt8)}{lo:Nat} (h:zlv H v l lo) {k:Nat} (hk:yp v k):lo≤k∧k < H.next:=by
 rcases h with ⟨rfl,_⟩|h
 ·obtain⟨n,e⟩:=hk;simp at e
 ·exact h.lt hk
theorem zj9.keep {H H':Hp}{v:AV}{l:List (List UInt8)}{lo:Nat} (h:zj9 H v l lo) (hn:H.next≤H'.next) (hg:∀ k,yp v k→H'.get k=H.get k):zj9 H' v l lo:=by
 obtain⟨r,imm,rfl,h2,h3,h4,h5⟩:=h
 exact⟨r,imm,rfl,by rw[hg r ⟨_,rfl⟩];exact h2,h3,h4,by omega⟩
theorem zlv.keep {H H':Hp}{v:AV}{l:List (List UInt8)}{lo:Nat} (h:zlv H v l lo) (hn:H.next≤H'.next) (hg:∀ k,yp v k→H'.get k=H.get k):zlv H' v l lo:=h.imp id fun h=>h.keep hn hg
theorem zlw (l:List (List UInt8)):(l.map AV.str).all AV.one=true:=by simp[AV.one]
theorem zgq (m:List (List UInt8)):(m.map fun s=>[AV.str s]).flatten=m.map .str:=by induction m with
 | nil=>rfl
 | cons a m ih=>simp[ih]
theorem zuF {H:Hp}{r imm:Nat}{m:List (List UInt8)} (h:H.get r=some (.cells (m.map .str) imm true)):yg H 1 (.sl r 0 m.length 1)=some (m.length,m.map .str):=by
 have:=zdm (H:=H) (r:=r) (o:=0) (n:=m.length) (z:=1) (s:=1) h (by simp)
 rw[this,List.drop_zero,List.take_of_length_le (by simp)]
theorem zuG {H:Hp}{v x:AV}{l m:List (List UInt8)}{lo:Nat} (hv:zlv H v l lo) (hlo:lo≤H.next) (hx:yg H 1 x=some (m.length,m.map .str)) (hm:m≠[]) (hb:l.length+m.length < 2 ^ 40) :
 ∃ v' H',zV Try.prog false H 47 47 v x=some (v',H')∧zj9 H' v' (l++m) lo∧H'.next=H.next+1∧(∀ k,k < lo→H'.get k=H.get k)∧zfM v v' H H':=by
 obtain⟨n,hn⟩:∃ n,m.length=n+1:=⟨m.length - 1,by have:=List.length_pos_iff.2 hm;omega⟩
 have hmr:zU=70368744177664:=rfl
 rw[hn]at hx
 rcases hv with ⟨rfl,rfl⟩|⟨r,imm,rfl,h2,h3,h4,h5⟩
 ·refine⟨.sl H.next 0 (n+1) 1,H.alloc (.cells (m.map .str) 0 true),append_nil Try.underlying47 sz9 bt9 zr9 (by kernel_rfl) hx (zlw m) rfl (by rw[hmr];omega) (by rw[hmr];omega),⟨H.next,0,by simp[hn],by rw[za,if_pos rfl];rfl,by omega,hlo,Nat.lt_succ_self _⟩,rfl,fun k hk=>by rw[za,if_neg (by omega)],fun k hk _=>by rw[za,if_neg (by omega)],fun k hk=>.inr ?_⟩
  obtain⟨n',e⟩:=hk
  simp only[AV.sl.injEq]at e
  omega
 ·have htr:zaf false H 1 (.sl r 0 l.length 1)=H:=by
   unfold zaf
   simp only[h2,Nat.zero_add,List.length_map,Nat.mul_one]
   have:Nat.blt l.length l.length=false:=by
    cases hb:Nat.blt l.length l.length with
    | false=>rfl
    | true=>rw[Nat.blt_eq]at hb;omega
   simp[this]
  refine⟨.sl H.next 0 (l.length+(n+1)) 1,(H.kill r).alloc (.cells (l.map .str++m.map .str) (imm - 0) true),?_,⟨H.next,imm,by simp[hn],?_,by simp;omega,hlo,Nat.lt_succ_self _⟩,rfl,fun k hk=>?_,fun k hk hno=>?_,fun k hk=>.inr ?_⟩
  ·simp only[zV,Try.underlying47,sz9,bt9,zr9,show jj Try.prog 47=true by kernel_rfl,hx,zlw,htr,and_self,if_true,List.length_cons,List.length_nil,yY,h2,List.length_map,Nat.zero_add,Nat.mul_one,List.drop_zero]
   rw[if_pos ⟨by rw[hmr];omega,by rw[hmr];omega,trivial,trivial,h3⟩]
   simp
  ·show((H.kill r).alloc _).get (H.kill r).next=_
   rw[za,if_pos rfl];simp
  ·rw[za,if_neg (by simp only[z6];omega),zS,if_neg (by omega)]
  ·rw[za,if_neg (by simp only[z6];omega),zS,if_neg (fun e=>hno ⟨_,by rw[e]⟩)]
  ·obtain⟨n',e⟩:=hk
   simp only[AV.sl.injEq]at e
   omega
theorem znX {H:Hp}{v:AV}{l:List (List UInt8)}{lo r imm:Nat} (s:List UInt8) (hv:zlv H v l lo) (hlo:lo≤H.next) (hs:H.get r=some (.cells [.str s] imm true)) (hb:l.length < 2 ^ 39) :
 ∃ v' H',zV Try.prog false H 47 47 v (.sl r 0 1 1)=some (v',H')∧zj9 H' v' (l++[s]) lo∧H'.next=H.next+1∧(∀ k,k < lo→H'.get k=H.get k)∧zfM v v' H H':=
 zuG hv hlo (zuF (m:=[s]) hs) (by simp) (by simp;omega)
theorem zo1 (l:List (List UInt8)):zao 1 l.length (l.map .str)=l.map fun s=>[AV.str s]:=by
 induction l with
 | nil=>rfl
 | cons a l ih=>simp[zao,ih]
end Go.Proofs.Ytpbcimfiofmoeaa
namespace Go.Ab
set_option maxRecDepth 20000
open Go
def wkN:Nat→AV→AV
 | 0,v=>v
 | n+1,v=>match v with
   | .nilS=>.lst []
   | .lst xs=>.lst (xs.map fun row=>row.map (wkN n))
   | .agg cs=>.agg (cs.map (wkN n))
   | .tup cs=>.tup (cs.map (wkN n))
   | v=>v
theorem VR.wk {G:Gh}:∀ (n:Nat) {v:AV}{x:Value},VR G v x→VR G (wkN n v) x
 | 0,_,_,h=>h
 | n+1,v,x,h=>by
   cases h with
   | nilS=>exact .lst0 _ _
   | lst vs hz hF hv hc=>
     rename_i xs b o cap z
     have:=VR.lst (G:=G) (xs:=xs.map fun row=>row.map (wkN n)) (b:=b) (o:=o) (cap:=cap) (z:=z) vs ?_ ?_ ?_ ?_
     ·rw[List.length_map]at this;exact this
     ·intro i row hr
      rw[List.getElem?_map]at hr
      cases hx:xs[i]? with
      | none=>rw[hx]at hr;simp at hr
      | some r0=>rw[hx]at hr;simp only[Option.map_some,Option.some.injEq]at hr;rw[← hr,List.length_map];exact hz i r0 hx
     ·intro i j hi hj;rw[List.length_map]at hi;exact hF i j hi hj
     ·intro i j row c hr hc2
      rw[List.getElem?_map]at hr
      cases hx:xs[i]? with
      | none=>rw[hx]at hr;simp at hr
      | some r0=>
        rw[hx]at hr;simp only[Option.map_some,Option.some.injEq]at hr
        rw[← hr,List.getElem?_map]at hc2
        cases hy:r0[j]? with
        | none=>rw[hy]at hc2;simp at hc2
        | some c0=>rw[hy]at hc2;simp only[Option.map_some,Option.some.injEq]at hc2;rw[← hc2];exact VR.wk n (hv i j r0 c0 hx hy)
     ·rw[List.length_map];exact hc
   | lst0 a cap=>exact .lst0 a cap
   | agg hl hv=>
     refine .agg (by rw[List.length_map];exact hl) fun i c v hc hv2=>?_
     rw[List.getElem?_map]at hc
     rename_i cs vs
     cases hy:cs[i]? with
     | none=>rw[hy]at hc;simp at hc
     | some c0=>rw[hy]at hc;simp only[Option.map_some,Option.some.injEq]at hc;rw[← hc];exact VR.wk n (hv i c0 v hy hv2)
   | tup hl hv=>
     refine .tup (by rw[List.length_map];exact hl) fun i c v hc hv2=>?_
     rw[List.getElem?_map]at hc
     rename_i cs vs
     cases hy:cs[i]? with
     | none=>rw[hy]at hc;simp at hc
     | some c0=>rw[hy]at hc;simp only[Option.map_some,Option.some.injEq]at hc;rw[← hc];exact VR.wk n (hv i c0 v hy hv2)
   | int k m=>exact .int k m
   | sx k e=>exact .sx k e
   | bool b=>exact .bool b
   | str s l h=>exact .str s l h
   | nilP=>exact .nilP
   | nilM=>exact .nilM
   | nilF=>exact .nilF
   | ptr h=>exact .ptr h
   | iptr vs hF hv=>exact .iptr vs hF hv
   | sl h hl hc=>exact .sl h hl hc
   | map h=>exact .map h
   | clo hl hv=>exact .clo hl hv
theorem Con.wk {P:Program}{ρ:Nat→Int}{f:FuncId}{args:List AV}{r:AV} (n:Nat) (h:Con P ρ f args r):Con P ρ f args (wkN n r):=
 ⟨h.1,fun G w vs h1 h2 h3=>(h.2 G w vs h1 h2 h3).mono fun _ _ ⟨v,F1,h4,h5,h6⟩=>⟨v,F1,h4,h5.wk n,h6⟩⟩
theorem znY {P:Program}{ρ:Nat→Int}{f:FuncId}{args:List AV}{r r':AV} (n:Nat) (h:Con P ρ f args r) (e:wkN n r=r'):Con P ρ f args r':=e ▸ h.wk n
variable {P:Program} {cfg:Cfg} {f N:Nat}
theorem zqA {c:SC}{E:Env}{H:Hp}{Q:AX→Env→Hp→Prop} (cs:List Nat) (h:∀ E':Env,(∀ k∈cs,E'.at k=E.at k)→Wp P cfg f N c E' H Q):Wp P cfg f N c E H Q:=h E fun _ _=>rfl
def zbm {α β:Type} (p:α→β→Prop):List α→List β→Prop
 | [],[]=>True
 | a::l,b::m=>p a b∧zbm p l m
 | _,_=>False
theorem zbm.len {α β:Type}{p:α→β→Prop}:∀ {l:List α}{m:List β},zbm p l m→l.length=m.length
 | [],[],_=>rfl
 | _::_,_::_,h=>by simp only[List.length_cons,zbm.len h.2]
theorem zbm.mono {α β:Type}{p q:α→β→Prop} (h:∀ a b,p a b→q a b):∀ {l:List α}{m:List β},zbm p l m→zbm q l m
 | [],[],_=>trivial
 | _::_,_::_,k=>⟨h _ _ k.1,zbm.mono h k.2⟩
theorem zbm.append {α β:Type}{p:α→β→Prop}:∀ {l:List α}{m:List β}{l':List α}{m':List β},zbm p l m→zbm p l' m'→zbm p (l++l') (m++m')
 | [],[],_,_,_,h=>h
 | _::_,_::_,_,_,h,k=>⟨h.1,zbm.append h.2 k⟩
theorem zbm.refl {α:Type}{p:α→α→Prop}:∀ {l:List α},(∀ a∈l,p a a)→zbm p l l
 | [],_=>trivial
 | a::l,h=>⟨h a List.mem_cons_self,zbm.refl fun b hb=>h b (List.mem_cons_of_mem _ hb)⟩
def flatA (v:AV):Prop:=zar v∧match v with
 | .sl _ _ _ _|.agg _=>False
 | _=>True
def Ic (S:Nat→Prop):Nat→Hp→AV→AV→Prop
 | 0,_,_,_=>False
 | n+1,H,v,u=>match v with
   | .sl r off len z=>S r∧r < H.next∧∃ cs imm tip l,H.get r=some (.cells cs imm tip)∧imm≤cs.length∧off+len * z≤cs.length∧zbm (Ic S n H) ((cs.drop off).take (len * z)) l∧u=.lst (zao z len l)
   | .agg cs=>∃ ds,zbm (Ic S n H) cs ds∧u=.agg ds
   | v=>zar v∧u=v
theorem Ic.flat {S:Nat→Prop}{n:Nat}{H:Hp}{v:AV} (h:flatA v):Ic S (n+1) H v v:=by
 cases v<;>first|exact h.2.elim|exact⟨h.1,rfl⟩
theorem Ic.up {S:Nat→Prop}{H:Hp}:∀ {n m:Nat}{v u:AV},Ic S n H v u→n≤m→Ic S m H v u
 | 0,_,_,_,h,_=>h.elim
 | n+1,0,_,_,_,hm=>by omega
 | n+1,m+1,v,u,h,hm=>by
   cases v with
   | sl r off len z=>
     obtain⟨h1,h0,cs,imm,tip,l,h2,h3,h4,h5,h6⟩:=h
     exact⟨h1,h0,cs,imm,tip,l,h2,h3,h4,h5.mono fun a b k=>Ic.up k (by omega),h6⟩
   | agg cs=>
     obtain⟨ds,h1,h2⟩:=h
     exact⟨ds,h1.mono fun a b k=>Ic.up k (by omega),h2⟩
   | _=>exact h
def zfN (a b:Option HB):Prop:=a=b∨∃ cs i j tip,a=some (.cells cs i tip)∧b=some (.cells cs j tip)∧(i≤cs.length→j≤cs.length)
theorem zfN.trans {a b c:Option HB} (h:zfN a b) (k:zfN b c):zfN a c:=by
 rcases h with rfl|⟨cs,i,j,tip,rfl,rfl,h⟩
 ·exact k
 ·rcases k with rfl|⟨cs',i',j',tip',e,rfl,k⟩
  ·exact .inr ⟨cs,i,j,tip,rfl,rfl,h⟩
  ·simp only[Option.some.injEq,HB.cells.injEq]at e
   obtain⟨rfl,rfl,rfl⟩:=e
   exact .inr ⟨cs,i,j',tip,rfl,rfl,fun q=>k (h q)⟩
theorem Ic.frame2 {S S':Nat→Prop}{H H':Hp} (hS:∀ k,k < H.next→S k→S' k) (hn:H.next≤H'.next) (hf:∀ k,S k→k < H.next→zfN (H.get k) (H'.get k)):∀ {n:Nat}{v u:AV},Ic S n H v u→Ic S' n H' v u
 | 0,_,_,h=>h.elim
 | n+1,v,u,h=>by
   cases v with
   | sl r off len z=>
     obtain⟨h1,h0,cs,imm,tip,l,h2,h3,h4,h5,h6⟩:=h
     have h5':=h5.mono fun a b k=>Ic.frame2 hS hn hf k
     rcases hf r h1 h0 with e|⟨cs',i,j,tip',e1,e2,e3⟩
     ·exact⟨hS r h0 h1,by omega,cs,imm,tip,l,by rw[← e];exact h2,h3,h4,h5',h6⟩
     ·rw[h2]at e1
      simp only[Option.some.injEq,HB.cells.injEq]at e1
      obtain⟨rfl,rfl,rfl⟩:=e1
      exact⟨hS r h0 h1,by omega,cs,j,tip,l,e2,e3 h3,h4,h5',h6⟩
   | agg cs=>
     obtain⟨ds,h1,h2⟩:=h
     exact⟨ds,h1.mono fun a b k=>Ic.frame2 hS hn hf k,h2⟩
   | _=>exact h
theorem Ic.frame {S S':Nat→Prop} (hS:∀ k,S k→S' k) {H H':Hp} (hn:H.next≤H'.next) (hf:∀ k,S k→k < H.next→zfN (H.get k) (H'.get k)) {n:Nat}{v u:AV} (h:Ic S n H v u):Ic S' n H' v u:=h.frame2 (fun k _ q=>hS k q) hn hf
structure Icy (S:Nat→Prop) (H H':Hp):Prop where
 next:H'.next=H.next
 out:∀ k,¬ S k→H'.get k=H.get k
 same:∀ k,zfN (H.get k) (H'.get k)
theorem Icy.refl (S:Nat→Prop) (H:Hp):Icy S H H:=⟨rfl,fun _ _=>rfl,fun _=>.inl rfl⟩
theorem Icy.trans {S:Nat→Prop}{a b c:Hp} (h:Icy S a b) (k:Icy S b c):Icy S a c:=⟨k.next.trans h.next,fun r hr=>(k.out r hr).trans (h.out r hr),fun r=>(h.same r).trans (k.same r)⟩
theorem Icy.ic {S S':Nat→Prop}{H H':Hp} (h:Icy S H H') {n:Nat}{v u:AV} (k:Ic S' n H v u):Ic S' n H' v u:=k.frame (fun _ q=>q) (Nat.le_of_eq h.next.symm) fun r _ _=>h.same r
theorem zem {S:Nat→Prop}{n:Nat} (ih:∀ {v u:AV}{H:Hp},Ic S n H v u→∃ H',zbW n v H=some (u,H')∧Icy S H H'):∀ {l m:List AV}{H:Hp},zbm (Ic S n H) l m→∃ H',zbn (zbW n) l H=some (m,H')∧Icy S H H'
 | [],[],H,_=>⟨H,rfl,Icy.refl S H⟩
 | a::l,b::m,H,h=>by
   obtain⟨H1,h1,h2⟩:=ih h.1
   obtain⟨H2,h3,h4⟩:=zem ih (l:=l) (m:=m) (H:=H1) (h.2.mono fun a b k=>h2.ic k)
   exact⟨H2,by simp only[zbn,h1,h3],h2.trans h4⟩
theorem Ic.ice {S:Nat→Prop}:∀ {n:Nat}{v u:AV}{H:Hp},Ic S n H v u→∃ H',zbW n v H=some (u,H')∧Icy S H H'
 | 0,_,_,_,h=>h.elim
 | n+1,v,u,H,h=>by
   cases v with
   | sl r off len z=>
     obtain⟨h1,h0,cs,imm,tip,l,h2,h3,h4,h5,rfl⟩:=h
     have hset:Icy S H (H.set r (.cells cs (max imm (off+len * z)) tip)):=by
      refine⟨rfl,fun k hk=>by rw[Hp.get_set,if_neg (fun e=>hk (by rw[e];exact h1))],fun k=>?_⟩
      rw[Hp.get_set]
      split
      ·rename_i e;subst e;exact .inr ⟨cs,imm,max imm (off+len * z),tip,h2,rfl,fun _=>by omega⟩
      ·exact .inl rfl
     obtain⟨H',h6,h7⟩:=zem (fun k=>Ic.ice k) (h5.mono fun a b k=>hset.ic k)
     refine⟨H',?_,hset.trans h7⟩
     have e:zbW (n+1) (.sl r off len z) H=match H.get r with
      | some (.cells cs imm tip)=>match Nat.ble (off+len * z) cs.length&&Nat.ble imm cs.length with
        | true=>match zbn (zbW n) ((cs.drop off).take (len * z)) (H.set r (.cells cs (max imm (off+len * z)) tip))with
          | some (l',H)=>some (.lst (zao z len l'),H)
          | none=>none
        | false=>none
      | _=>none:=rfl
     rw[e,h2]
     have e1:Nat.ble (off+len * z) cs.length=true:=by rw[Nat.ble_eq];exact h4
     have e2:Nat.ble imm cs.length=true:=by rw[Nat.ble_eq];exact h3
     simp only[e1,e2,Bool.and_self,h6]
   | agg cs=>
     obtain⟨ds,h1,rfl⟩:=h
     obtain⟨H',h2,h3⟩:=zem (fun k=>Ic.ice k) h1
     refine⟨H',?_,h3⟩
     have e:zbW (n+1) (.agg cs) H=match zbn (zbW n) cs H with
      | some (ds,H)=>some (.agg ds,H)
      | none=>none:=rfl
     rw[e,h2]
   | ptr r o=>
     obtain⟨k,hk⟩:=h.1
     exact absurd (hk (k+1) (by omega) H) (by simp[iceV])
   | map r=>
     obtain⟨k,hk⟩:=h.1
     exact absurd (hk (k+1) (by omega) H) (by simp[iceV])
   | _=>exact⟨H,by rw[show u=_ from h.2];rfl,Icy.refl S H⟩
theorem Ic.iceL {S:Nat→Prop}{n:Nat}{l m:List AV}{H:Hp} (h:zbm (Ic S n H) l m):∃ H',zbn (zbW n) l H=some (m,H')∧Icy S H H':=zem (fun k=>Ic.ice k) h
theorem zfO {S:Nat→Prop}{n:Nat}{H:Hp} (ih:∀ {v u:AV},Ic S n H v u→∃ m0,∀ m,m0≤m→iceV H m v=some u):∀ {l k:List AV},zbm (Ic S n H) l k→∃ m0,∀ m,m0≤m→iceL (iceV H m) l=some k
 | [],[],_=>⟨0,fun _ _=>rfl⟩
 | a::l,b::k,h=>by
   obtain⟨m1,h1⟩:=ih h.1
   obtain⟨m2,h2⟩:=zfO ih (l:=l) (k:=k) h.2
   exact⟨max m1 m2,fun m hm=>by simp only[iceL,h1 m (by omega),h2 m (by omega)]⟩
theorem Ic.iceV {S:Nat→Prop}{H:Hp}:∀ {n:Nat}{v u:AV},Ic S n H v u→∃ m0,∀ m,m0≤m→iceV H m v=some u
 | 0,_,_,h=>h.elim
 | n+1,v,u,h=>by
   cases v with
   | sl r off len z=>
     obtain⟨h1,h0,cs,imm,tip,l,h2,h3,h4,h5,rfl⟩:=h
     obtain⟨m0,hm0⟩:=zfO (fun k=>Ic.iceV k) h5
     refine⟨m0+1,fun m hm=>?_⟩
     obtain⟨m,rfl⟩:∃ k,m=k+1:=⟨m - 1,by omega⟩
     have e:Ab.iceV H (m+1) (.sl r off len z)=match H.get r with
      | some (.cells cs _ _)=>match Ab.iceL (Ab.iceV H m) ((cs.drop off).take (len * z))with
        | some l'=>if l'.length=len * z then some (.lst (zao z len l'))else none
        | none=>none
      | _=>none:=rfl
     have hl:l.length=len * z:=by rw[← h5.len,List.length_take,List.length_drop];omega
     rw[e,h2]
     simp only[hm0 m (by omega),hl,if_true]
   | agg cs=>
     obtain⟨ds,h1,rfl⟩:=h
     obtain⟨m0,hm0⟩:=zfO (fun k=>Ic.iceV k) h1
     refine⟨m0+1,fun m hm=>?_⟩
     obtain⟨m,rfl⟩:∃ k,m=k+1:=⟨m - 1,by omega⟩
     have e:Ab.iceV H (m+1) (.agg cs)=match Ab.iceL (Ab.iceV H m) cs with
      | some ds=>some (.agg ds)
      | none=>none:=rfl
     rw[e,hm0 m (by omega)]
   | _=>
     obtain⟨k,hk⟩:=h.1
     exact⟨k,fun m hm=>by rw[hk m hm H,h.2]⟩
theorem zic (z:Nat):∀ (rows:List (List AV)),(∀ r∈rows,r.length=z)→zao z rows.length rows.flatten=rows
 | [],_=>rfl
 | r::rows,h=>by
   have h1:=h r List.mem_cons_self
   rw[List.flatten_cons,List.length_cons]
   show(r++rows.flatten).take z::zao z rows.length ((r++rows.flatten).drop z)=_
   rw[List.take_append_of_le_length (by omega),List.take_of_length_le (by omega),List.drop_append_of_le_length (by omega),List.drop_of_length_le (by omega),List.nil_append,zic z rows fun q hq=>h q (List.mem_cons_of_mem _ hq)]
theorem zcY {z:Nat}:∀ {rows:List (List AV)},(∀ r∈rows,r.length=z)→rows.flatten.length=rows.length * z
 | [],_=>by simp
 | r::rows,h=>by
   rw[List.flatten_cons,List.length_append,h r List.mem_cons_self,zcY fun q hq=>h q (List.mem_cons_of_mem _ hq),List.length_cons,Nat.succ_mul];omega
theorem zbm.flat {p:AV→AV→Prop}:∀ {a b:List (List AV)},zbm (zbm p) a b→zbm p a.flatten b.flatten
 | [],[],_=>trivial
 | _::_,_::_,h=>by rw[List.flatten_cons,List.flatten_cons];exact h.1.append (zbm.flat h.2)
theorem zbm.rowlen {p:AV→AV→Prop}{z:Nat}:∀ {a b:List (List AV)},zbm (zbm p) a b→(∀ r∈a,r.length=z)→∀ r∈b,r.length=z
 | [],[],_,_,r,hr=>by simp at hr
 | x::a,y::b,h,hz,r,hr=>by
   rcases List.mem_cons.1 hr with rfl|hr
   ·rw[← h.1.len];exact hz x List.mem_cons_self
   ·exact zbm.rowlen h.2 (fun q hq=>hz q (List.mem_cons_of_mem _ hq)) r hr
theorem Ic.rows {S:Nat→Prop}{n:Nat}{H:Hp}{r z imm:Nat}{tip:Bool}{a b:List (List AV)} (hS:S r) (hr:r < H.next) (hg:H.get r=some (.cells a.flatten imm tip)) (hi:imm≤a.flatten.length) (hz:∀ x∈a,x.length=z) (h:zbm (zbm (Ic S n H)) a b):Ic S (n+1) H (.sl r 0 a.length z) (.lst b):=by
 have hl:=zcY hz
 refine⟨hS,hr,a.flatten,imm,tip,b.flatten,hg,hi,by omega,?_,?_⟩
 ·rw[List.drop_zero,List.take_of_length_le (by omega)];exact h.flat
 ·rw[h.len,zic z b (h.rowlen hz)]
theorem VRs.wk {G:Gh} (n:Nat):∀ {args:List AV}{vs:List Value},VRs G args vs→VRs G (args.map (wkN n)) vs
 | [],vs,h=>h
 | a::l,[],h=>by have:=h.1;simp at this
 | a::l,v::vs,h=>by
   obtain⟨h1,h2⟩:=h.of_cons
   exact VRs.cons (h1.wk n) (VRs.wk n h2)
theorem Con.wkA {P:Program}{ρ:Nat→Int}{f:FuncId}{args:List AV}{r:AV} (n:Nat) (h:Con P ρ f (args.map (wkN n)) r):Con P ρ f args r:=⟨h.1,fun G w vs h1 h2 h3=>h.2 G w vs h1 h2 (h3.wk n)⟩
def enW (e:En):En:=⟨e.f,e.ice,fun args=>e.sp (args.map (wkN 60))⟩
theorem zqB {P:Program}{ρ:Nat→Int}{e:En} (h:zaF P ρ e):zaF P ρ (enW e):=fun args r hr=>(h _ r hr).wkA 60
end Go.Ab
namespace Go.Proofs.Ytpbcimfiofmoeaa
set_option maxRecDepth 20000
open Go Go.Ab
def zcZ (H:Hp) (v:AV) (l:List Int) (lo:Nat):Prop:=∃ r imm,v=.sl r 0 l.length 1∧H.get r=some (.cells (l.map (.int .i64)) imm true)∧imm≤l.length∧lo≤r∧r < H.next
def zey (H:Hp) (v:AV) (l:List Int) (lo:Nat):Prop:=(v=.nilS∧l=[])∨zcZ H v l lo
theorem zcZ.low {H H':Hp}{v:AV}{l:List Int}{lo:Nat} (h:zcZ H v l lo) (hn:H.next≤H'.next) (hg:∀ k,lo≤k→k < H.next→H'.get k=H.get k):zcZ H' v l lo:=by
 obtain⟨r,imm,h1,h2,h3,h4,h5⟩:=h
 exact⟨r,imm,h1,by rw[hg r h4 h5];exact h2,h3,h4,by omega⟩
theorem zcZ.lt {H:Hp}{v:AV}{l:List Int}{lo:Nat} (h:zcZ H v l lo) {k:Nat} (hk:yp v k):lo≤k∧k < H.next:=by
 obtain⟨r,imm,rfl,_,_,h4,h5⟩:=h
 obtain⟨n,e⟩:=hk
 simp only[AV.sl.injEq]at e
 rw[← e.1];exact⟨h4,h5⟩
theorem zey.lt {H:Hp}{v:AV}{l:List Int}{lo:Nat} (h:zey H v l lo) {k:Nat} (hk:yp v k):lo≤k∧k < H.next:=by
 rcases h with ⟨rfl,_⟩|h
 ·obtain⟨n,e⟩:=hk;simp at e
 ·exact h.lt hk
theorem zcZ.keep {H H':Hp}{v:AV}{l:List Int}{lo:Nat} (h:zcZ H v l lo) (hn:H.next≤H'.next) (hg:∀ k,yp v k→H'.get k=H.get k):zcZ H' v l lo:=by
 obtain⟨r,imm,rfl,h2,h3,h4,h5⟩:=h
 exact⟨r,imm,rfl,by rw[hg r ⟨_,rfl⟩];exact h2,h3,h4,by omega⟩
theorem zey.keep {H H':Hp}{v:AV}{l:List Int}{lo:Nat} (h:zey H v l lo) (hn:H.next≤H'.next) (hg:∀ k,yp v k→H'.get k=H.get k):zey H' v l lo:=h.imp id fun h=>h.keep hn hg
theorem iOne (l:List Int):(l.map (AV.int .i64)).all AV.one=true:=by simp[AV.one]
theorem zci {H:Hp}{r imm:Nat}{m:List Int} (h:H.get r=some (.cells (m.map (.int .i64)) imm true)):yg H 1 (.sl r 0 m.length 1)=some (m.length,m.map (.int .i64)):=by
 have:=zdm (H:=H) (r:=r) (o:=0) (n:=m.length) (z:=1) (s:=1) h (by simp)
 rw[this,List.drop_zero,List.take_of_length_le (by simp)]
theorem zlx {H:Hp}{v x:AV}{l m:List Int}{lo:Nat} (hv:zey H v l lo) (hlo:lo≤H.next) (hx:yg H 1 x=some (m.length,m.map (.int .i64))) (hm:m≠[]) (hb:l.length+m.length < 2 ^ 40) :
 ∃ v' H',zV Try.prog false H 23 23 v x=some (v',H')∧zcZ H' v' (l++m) lo∧H'.next=H.next+1∧(∀ k,k < lo→H'.get k=H.get k)∧zfM v v' H H':=by
 obtain⟨n,hn⟩:∃ n,m.length=n+1:=⟨m.length - 1,by have:=List.length_pos_iff.2 hm;omega⟩
 have hmr:zU=70368744177664:=rfl
 rw[hn]at hx
 rcases hv with ⟨rfl,rfl⟩|⟨r,imm,rfl,h2,h3,h4,h5⟩
 ·refine⟨.sl H.next 0 (n+1) 1,H.alloc (.cells (m.map (.int .i64)) 0 true),append_nil Try.underlying23 sz3 bt3 zr3 (by kernel_rfl) hx (iOne m) rfl (by rw[hmr];omega) (by rw[hmr];omega),⟨H.next,0,by simp[hn],by rw[za,if_pos rfl];rfl,by omega,hlo,Nat.lt_succ_self _⟩,rfl,fun k hk=>by rw[za,if_neg (by omega)],fun k hk _=>by rw[za,if_neg (by omega)],fun k hk=>.inr ?_⟩
  obtain⟨n',e⟩:=hk
  simp only[AV.sl.injEq]at e
  omega
 ·have htr:zaf false H 1 (.sl r 0 l.length 1)=H:=by
   unfold zaf
   simp only[h2,Nat.zero_add,List.length_map,Nat.mul_one]
   have:Nat.blt l.length l.length=false:=by
    cases hb:Nat.blt l.length l.length with
    | false=>rfl
    | true=>rw[Nat.blt_eq]at hb;omega
   simp[this]
  refine⟨.sl H.next 0 (l.length+(n+1)) 1,(H.kill r).alloc (.cells (l.map (.int .i64)++m.map (.int .i64)) (imm - 0) true),?_,⟨H.next,imm,by simp[hn],?_,by simp;omega,hlo,Nat.lt_succ_self _⟩,rfl,fun k hk=>?_,fun k hk hno=>?_,fun k hk=>.inr ?_⟩
  ·simp only[zV,Try.underlying23,sz3,bt3,zr3,show jj Try.prog 23=true by kernel_rfl,hx,iOne,htr,and_self,if_true,List.length_cons,List.length_nil,yY,h2,List.length_map,Nat.zero_add,Nat.mul_one,List.drop_zero]
   rw[if_pos ⟨by rw[hmr];omega,by rw[hmr];omega,trivial,trivial,h3⟩]
   simp
  ·show((H.kill r).alloc _).get (H.kill r).next=_
   rw[za,if_pos rfl];simp
  ·rw[za,if_neg (by simp only[z6];omega),zS,if_neg (by omega)]
  ·rw[za,if_neg (by simp only[z6];omega),zS,if_neg (fun e=>hno ⟨_,by rw[e]⟩)]
  ·obtain⟨n',e⟩:=hk
   simp only[AV.sl.injEq]at e
   omega
theorem zly {H:Hp}{v:AV}{l:List Int}{lo r imm:Nat} (s:Int) (hv:zey H v l lo) (hlo:lo≤H.next) (hs:H.get r=some (.cells [.int .i64 s] imm true)) (hb:l.length < 2 ^ 39) :
 ∃ v' H',zV Try.prog false H 23 23 v (.sl r 0 1 1)=some (v',H')∧zcZ H' v' (l++[s]) lo∧H'.next=H.next+1∧(∀ k,k < lo→H'.get k=H.get k)∧zfM v v' H H':=
 zlx hv hlo (zci (m:=[s]) hs) (by simp) (by simp;omega)
theorem zlz {H:Hp}{v w:AV}{l m:List Int}{lo lo':Nat} (hv:zcZ H v l lo) (hlo:lo≤H.next) (hw:zey H w m lo') (hb:l.length+m.length < 2 ^ 40) :
 ∃ v' H',zV Try.prog false H 23 23 v w=some (v',H')∧zcZ H' v' (l++m) lo∧H.next≤H'.next∧(∀ k,k < lo→H'.get k=H.get k)∧zfM v v' H H':=by
 by_cases hm:m=[]
 ·subst hm
  refine⟨v,H,?_,by rw[List.append_nil];exact hv,Nat.le_refl _,fun _ _=>rfl,fun _ _ _=>rfl,fun _ h=>.inl h⟩
  obtain⟨r,imm,rfl,h2,_⟩:=hv
  rcases hw with ⟨rfl,_⟩|⟨r',imm',rfl,g2,_⟩
  ·simp only[zV,Try.underlying23,sz3,bt3,zr3,show jj Try.prog 23=true by kernel_rfl,yg]
  ·have g3:=zci g2
   simp only[List.length_nil]at g3
   simp only[zV,Try.underlying23,sz3,bt3,zr3,show jj Try.prog 23=true by kernel_rfl,List.length_nil,g3]
 ·rcases hw with ⟨_,h⟩|⟨r',imm',rfl,g2,_⟩
  ·exact(hm h).elim
  ·obtain⟨v',H',h1,h2,h3,h4⟩:=zlx (.inr hv) hlo (zci g2) hm hb
   exact⟨v',H',h1,h2,by omega,h4⟩
theorem zcZ.len {H H':Hp}{v:AV}{l:List Int}{lo:Nat} (h:zcZ H v l lo):yh Try.prog H' 23 v=some (.int .i64 l.length):=by
 obtain⟨r,imm,rfl,_⟩:=h
 exact jq Try.underlying23 _ _ _ _
theorem zcZ.at {H:Hp}{v:AV}{l:List Int}{lo:Nat} (h:zcZ H v l lo) {i:Nat} (hi:i < l.length) :
 ∃ r,zq Try.prog 23 v (.int .i64 (i:Int))=some (.ptr r i)∧zaY Try.prog H 3 (.ptr r i)=some (.int .i64 l[i]):=by
 obtain⟨r,imm,rfl,h2,_⟩:=h
 refine⟨r,?_,?_⟩
 ·rw[zfE Try.underlying23 sz3 hi];simp
 ·rw[zh3 Try.underlying3 rfl h2,List.getElem?_map,List.getElem?_eq_getElem hi];rfl
theorem zid (l:List Int):zao 1 l.length (l.map (.int .i64))=l.map fun s=>[AV.int .i64 s]:=by
 induction l with
 | nil=>rfl
 | cons a l ih=>simp[zao,ih]
theorem zlA (n:Nat):∀ (l:List Int) (H:Hp),zbn (zbW (n+1)) (l.map (.int .i64)) H=some (l.map (.int .i64),H)
 | [],H=>rfl
 | a::l,H=>by
   have:=zlA n l H
   have e:zbW (n+1) (.int .i64 a) H=some (.int .i64 a,H):=rfl
   simp only[List.map_cons,zbn,e,this]
theorem zcZ.ice {H:Hp}{v:AV}{l:List Int}{lo:Nat} (h:zcZ H v l lo) (n:Nat) :
 ∃ H',zbW (n+2) v H=some (zco l,H')∧zcZ H' v l lo∧H'.next=H.next∧(∀ k,k < lo→H'.get k=H.get k)∧∀ k,¬ yp v k→H'.get k=H.get k:=by
 obtain⟨r,imm,rfl,h2,h3,h4,h5⟩:=h
 refine⟨H.set r (.cells (l.map (.int .i64)) (max imm l.length) true),?_,⟨r,max imm l.length,rfl,by rw[Hp.get_set,if_pos rfl],by omega,h4,h5⟩,rfl,fun k hk=>by rw[Hp.get_set,if_neg (by omega)],fun k hk=>by rw[Hp.get_set,if_neg (fun e=>hk ⟨_,by rw[e]⟩)]⟩
 have e:zbW (n+2) (.sl r 0 l.length 1) H=match H.get r with
  | some (.cells cs imm tip)=>match Nat.ble (0+l.length * 1) cs.length&&Nat.ble imm cs.length with
    | true=>match zbn (zbW (n+1)) ((cs.drop 0).take (l.length * 1)) (H.set r (.cells cs (max imm (0+l.length * 1)) tip))with
      | some (l',H)=>some (.lst (zao 1 l.length l'),H)
      | none=>none
    | false=>none
  | _=>none:=rfl
 rw[e,h2]
 simp only[List.length_map,Nat.zero_add,Nat.mul_one,List.drop_zero]
 have h6:Nat.ble l.length l.length=true:=by rw[Nat.ble_eq];omega
 have h7:Nat.ble imm l.length=true:=by rw[Nat.ble_eq];omega
 rw[h6,h7]
 simp only[Bool.and_self]
 rw[List.take_of_length_le (by simp),zlA]
 simp only[zid]
def IntZ (H:Hp) (v:AV) (l:List Int) (lo:Nat):Prop:=∃ r,v=.sl r 0 l.length 1∧H.get r=some (.cells (l.map (.int .i64)) 0 true)∧lo≤r∧r < H.next
def zdY (H:Hp) (v:AV) (l:List Int) (lo:Nat):Prop:=(v=.nilS∧l=[])∨IntZ H v l lo
theorem IntZ.b {H:Hp}{v:AV}{l:List Int}{lo:Nat} (h:IntZ H v l lo):zcZ H v l lo:=by
 obtain⟨r,h1,h2,h3,h4⟩:=h
 exact⟨r,0,h1,h2,Nat.zero_le _,h3,h4⟩
theorem zdY.n {H:Hp}{v:AV}{l:List Int}{lo:Nat} (h:zdY H v l lo):zey H v l lo:=h.imp id fun h=>h.b
theorem IntZ.keep {H H':Hp}{v:AV}{l:List Int}{lo:Nat} (h:IntZ H v l lo) (hn:H.next≤H'.next) (hg:∀ k,yp v k→H'.get k=H.get k):IntZ H' v l lo:=by
 obtain⟨r,rfl,h2,h4,h5⟩:=h
 exact⟨r,rfl,by rw[hg r ⟨_,rfl⟩];exact h2,h4,by omega⟩
theorem zdY.keep {H H':Hp}{v:AV}{l:List Int}{lo:Nat} (h:zdY H v l lo) (hn:H.next≤H'.next) (hg:∀ k,yp v k→H'.get k=H.get k):zdY H' v l lo:=h.imp id fun h=>h.keep hn hg
theorem zie {H:Hp}{v x:AV}{l m:List Int}{lo:Nat} (hv:zdY H v l lo) (hlo:lo≤H.next) (hx:yg H 1 x=some (m.length,m.map (.int .i64))) (hm:m≠[]) (hb:l.length+m.length < 2 ^ 40) :
 ∃ v' H',zV Try.prog false H 23 23 v x=some (v',H')∧IntZ H' v' (l++m) lo∧H'.next=H.next+1∧(∀ k,k < lo→H'.get k=H.get k)∧zfM v v' H H':=by
 obtain⟨n,hn⟩:∃ n,m.length=n+1:=⟨m.length - 1,by have:=List.length_pos_iff.2 hm;omega⟩
 have hmr:zU=70368744177664:=rfl
 rw[hn]at hx
 rcases hv with ⟨rfl,rfl⟩|⟨r,rfl,h2,h4,h5⟩
 ·refine⟨.sl H.next 0 (n+1) 1,H.alloc (.cells (m.map (.int .i64)) 0 true),append_nil Try.underlying23 sz3 bt3 zr3 (by kernel_rfl) hx (iOne m) rfl (by rw[hmr];omega) (by rw[hmr];omega),⟨H.next,by simp[hn],by rw[za,if_pos rfl];rfl,hlo,Nat.lt_succ_self _⟩,rfl,fun k hk=>by rw[za,if_neg (by omega)],fun k hk _=>by rw[za,if_neg (by omega)],fun k hk=>.inr ?_⟩
  obtain⟨n',e⟩:=hk
  simp only[AV.sl.injEq]at e
  omega
 ·have htr:zaf false H 1 (.sl r 0 l.length 1)=H:=by
   unfold zaf
   simp only[h2,Nat.zero_add,List.length_map,Nat.mul_one]
   have:Nat.blt l.length l.length=false:=by
    cases hb:Nat.blt l.length l.length with
    | false=>rfl
    | true=>rw[Nat.blt_eq]at hb;omega
   simp[this]
  refine⟨.sl H.next 0 (l.length+(n+1)) 1,(H.kill r).alloc (.cells (l.map (.int .i64)++m.map (.int .i64)) (0 - 0) true),?_,⟨H.next,by simp[hn],?_,hlo,Nat.lt_succ_self _⟩,rfl,fun k hk=>?_,fun k hk hno=>?_,fun k hk=>.inr ?_⟩
  ·simp only[zV,Try.underlying23,sz3,bt3,zr3,show jj Try.prog 23=true by kernel_rfl,hx,iOne,htr,and_self,if_true,List.length_cons,List.length_nil,yY,h2,List.length_map,Nat.zero_add,Nat.mul_one,List.drop_zero]
   rw[if_pos ⟨by rw[hmr];omega,by rw[hmr];omega,trivial,trivial,Nat.zero_le _⟩]
   simp
  ·show((H.kill r).alloc _).get (H.kill r).next=_
   rw[za,if_pos rfl];simp
  ·rw[za,if_neg (by simp only[z6];omega),zS,if_neg (by omega)]
  ·rw[za,if_neg (by simp only[z6];omega),zS,if_neg (fun e=>hno ⟨_,by rw[e]⟩)]
  ·obtain⟨n',e⟩:=hk
   simp only[AV.sl.injEq]at e
   omega
theorem zqC {H:Hp}{v:AV}{l:List Int}{lo r imm:Nat} (s:Int) (hv:zdY H v l lo) (hlo:lo≤H.next) (hs:H.get r=some (.cells [.int .i64 s] imm true)) (hb:l.length < 2 ^ 39) :
 ∃ v' H',zV Try.prog false H 23 23 v (.sl r 0 1 1)=some (v',H')∧IntZ H' v' (l++[s]) lo∧H'.next=H.next+1∧(∀ k,k < lo→H'.get k=H.get k)∧zfM v v' H H':=
 zie hv hlo (zci (m:=[s]) hs) (by simp) (by simp;omega)
theorem repB (n:Nat):rep [.bool false] n=(List.replicate n false).map .bool:=by
 induction n with
 | zero=>rfl
 | succ n ih=>simp only[rep,ih];simp[List.replicate_succ]
theorem makeB {H:Hp} (n:Nat) (hc:n < 2 ^ 40):jC Try.prog H 107 (.int .i64 n) (.int .i64 n)=some (.sl H.next 0 n 1,H.alloc (.cells ((List.replicate n false).map .bool) 0 true)):=by
 have hm:zU=70368744177664:=rfl
 show jC Try.prog H 107 (.int .i64 (Int.ofNat n)) (.int .i64 (Int.ofNat n))=_
 simp only[jC,Try.underlying107,sz4,bt4,zr4]
 rw[if_pos ⟨Nat.le_refl _,by rw[hm];omega,by rw[hm];omega,rfl⟩,repB]
theorem splice_one (cs:List AV) {o:Nat} (ho:o < cs.length) (x:AV):splice cs o [x]=cs.set o x:=by
 rw[zjf,List.set_eq_take_append_cons_drop,if_pos ho];simp
theorem zka {H:Hp}{r o:Nat}{cs:List AV} (hg:H.get r=some (.cells cs 0 true)) (ho:o < cs.length) (n:Int):zbs Try.prog H 3 (.ptr r o) (.int .i64 n)=some (H.set r (.cells (cs.set o (.int .i64 n)) 0 true)):=by
 rw[zh4,hg,sz3,zdk,cells_int,splice_one cs ho,if_pos ⟨rfl,Nat.zero_le _,ho,rfl⟩]
theorem zqD {H:Hp}{r o:Nat}{cs:List AV} (hg:H.get r=some (.cells cs 0 true)) (ho:o < cs.length) (b:Bool):zbs Try.prog H 4 (.ptr r o) (.bool b)=some (H.set r (.cells (cs.set o (.bool b)) 0 true)):=by
 rw[zh4,hg,sz4,zdk,zh5,splice_one cs ho,if_pos ⟨rfl,Nat.zero_le _,ho,rfl⟩]
theorem zjj (H:Hp) (n:Nat):∀ l:List Int,iceL (iceV H (n+1)) (l.map (.int .i64))=some (l.map (.int .i64))
 | []=>rfl
 | a::l=>by
   have:=zjj H n l
   have e:iceV H (n+1) (.int .i64 a)=some (.int .i64 a):=rfl
   simp only[List.map_cons,iceL,e,this]
theorem zcZ.iceV {H:Hp}{v:AV}{l:List Int}{lo:Nat} (h:zcZ H v l lo) (n:Nat):iceV H (n+2) v=some (zco l):=by
 obtain⟨r,imm,rfl,h2,_⟩:=h
 have e:Ab.iceV H (n+2) (.sl r 0 l.length 1)=match H.get r with
  | some (.cells cs _ _)=>match iceL (Ab.iceV H (n+1)) ((cs.drop 0).take (l.length * 1))with
    | some l'=>if l'.length=l.length * 1 then some (.lst (zao 1 l.length l'))else none
    | none=>none
  | _=>none:=rfl
 rw[e,h2]
 simp only[List.drop_zero,Nat.mul_one]
 rw[List.take_of_length_le (by simp),zjj]
 simp only[List.length_map,if_true,zid]
def zgr (H:Hp) (v:AV) (l:List Int) (lo:Nat):Prop:=∃ r imm,v=.sl r 0 l.length 1∧H.get r=some (.cells (l.map (.int .u8)) imm true)∧imm≤l.length∧lo≤r∧r < H.next
def BytN (H:Hp) (v:AV) (l:List Int) (lo:Nat):Prop:=(v=.nilS∧l=[])∨zgr H v l lo
theorem zgr.low {H H':Hp}{v:AV}{l:List Int}{lo:Nat} (h:zgr H v l lo) (hn:H.next≤H'.next) (hg:∀ k,lo≤k→k < H.next→H'.get k=H.get k):zgr H' v l lo:=by
 obtain⟨r,imm,h1,h2,h3,h4,h5⟩:=h
 exact⟨r,imm,h1,by rw[hg r h4 h5];exact h2,h3,h4,by omega⟩
theorem zgr.lt {H:Hp}{v:AV}{l:List Int}{lo:Nat} (h:zgr H v l lo) {k:Nat} (hk:yp v k):lo≤k∧k < H.next:=by
 obtain⟨r,imm,rfl,_,_,h4,h5⟩:=h
 obtain⟨n,e⟩:=hk
 simp only[AV.sl.injEq]at e
 rw[← e.1];exact⟨h4,h5⟩
theorem zgr.keep {H H':Hp}{v:AV}{l:List Int}{lo:Nat} (h:zgr H v l lo) (hn:H.next≤H'.next) (hg:∀ k,yp v k→H'.get k=H.get k):zgr H' v l lo:=by
 obtain⟨r,imm,rfl,h2,h3,h4,h5⟩:=h
 exact⟨r,imm,rfl,by rw[hg r ⟨_,rfl⟩];exact h2,h3,h4,by omega⟩
theorem bOne (l:List Int):(l.map (AV.int .u8)).all AV.one=true:=by simp[AV.one]
theorem zqE {H:Hp}{r imm:Nat}{m:List Int} (h:H.get r=some (.cells (m.map (.int .u8)) imm true)):yg H 1 (.sl r 0 m.length 1)=some (m.length,m.map (.int .u8)):=by
 have:=zdm (H:=H) (r:=r) (o:=0) (n:=m.length) (z:=1) (s:=1) h (by simp)
 rw[this,List.drop_zero,List.take_of_length_le (by simp)]
theorem zqF {H:Hp}{v x:AV}{l m:List Int}{lo:Nat} (hv:BytN H v l lo) (hlo:lo≤H.next) (hx:yg H 1 x=some (m.length,m.map (.int .u8))) (hm:m≠[]) (hb:l.length+m.length < 2 ^ 40) :
 ∃ v' H',zV Try.prog false H 61 61 v x=some (v',H')∧zgr H' v' (l++m) lo∧H'.next=H.next+1∧(∀ k,k < lo→H'.get k=H.get k)∧zfM v v' H H':=by
 obtain⟨n,hn⟩:∃ n,m.length=n+1:=⟨m.length - 1,by have:=List.length_pos_iff.2 hm;omega⟩
 have hmr:zU=70368744177664:=rfl
 rw[hn]at hx
 rcases hv with ⟨rfl,rfl⟩|⟨r,imm,rfl,h2,h3,h4,h5⟩
 ·refine⟨.sl H.next 0 (n+1) 1,H.alloc (.cells (m.map (.int .u8)) 0 true),append_nil Try.underlying61 sz5 bt5 zr5 (by kernel_rfl) hx (bOne m) rfl (by rw[hmr];omega) (by rw[hmr];omega),⟨H.next,0,by simp[hn],by rw[za,if_pos rfl];rfl,by omega,hlo,Nat.lt_succ_self _⟩,rfl,fun k hk=>by rw[za,if_neg (by omega)],fun k hk _=>by rw[za,if_neg (by omega)],fun k hk=>.inr ?_⟩
  obtain⟨n',e⟩:=hk
  simp only[AV.sl.injEq]at e
  omega
 ·have htr:zaf false H 1 (.sl r 0 l.length 1)=H:=by
   unfold zaf
   simp only[h2,Nat.zero_add,List.length_map,Nat.mul_one]
   have:Nat.blt l.length l.length=false:=by
    cases hb:Nat.blt l.length l.length with
    | false=>rfl
    | true=>rw[Nat.blt_eq]at hb;omega
   simp[this]
  refine⟨.sl H.next 0 (l.length+(n+1)) 1,(H.kill r).alloc (.cells (l.map (.int .u8)++m.map (.int .u8)) (imm - 0) true),?_,⟨H.next,imm,by simp[hn],?_,by simp;omega,hlo,Nat.lt_succ_self _⟩,rfl,fun k hk=>?_,fun k hk hno=>?_,fun k hk=>.inr ?_⟩
  ·simp only[zV,Try.underlying61,sz5,bt5,zr5,show jj Try.prog 61=true by kernel_rfl,hx,bOne,htr,and_self,if_true,List.length_cons,List.length_nil,yY,h2,List.length_map,Nat.zero_add,Nat.mul_one,List.drop_zero]
   rw[if_pos ⟨by rw[hmr];omega,by rw[hmr];omega,trivial,trivial,h3⟩]
   simp
  ·show((H.kill r).alloc _).get (H.kill r).next=_
   rw[za,if_pos rfl];simp
  ·rw[za,if_neg (by simp only[z6];omega),zS,if_neg (by omega)]
  ·rw[za,if_neg (by simp only[z6];omega),zS,if_neg (fun e=>hno ⟨_,by rw[e]⟩)]
  ·obtain⟨n',e⟩:=hk
   simp only[AV.sl.injEq]at e
   omega
theorem zqG {H:Hp}{v:AV}{l:List Int}{lo r imm:Nat} (s:Int) (hv:BytN H v l lo) (hlo:lo≤H.next) (hs:H.get r=some (.cells [.int .u8 s] imm true)) (hb:l.length < 2 ^ 39) :
 ∃ v' H',zV Try.prog false H 61 61 v (.sl r 0 1 1)=some (v',H')∧zgr H' v' (l++[s]) lo∧H'.next=H.next+1∧(∀ k,k < lo→H'.get k=H.get k)∧zfM v v' H H':=
 zqF hv hlo (zqE (m:=[s]) hs) (by simp) (by simp;omega)
theorem bu1 (H:Hp) (n:Int):zB Try.prog H 61 1 [(0,.int .u8 n)]=some (.sl H.next 0 1 1,H.alloc (.cells [.int .u8 n] 0 true)):=by kernel_rfl
theorem bin_shr {D:BinOp→Sx→Sx→Option Bool}{t:TypeId}{k k':IntKind}{a:Int}{m:Nat} (h:m < 64) (hk:k=.u64):jB Try.prog D .shr t (.int k a) (.int k' (m:Int))=some (.int k (a.fdiv (2 ^ m))):=by
 subst hk
 have e:jB Try.prog D .shr t (.int .u64 a) (.int k' (Int.ofNat m))=some (.int .u64 (a.fdiv (2 ^ min m 64))):=rfl
 rw[show min m 64=m by omega]at e
 exact e
def zcj (n:Int) (i:Nat):Int:=IntKind.wrap .u8 (n.fdiv (2 ^ (8 * i)))
def jU (n:Int) (i:Nat):List Int:=(List.range i).map (zcj n)
theorem zac (n:Int) (i:Nat):(jU n i).length=i:=by simp[jU]
theorem zlB (n:Int) (i:Nat):jU n (i+1)=jU n i++[zcj n i]:=by simp[jU,List.range_succ]
def zlC (l:List Int):List UInt8:=l.map fun n=>UInt8.ofNat n.toNat
end Go.Proofs.Ytpbcimfiofmoeaa
namespace Go.Ab
set_option maxRecDepth 20000
open Go
instance:DecidableEq Nd:=fun x y=>decidable_of_iff (x.op=y.op∧x.imm=y.imm∧x.kids=y.kids) (by cases x;cases y;simp)
def arI (op:Int):Int×Bool:=
 if op=1∨op=2∨op=3∨op=26 then (0,true)
 else if op=20∨op=21∨op=24∨op=25 then (1,true)
 else if op=23∨op=27∨op=29 then (2,true)
 else if op=22∨op=28 then (3,true)
 else if op=30∨op=31 then (-1,true)
 else if 4≤op∧op≤19 then (2,true)
 else (0,false)
def lvI (n:Int):Int:=(n - 1).tdiv 2
def zgs (l:List Nd) (k:Int):Int:=match l[k.toNat]? with
 | some n=>n.kids.length
 | none=>0
def za5 (l:List Nd) (n:Nd):Int:=
 if n.op=2 then 5 else if n.op=3 then 255 else if n.op=23∨n.op=28 then 3 else if n.op=30 then 7 else if n.op=31 then 15
 else if n.op=25 then lvI (zgs l (n.kids.headD 0)) - 1 else 0
def zaz (l:List Nd) (n:Nd):Bool:=
 if n.op=1 then true
 else if n.op=27 then decide (1≤n.imm)&&decide (n.imm≤1000016)
 else decide (0≤n.imm)&&decide (n.imm≤za5 l n)
def zbJ (op:Int):List Int:=
 if op=22 then [1,1,1]else if op=23∨op=27∨op=29 then [2,1]else if op=28 then [2,1,1]else if op=24 then [2]else if op=25 then [3]else [1,1]
def yz:List Int→List Int→Bool
 | [],_=>true
 | a::s,w=>decide (a=w.headD 0)&&yz s w.tail
def zbK (n:Nat):List Int:=((List.replicate n (1:Int)).set 0 2).set (lvI n+1).toNat 2
def yo (op:Int) (s:List Int):Bool:=
 if (arI op).2=false then false
 else if 0≤(arI op).1∧(arI op).1≠s.length then false
 else if op=31 then decide (3≤s.length)&&decide (s.length % 2=1)&&decide (lvI s.length≤16)&&yz s (zbK s.length)
 else if op=30 then decide (1≤s.length)&&decide (s.length≤7)&&decide (s.headD 0=2)&&s.tail.all fun x=>decide (x=1)
 else if op=22∧s.getD 1 0=2 then decide (s.headD 0=1)&&decide (s.getD 2 0=2)
 else yz s (zbJ op)
def zbL (i:Nat) (known:List Int):List Int→Option (List Int)
 | []=>some []
 | k::ks=>if k < 0∨(i:Int)≤k∨known.getD k.toNat 0=0 then none else (zbL i known ks).map fun s=>known.getD k.toNat 0::s
def zdG (n:Nd) (s:List Int):Int:=
 if n.op=31 then 3
 else if n.op=26∨n.op=27∨n.op=28∨n.op=29∨n.op=30 then 2
 else if n.op=22 then s.getD 1 0
 else if n.op=3∧n.imm.tmod 16=0 then 2
 else if n.op=25∧n.imm=0 then 2
 else 1
def zeK (l:List Nd) (i:Nat) (known:List Int):Int:=match l[i]? with
 | none=>0
 | some n=>match zbL i known n.kids with
   | none=>0
   | some s=>if yo n.op s&&zaz l n then zdG n s else 0
def jO (l:List Nd):Nat→List Int
 | 0=>[]
 | i+1=>jO l i++[zeK l i (jO l i)]
def zbg (l:List Nd) (i:Int):Int:=if i < 0∨(l.length:Int)≤i then 0 else (jO (l.take (i.toNat+1)) (i.toNat+1)).getD i.toNat 0
theorem zdo (l:List Nd):∀ i,(jO l i).length=i
 | 0=>rfl
 | i+1=>by rw[jO,List.length_append,zdo l i];rfl
theorem ze4 (l:List Nd):∀ {i j:Nat},j < i→(jO l i).getD j 0=zeK l j (jO l j)
 | 0,j,h=>by omega
 | i+1,j,h=>by
   rw[jO]
   by_cases e:j < i
   ·rw[List.getD_eq_getElem?_getD,List.getElem?_append_left (by rw[zdo];exact e),← List.getD_eq_getElem?_getD]
    exact ze4 l e
   ·obtain rfl:j=i:=by omega
    rw[List.getD_eq_getElem?_getD,List.getElem?_append_right (by rw[zdo];omega),zdo,Nat.sub_self];rfl
theorem zen {i:Nat}{known:List Int}:∀ {ks s:List Int},zbL i known ks=some s→∀ k∈ks,0≤k∧k < i∧known.getD k.toNat 0≠0
 | [],s,_,k,h=>by simp at h
 | a::ks,s,h,k,hk=>by
   rw[zbL]at h
   split at h
   ·cases h
   ·rename_i c
    obtain⟨t,ht,_⟩:=Option.map_eq_some_iff.1 h
    rcases List.mem_cons.1 hk with rfl|hk
    ·omega
    ·exact zen ht k hk
theorem zgt {i:Nat}{known:List Int}:∀ {ks s:List Int},zbL i known ks=some s→s.length=ks.length
 | [],s,h=>by cases h;rfl
 | a::ks,s,h=>by
   rw[zbL]at h
   split at h
   ·cases h
   ·obtain⟨t,ht,rfl⟩:=Option.map_eq_some_iff.1 h
    rw[List.length_cons,List.length_cons,zgt ht]
theorem zmV {l:List Nd}{i:Nat}{known:List Int}{n:Nd} (hn:l[i]?=some n) (h:zeK l i known≠0):∃ s,zbL i known n.kids=some s∧yo n.op s=true∧zaz l n=true:=by
 unfold zeK at h
 rw[hn]at h
 simp only at h
 split at h
 ·exact absurd rfl h
 ·rename_i s hs
  split at h
  ·rename_i c
   rw[Bool.and_eq_true]at c
   exact⟨s,hs,c.1,c.2⟩
  ·exact absurd rfl h
theorem zjk {l:List Nd}{m:Nat}{n:Nd} (h:n.op=25→∃ k ks,n.kids=k::ks∧k.toNat < m):zaz (l.take m) n=zaz l n:=by
 have e:za5 (l.take m) n=za5 l n:=by
  unfold za5
  by_cases c:n.op=25
  ·obtain⟨k,ks,h1,h2⟩:=h c
   rw[c]
   simp only[h1,List.headD_cons,zgs,List.getElem?_take,h2,if_true]
  ·simp only[c,if_false]
 unfold zaz
 rw[e]
theorem zmW {l:List Nd}{i m:Nat} (hm:i < m) (known:List Int):zeK (l.take m) i known=zeK l i known:=by
 unfold zeK
 rw[List.getElem?_take,if_pos hm]
 cases hn:l[i]? with
 | none=>rfl
 | some n=>
   simp only
   cases hk:zbL i known n.kids with
   | none=>rfl
   | some s=>
     simp only
     by_cases c:yo n.op s=true
     ·have e:zaz (l.take m) n=zaz l n:=zjk fun h25=>by
       have hl:=zgt hk
       have h1:s.length=1:=by
        have c2:=c
        unfold yo at c2
        rw[h25]at c2
        have:arI 25=(1,true):=by decide
        rw[this]at c2
        simp only at c2
        split at c2
        ·cases c2
        ·split at c2
         ·cases c2
         ·omega
       cases hq:n.kids with
       | nil=>rw[hq,h1]at hl;simp at hl
       | cons k ks=>
         refine⟨k,ks,rfl,?_⟩
         have:=zen hk k (by rw[hq];exact List.mem_cons_self)
         omega
      rw[e]
     ·have c':yo n.op s=false:=by simpa using c
      rw[c',Bool.false_and,Bool.false_and]
theorem zdZ {l:List Nd}{m:Nat}:∀ {i:Nat},i≤m→jO (l.take m) i=jO l i
 | 0,_=>rfl
 | i+1,h=>by rw[jO,jO,zdZ (by omega:i≤m),zmW (by omega)]
theorem zfP {l:List Nd}{i:Nat} (h:i < l.length):zbg l i=zeK l i (jO l i):=by
 unfold zbg
 rw[if_neg (by omega),Int.toNat_natCast,zdZ (Nat.le_refl _),ze4 l (Nat.lt_succ_self i)]
theorem zgu {l:List Nd}{i j:Nat} (hj:j < i) (hi:i≤l.length):(jO l i).getD j 0=zbg l j:=by
 rw[ze4 l hj,zfP (by omega)]
theorem zjl {l m:List Nd}{i:Nat} (h:i < l.length):zbg (l++m) i=zbg l i:=by
 unfold zbg
 rw[if_neg (by simp;omega),if_neg (by omega),Int.toNat_natCast,List.take_append_of_le_length (by omega)]
def zmX (k:List Int):Bool:=k.all fun x=>decide (x=1)
theorem ze5:∀ (s w:List Int),s.length≤w.length→(∀ x∈w,x=1)→yz s w=zmX s
 | [],w,_,_=>by simp[yz,zmX]
 | a::s,[],h,_=>by simp at h
 | a::s,b::w,h,hw=>by
   have hb:=hw b List.mem_cons_self
   subst hb
   rw[yz,List.headD_cons,List.tail_cons,ze5 s w (by simpa using h) (fun x hx=>hw x (List.mem_cons_of_mem _ hx))]
   simp[zmX]
theorem zdp (a b:Int) (s w:List Int):yz (a::s) (b::w)=(decide (a=b)&&yz s w):=rfl
theorem zi3 (n m:Nat) (h:m < n):(List.replicate n (1:Int)).set m 2=List.replicate m 1++2::List.replicate (n - m - 1) 1:=by
 apply List.ext_getElem?
 intro i
 rw[List.getElem?_set,List.getElem?_append]
 simp only[List.length_replicate]
 by_cases c:i < m
 ·rw[if_neg (by omega),if_pos c,List.getElem?_replicate,List.getElem?_replicate,if_pos (by omega),if_pos c]
 ·rw[if_neg c]
  by_cases e:m=i
  ·subst e;simp[h]
  ·rw[if_neg e]
   obtain⟨j,rfl⟩:∃ j,i=m+1+j:=⟨i - m - 1,by omega⟩
   rw[show m+1+j - m=j+1 by omega,List.getElem?_cons_succ,List.getElem?_replicate,List.getElem?_replicate]
   by_cases g:m+1+j < n
   ·rw[if_pos g,if_pos (by omega)]
   ·rw[if_neg g,if_neg (by omega)]
theorem zjm:∀ (a s w v:List Int),a.length=w.length→yz (a++s) (w++v)=(yz a w&&yz s v)
 | [],s,[],v,_=>by simp[yz]
 | x::a,s,y::w,v,h=>by
   rw[List.cons_append,List.cons_append,zdp,zdp,zjm a s w v (by simpa using h),Bool.and_assoc]
 | [],_,_::_,_,h=>by simp at h
 | _::_,_,[],_,h=>by simp at h
theorem zif (n:Nat) (h:1≤n):lvI n=((n - 1) / 2:Nat):=by
 unfold lvI
 rw[show(n:Int) - 1=((n - 1:Nat):Int) by omega];rfl
theorem zmY (s:List Int) (h:3≤s.length) (ho:s.length % 2=1):yz s (zbK s.length)=(decide (s.headD 0=2)&&zmX ((s.drop 1).take (s.length / 2))&&decide (s.getD (s.length / 2+1) 0=2)&&zmX (s.drop (s.length / 2+2))):=by
 obtain⟨m,hm⟩:∃ m,s.length=2 * m+1:=⟨s.length / 2,by omega⟩
 have hm1:1≤m:=by omega
 have e1:s.length / 2=m:=by omega
 have e2:(lvI s.length+1).toNat=m+1:=by rw[zif _ (by omega)];omega
 have hl:zbK s.length=2::(List.replicate m 1++2::List.replicate (m - 1) 1):=by
  unfold zbK
  rw[e2,hm]
  have e3:List.replicate (2 * m+1) (1:Int)=1::List.replicate (2 * m) 1:=rfl
  rw[e3,List.set_cons_zero,List.set_cons_succ,zi3 _ _ (by omega)]
  congr 4;omega
 rw[hl,e1]
 match s,hm with
 | a::t,hm=>
   have ht:t.length=2 * m:=by simpa using hm
   rw[zdp,List.headD_cons,List.drop_succ_cons,List.drop_zero]
   have hd:t=t.take m++t.drop m:=(List.take_append_drop m t).symm
   have htk:(t.take m).length=m:=by rw[List.length_take];omega
   conv=>lhs;rw[hd]
   rw[zjm _ _ _ _ (by rw[htk];simp),ze5 (t.take m) _ (by rw[htk];simp) (fun x hx=>List.eq_of_mem_replicate hx)]
   have hg:(a::t).getD (m+1) 0=t.getD m 0:=rfl
   have hdr:(a::t).drop (m+2)=t.drop (m+1):=rfl
   rw[hg,hdr]
   have hdd:t.drop m=t.getD m 0::t.drop (m+1):=by
    rw[List.drop_eq_getElem_cons (by omega),List.getD_eq_getElem?_getD,List.getElem?_eq_getElem (by omega)];rfl
   rw[hdd,zdp,ze5 (t.drop (m+1)) _ (by simp;omega) (fun x hx=>List.eq_of_mem_replicate hx),Bool.and_assoc,Bool.and_assoc]
theorem len3 {α:Type}{s:List α} (h:s.length=3):∃ a b c,s=[a,b,c]:=by
 match s,h with
 | [a,b,c],_=>exact⟨a,b,c,rfl⟩
end Go.Ab
namespace Go.Proofs.Ytpbcimfiofmoeaa
set_option maxRecDepth 20000
set_option maxRecDepth 20000
open Go Go.Ab
namespace tyR3b
def tyF:=And.intro @tq3 (And.intro @tq9 (And.intro @zbb (And.intro @zbc (And.intro @zay (And.intro @zbx (@tq2))))))
end tyR3b
open tyR3b
mutual
def zau:Ex→Nat
 | .mk _ _ _ _ ks=>zc0 ks
def zc0:List Ex→Nat
 | []=>0
 | e::es=>max (1+zau e) (zc0 es)
end
def exE (x:Ex):List AV:=[.agg x.cells]
theorem zuH (x y:Ex) (h:exE x=exE y):x=y:=by simp only[exE,List.cons.injEq,AV.agg.injEq,and_true]at h;exact Ex.inj h
mutual
def n1:St→Nat
 | .mk _ _ _ _ _ _ _ th el=>1+nS th+nS el
def nS:List St→Nat
 | []=>0
 | x::l=>n1 x+nS l
end
mutual
def w1:St→Nat
 | .mk k _ _ _ _ _ _ th el=>(if k=4 then 1 else 0)+wS th+wS el
def wS:List St→Nat
 | []=>0
 | x::l=>w1 x+wS l
end
mutual
def m1:St→Nat→Nat
 | .mk _ _ _ _ _ _ _ th el,d=>max d (max (mS th (d+1)) (mS el (d+1)))
def mS:List St→Nat→Nat
 | [],_=>0
 | x::l,d=>max (m1 x d) (mS l d)
end
theorem w1_eq (x:St):w1 x=(if x.kind=4 then 1 else 0)+wS x.thn+wS x.els:=by cases x;rw[w1];rfl
theorem zav {z:Int} (h1:-9223372036854775808≤z) (h2:z < 9223372036854775808):IntKind.wrap .i64 z=z:=IntWalk.i64_in _ (by omega)
theorem tup3_0 (a b c:AV):Ab.extract (.tup [a,b,c]) 0=some a:=rfl
theorem tup3_1 (a b c:AV):Ab.extract (.tup [a,b,c]) 1=some b:=rfl
theorem tup3_2 (a b c:AV):Ab.extract (.tup [a,b,c]) 2=some c:=rfl
end Go.Proofs.Ytpbcimfiofmoeaa
namespace Go.Proofs.Ytpbcimfiofmoeaa
set_option maxRecDepth 20000
set_option maxRecDepth 20000
open Go Go.Ab
namespace tyI1
def tyF:=And.intro @tq3 (And.intro @zcf (@zfC))
end tyI1
open tyI1
noncomputable def code24:{ c:SC // slim 31 (Try.f24.body.getD .skip)=c }:=by
 refine⟨?_,?_⟩
 rotate_left
 ·simp only[Try.f24,Option.getD_some,slim,zT,zR,zY,zZ,Nat.blt,Nat.ble]
  rfl
noncomputable def code87:{ c:SC // slim 6 (Try.f87.body.getD .skip)=c }:=by
 refine⟨?_,?_⟩
 rotate_left
 ·simp only[Try.f87,Option.getD_some,slim,zT,zR,zY,zZ,Nat.blt,Nat.ble]
  rfl
noncomputable def zuI:{ c:SC // slim 22 (Try.f110.body.getD .skip)=c }:=by
 refine⟨?_,?_⟩
 rotate_left
 ·simp only[Try.f110,Option.getD_some,slim,zT,zR,zY,zZ,Nat.blt,Nat.ble]
  rfl
noncomputable def zuJ:{ c:SC // slim 21 (Try.f108.body.getD .skip)=c }:=by
 refine⟨?_,?_⟩
 rotate_left
 ·simp only[Try.f108,Option.getD_some,slim,zT,zR,zY,zZ,Nat.blt,Nat.ble]
  rfl
noncomputable def zuK:{ c:SC // slim 21 (Try.f109.body.getD .skip)=c }:=by
 refine⟨?_,?_⟩
 rotate_left
 ·simp only[Try.f109,Option.getD_some,slim,zT,zR,zY,zZ,Nat.blt,Nat.ble]
  rfl
def arV (op:Int):AV:=.tup [.int .i64 (arI op).1,.bool (arI op).2]
theorem zqH (op:Int):zar (arV op):=.tup (.cons (.int _ _) (.cons (.bool _) .nil))
theorem zmZ (ρ:Nat→Int) (op:Int):Con Try.prog ρ 24 [.int .i64 op] (arV op):=yO fit (pls:=pls) (l:=[]) trivial (.cons (.int _ _) .nil) (zqH op) (by
 have hw:=ju 24
 refine zi (M:=31) (rs:=[.tmp 2,.tmp 3]) (hw.call _) hw.ice hw.froz Try.func24 rfl rfl code24.2 rfl ?_;dsimp only[code24,zH,Nat.reduceAdd]
 repeat' (first
  | (apply Rx.nl ?_;clear hK K)|apply Rx.o ?_|(apply Rx.gd (fun hg hgp=>?_) (fun hg hgp=>?_)<;>try (cases hg;done))|(apply Rx.cd (fun hb hbp=>?_) (fun hb hbp=>?_)<;>try (cases hb;done))|apply Wp.seq ?_|(apply zd fun K hK=>?_)|apply Wp.block ?_|apply zh ?_|apply Rx.rt ?_)
 all_goals
  refine⟨eI,_,eRW,?_⟩;try simp only[zp]
  first
  | (simp_all[arV,arI];done)
  | (unfold arV arI;rw[if_neg (by omega),if_neg (by omega),if_neg (by omega),if_neg (by omega),if_neg (by omega),if_neg (by omega)];done))
theorem zm0 (n:Nat):(0:Int)≤lvI n∧lvI n≤n:=by
 by_cases h:n=0
 ·subst h;decide
 ·rw[zif n (by omega)];omega
theorem lv_con (ρ:Nat→Int) (n:Nat) (hn:n < 2 ^ 60):Con Try.prog ρ 87 [.int .i64 n] (.int .i64 (lvI n)):=yO fit (pls:=pls) (l:=[]) trivial (.cons (.int _ _) .nil) (.int _ _) (by
 have hw:=ju 87
 have hq:(2:Int)≠0:=by decide
 have e1:IntKind.wrap .i64 ((n:Int) - 1)=(n:Int) - 1:=zav (by omega) (by omega)
 refine zi (M:=6) (rs:=[.tmp 2]) (hw.call _) hw.ice hw.froz Try.func87 rfl rfl code87.2 rfl ?_;dsimp only[code87,zH,Nat.reduceAdd]
 repeat' (first
  | (apply Rx.nl ?_;clear hK K)|apply Rx.o ?_|apply Wp.seq ?_|(apply zd fun K hK=>?_)|apply Rx.rt ?_)
 all_goals (refine⟨eI,_,eR,?_⟩;try simp only[zp])
 rw[lvI]
 rw[zav (by have:=(zm0 n).1;unfold lvI at this;omega) (by have:=(zm0 n).2;unfold lvI at this;omega)])
theorem bn3 (H:Hp) (a b c:Int):zB Try.prog H 23 3 [(0,.int .i64 a),(1,.int .i64 b),(2,.int .i64 c)]=some (.sl H.next 0 3 1,H.alloc (.cells [.int .i64 a,.int .i64 b,.int .i64 c] 0 true)):=by kernel_rfl
theorem bn2 (H:Hp) (a b:Int):zB Try.prog H 23 2 [(0,.int .i64 a),(1,.int .i64 b)]=some (.sl H.next 0 2 1,H.alloc (.cells [.int .i64 a,.int .i64 b] 0 true)):=by kernel_rfl
theorem bn1 (H:Hp) (a:Int):zB Try.prog H 23 1 [(0,.int .i64 a)]=some (.sl H.next 0 1 1,H.alloc (.cells [.int .i64 a] 0 true)):=by kernel_rfl
theorem zuL (ρ:Nat→Int) (op:Int):Con Try.prog ρ 110 [.int .i64 op] (zco (zbJ op)):=zbI (m:=3) (cfg:=zJ pls []) fit (zgX ρ) (fun f args r h=>by simp[zJ,yJ]at h) (.cons (.int _ _) .nil) (by
 have hw:=ju 110
 refine zi (M:=22) (rs:=[.tmp 2]) (hw.call _) hw.ice hw.froz Try.func110 rfl rfl zuI.2 rfl ?_;dsimp only[zuI,zH,Nat.reduceAdd]
 have gh0:=@bn3
 have gh1:=@bn2
 have gh2:=@bn1
 repeat' (first
  | (apply Rx.nl ?_;clear hK K)|apply Rx.o ?_|(apply Rx.cd (fun hb hbp=>?_) (fun hb hbp=>?_)<;>try (cases hb;done))|apply Wp.seq ?_|(apply zd fun K hK=>?_)|apply Wp.block ?_|apply zh ?_|apply Rx.rt ?_)
 all_goals
  all_goals (refine⟨eI,_,eR,?_⟩;try simp only[zp])
  simp_all[zbJ]
  rfl)
theorem zlD (s w:List Int) (i:Nat) (hi:i < s.length) (hl:s.length≤w.length):yz (s.drop i) (w.drop i)=(decide (s.getD i 0=w.getD i 0)&&yz (s.drop (i+1)) (w.drop (i+1))):=by
 rw[List.drop_eq_getElem_cons hi,List.drop_eq_getElem_cons (l:=w) (by omega),yz]
 simp[List.getD_eq_getElem?_getD,List.getElem?_eq_getElem hi,List.getElem?_eq_getElem (show i < w.length by omega)]
def mtE (x:List Int×List Int):List AV:=[zco x.1,zco x.2]
theorem zlE {a b:List Int} (h:zco a=zco b):a=b:=by
 simp only[zco,AV.lst.injEq]at h;exact zji h
theorem zuM (x y:List Int×List Int) (h:mtE x=mtE y):x=y:=by
 simp only[mtE,List.cons.injEq,and_true]at h
 exact Prod.ext (zlE h.1) (zlE h.2)
theorem zo2 (ρ:Nat→Int) (x:List Int×List Int) (hx:x.1.length≤x.2.length∧x.2.length < 2 ^ 60):Con Try.prog ρ 108 (mtE x) (.bool (yz x.1 x.2)):=yO fit (pls:=pls) (l:=[]) trivial (.cons (zel _) (.cons (zel _) .nil)) (.bool _) (by
 obtain⟨s,w⟩:=x
 obtain⟨hl,hb⟩:=hx
 simp only[]at hl hb
 have hw:=ju 108
 rw[mtE]
 simp only[]
 refine zi (M:=21) (rs:=[.tmp 4]) (hw.call _) hw.ice hw.froz Try.func108 rfl rfl zuJ.2 rfl ?_;dsimp only[zuJ,zH,Nat.reduceAdd]
 repeat' (first
  | (apply Rx.nl ?_;clear hK K)|apply Rx.o ?_|(apply Rx.cd (fun hb hbp=>?_) (fun hb hbp=>?_)<;>try (cases hb;done))|apply Wp.seq ?_|(apply zd fun K hK=>?_)|(apply zf 4 [(3,9),(7,9)] fun K hK=>?_)|(apply zr ?_;try intro _)|(apply zt ?_ ?_<;>clear hK K)|apply WpT.step ?_|apply Wp.block ?_|apply zh ?_|apply Rx.rt ?_|apply zj ?_)
 refine yj [0,1] [] 5 s.length (fun i E H=>yz s w=yz (s.drop i) (w.drop i)) eE (by simp) ?_
 rintro i E H2 hi hcE hrH hnH hsI hJ
 (try simp only[zk,zl,and_true,sB,sO,Nat.reduceBEq,Nat.reduceAdd,Nat.reduceLeDiff,tyF, *]at hcE)
 (try simp only[zk,zl,and_true,sB,sO,Nat.reduceBEq,Nat.reduceAdd,Nat.reduceLeDiff,tyF, *]at hrH)
 (try simp only[zb,ze,zM,Nat.zero_add,Nat.reduceAdd]at hnH)
 repeat' (first
  | (apply Rx.nl ?_;clear hK K)|apply Rx.o ?_|(apply Rx.cd (fun hb hbp=>?_) (fun hb hbp=>?_)<;>try (cases hb;done))|apply Wp.seq ?_|(apply zd fun K hK=>?_)|(apply zf 4 [(3,9),(7,9)] fun K hK=>?_)|(apply zr ?_;try intro _)|(apply zt ?_ ?_<;>clear hK K)|apply WpT.step ?_|apply Wp.block ?_|apply zh ?_|apply Rx.rt ?_|apply zj ?_)
 ·have hlt:i < s.length:=by simpa using hb
  have hgx:s[i]?=some s[i]:=List.getElem?_eq_getElem hlt
  have hgy:w[i]?=some w[i]:=List.getElem?_eq_getElem (by omega)
  have hdr:=zlD s w i hlt hl
  repeat' (first
   | (apply Rx.nl ?_;clear hK K)|apply Rx.o ?_|(apply Rx.cd (fun hb hbp=>?_) (fun hb hbp=>?_)<;>try (cases hb;done))|apply Wp.seq ?_|(apply zd fun K hK=>?_)|(apply zf 4 [(3,9),(7,9)] fun K hK=>?_)|(apply zr ?_;try intro _)|(apply zt ?_ ?_<;>clear hK K)|apply WpT.step ?_|apply Wp.block ?_|apply zh ?_|apply Rx.rt ?_|apply zj ?_)
  ·exact eK
  ·all_goals (refine⟨eI,_,eR,?_⟩;try simp only[zp])
   rw[hJ,hdr,List.getD_eq_getElem?_getD,List.getD_eq_getElem?_getD,hgx,hgy]
   simp_all
  ·refine⟨by omega,eL,eL,eN,(by simp only[sB,Nat.reduceBEq, *];exact z7 (n:=s.length) (by omega) (by omega)),?_⟩
   rw[hJ,hdr,List.getD_eq_getElem?_getD,List.getD_eq_getElem?_getD,hgx,hgy]
   simp_all
 ·all_goals (refine⟨eI,_,eR,?_⟩;try simp only[zp])
  rw[hJ,show i=s.length by simp at hb;omega,List.drop_length];rfl)
noncomputable def enAr:En:=⟨24,false,spP (fun _=>True) (fun n:Int=>[.int .i64 n]) arV⟩
theorem zuN (ρ:Nat→Int):zaF Try.prog ρ enAr:=yW fun n _=>zmZ ρ n
theorem znZ (x y:Int) (h:([.int .i64 x]:List AV)=[.int .i64 y]):x=y:=by simpa using h
def zm1 (n:Nat):List AV:=[.int .i64 n]
theorem zlF (x y:Nat) (h:zm1 x=zm1 y):x=y:=by
 simp only[zm1,List.cons.injEq,AV.int.injEq,and_true,true_and]at h;omega
noncomputable def enLv:En:=⟨87,false,spP (fun n=>n < 2 ^ 60) zm1 fun n=>.int .i64 (lvI n)⟩
theorem zn0 (ρ:Nat→Int):zaF Try.prog ρ enLv:=yW fun n hn=>lv_con ρ n hn
theorem zqI {l:List En} (hl:∀ ar,yJ l 87 ar=enLv.sp ar) (n:Nat) (hn:n < 2 ^ 60) (H:Hp):zu Try.prog (zJ pls l) 87 [.int .i64 n] H fun v H'=>v=.int .i64 (lvI n)∧H'=H:=
 yd (enc:=zm1) (ok:=fun n=>n < 2 ^ 60) (out:=fun n=>.int .i64 (lvI n)) zlF (x:=n) (hl _) hn
noncomputable def enOps:En:=⟨110,false,spP (fun _=>True) (fun n:Int=>[.int .i64 n]) fun n=>zco (zbJ n)⟩
theorem zqJ (ρ:Nat→Int):zaF Try.prog ρ enOps:=yW fun n _=>zuL ρ n
def mtOk (x:List Int×List Int):Prop:=x.1.length≤x.2.length∧x.2.length < 2 ^ 60
noncomputable def enMt:En:=⟨108,false,spP mtOk mtE fun x=>.bool (yz x.1 x.2)⟩
theorem zuO (ρ:Nat→Int):zaF Try.prog ρ enMt:=yW fun x hx=>zo2 ρ x hx
theorem zo3 (ρ:Nat→Int) (n:Nat) (h3:3≤n) (hn:n < 2 ^ 30):Con Try.prog ρ 109 [.int .i64 n] (zco (zbK n)):=zbI (m:=3) (cfg:=zJ pls [enLv]) fit (zgX ρ) (zdC.look ⟨zn0 ρ,trivial⟩) (.cons (.int _ _) .nil) (by
 have hw:Plain (zJ pls [enLv]) 109:=yD (fun _=>rfl) rfl
 have hlv:=zif n (by omega)
 refine zi (M:=21) (rs:=[.tmp 2]) (hw.call _) hw.ice hw.froz Try.func109 rfl rfl zuK.2 rfl ?_;dsimp only[zuK,zH,Nat.reduceAdd]
 repeat' (first
  | (apply Rx.nl ?_;clear hK K)|apply Rx.o ?_|(apply Rx.cd (fun hb hbp=>?_) (fun hb hbp=>?_)<;>try (cases hb;done))|apply Wp.seq ?_|(apply zd fun K hK=>?_)|apply Wp.block ?_|apply zh ?_|apply Rx.rt ?_|apply zj ?_)
 have hrl:∀ i,(List.replicate i (1:Int)).length=i:=fun i=>List.length_replicate
 have hkeep:(zJ pls [enLv]).keep 109=false:=rfl
 refine yj [0,2] [] 4 n (fun i E H=>∃ v,E.at 3=v∧zdY H v (List.replicate i 1) 0) eE ⟨.nilS,eE,.inl ⟨rfl,rfl⟩⟩ ?_
 rintro i E H2 hi hcE hrH hnH hsI ⟨v,k3,hv⟩
 (try simp only[zk,zl,and_true,sB,sO,Nat.reduceBEq,Nat.reduceAdd,Nat.reduceLeDiff,tyF, *]at hcE)
 (try simp only[zk,zl,and_true,sB,sO,Nat.reduceBEq,Nat.reduceAdd,Nat.reduceLeDiff,tyF, *]at hrH)
 (try simp only[zb,ze,zM,Nat.zero_add,Nat.reduceAdd]at hnH)
 repeat' (first
  | (apply Rx.nl ?_;clear hK K)|apply Rx.o ?_|(apply Rx.cd (fun hb hbp=>?_) (fun hb hbp=>?_)<;>try (cases hb;done))|apply Wp.seq ?_|(apply zd fun K hK=>?_)|apply Wp.block ?_|apply zh ?_|apply Rx.rt ?_|apply zj ?_)
 ·have hlt:i < n:=by simpa using hb
  have gh0:=@bn1
  repeat' (first
   | (apply Rx.nl ?_;clear hK K)|apply Rx.o ?_|(apply Rx.cd (fun hb hbp=>?_) (fun hb hbp=>?_)<;>try (cases hb;done))|apply Wp.seq ?_|(apply zd fun K hK=>?_)|apply Wp.block ?_|apply zh ?_|apply Rx.rt ?_|apply zj ?_)
  have hvb:zdY (H2.alloc (.cells [.int .i64 1] 0 true)) v (List.replicate i 1) 0:=hv.keep (Nat.le_succ _) fun k hk=>by rw[za,if_neg (by have:=(hv.n.lt hk).2;omega)]
  obtain⟨v5,H5,a5,s5,n5,f5,o5⟩:=zqC (r:=H2.next) (imm:=0) 1 hvb (Nat.zero_le _) (by rw[za,if_pos rfl]) (by rw[hrl];omega)
  refine WpL.append eV eV (by rw[hkeep];exact a5) ?_
  repeat' (first
   | (apply Rx.nl ?_;clear hK K)|apply Rx.o ?_|(apply Rx.cd (fun hb hbp=>?_) (fun hb hbp=>?_)<;>try (cases hb;done))|apply Wp.seq ?_|(apply zd fun K hK=>?_)|apply Wp.block ?_|apply zh ?_|apply Rx.rt ?_|apply zj ?_)
  refine⟨by omega,eL,eL,eN,(by simp only[sB,Nat.reduceBEq, *];exact z7 (n:=n) (by omega) (by omega)),?_⟩
  exact⟨v5,eE,.inr (by rw[List.replicate_succ'];exact s5)⟩
 ·have hie:i=n:=by simp at hb;omega
  subst hie
  rcases hv with ⟨_,h⟩|⟨r,hve,h2,_,h4⟩
  ·have:=congrArg List.length h;rw[hrl]at this;simp at this;omega
  subst hve
  rw[hrl]at k3
  have hcl:((List.replicate i (1:Int)).map (AV.int .i64)).length=i:=by simp
  generalize hcs:(List.replicate i (1:Int)).map (AV.int .i64)=cs at h2 hcl
  have hi1:0 < i:=by omega
  have hi2:(i - 1) / 2+1 < i:=by omega
  have e1:IntKind.wrap .i64 (((i - 1) / 2:Nat)+1)=(((i - 1) / 2+1:Nat):Int):=zav (by omega) (by omega)
  repeat' (first
   | (apply Rx.nl ?_;clear hK K)|apply Ry.o ?_|(apply Ry.call ?_;first|refine jM (zqI (fun _=>rfl) _ (by omega) _) ?_)|apply Wp.seq ?_|(apply zd fun K hK=>?_)|apply Wp.block ?_|apply zh ?_|apply Rx.rt ?_|apply zj ?_)
  refine WpL.store eV eV (zka h2 (by omega) 2) ?_
  repeat' (first
   | (apply Rx.nl ?_;clear hK K)|apply Ry.o ?_|apply Wp.seq ?_|(apply zd fun K hK=>?_)|apply Wp.block ?_|apply zh ?_|apply Rx.rt ?_|apply zj ?_)
  refine WpL.store eV eV (zka (by rw[Hp.get_set,if_pos rfl]) (by rw[List.length_set];omega) 2) ?_
  repeat' (first
   | (apply Rx.nl ?_;clear hK K)|apply Rx.o ?_|(apply Rx.cd (fun hb hbp=>?_) (fun hb hbp=>?_)<;>try (cases hb;done))|apply Wp.seq ?_|(apply zd fun K hK=>?_)|apply Wp.block ?_|apply zh ?_|apply Rx.rt ?_|apply zj ?_)
  all_goals (refine⟨eI,_,eR,?_⟩;try simp only[zp])
  have hll:(zbK i).length=i:=by simp[zbK]
  have hb:zcZ ((H2.set r (.cells (cs.set 0 (.int .i64 2)) 0 true)).set r (.cells ((cs.set 0 (.int .i64 2)).set ((i - 1) / 2+1) (.int .i64 2)) 0 true)) (.sl r 0 (zbK i).length 1) (zbK i) 0:=⟨r,0,rfl,by
   rw[Hp.get_set,if_pos rfl,zbK,List.map_set,List.map_set,hcs,show(lvI i+1).toNat=(i - 1) / 2+1 by omega],Nat.zero_le _,Nat.zero_le _,h4⟩
  have:=hb.iceV 1
  rw[hll]at this
  exact this)
noncomputable def enLs:En:=⟨109,false,spP (fun n=>3≤n∧n < 2 ^ 30) zm1 fun n=>zco (zbK n)⟩
theorem zuP (ρ:Nat→Int):zaF Try.prog ρ enLs:=yW fun n hn=>zo3 ρ n hn.1 hn.2
end Go.Proofs.Ytpbcimfiofmoeaa
namespace Go.Proofs.Ytpbcimfiofmoeaa
set_option maxRecDepth 20000
set_option maxRecDepth 20000
open Go Go.Ab
namespace tyI2
def tyF:=And.intro @tq2 (And.intro @tq3 (And.intro @zcf (And.intro @zmQ (And.intro @zgj (@zfD)))))
end tyI2
open tyI2
noncomputable def code71:{ c:SC // slim 53 (Try.f71.body.getD .skip)=c }:=by
 refine⟨?_,?_⟩
 rotate_left
 ·simp only[Try.f71,Option.getD_some,slim,zT,zR,zY,zZ,Nat.blt,Nat.ble]
  rfl
noncomputable def ze6:{ c:SC // slim 106 (Try.f70.body.getD .skip)=c }:=by
 refine⟨?_,?_⟩
 rotate_left
 ·simp only[Try.f70,Option.getD_some,slim,zT,zR,zY,zZ,Nat.blt,Nat.ble]
  rfl
noncomputable def zqK:List En:=[enAr,enLv,enOps,enMt,enLs]
theorem zlG (ρ:Nat→Int):zdC Try.prog ρ zqK:=⟨zuN ρ,zn0 ρ,zqJ ρ,zuO ρ,zuP ρ,trivial⟩
abbrev zkb (l:List Nd):AV:=.lst (l.map Nd.cells)
theorem zig (l:List Nd):zar (zkb l):=.map fun x _=>x.pure
theorem zqL {a b:List Nd} (h:zkb a=zkb b):a=b:=by
 simp only[zkb,AV.lst.injEq]at h
 exact zaa (fun _ _ _=>Nd.inj) h
def zqM (x:List Nd×Nd):Prop:=x.2.op=25→∃ (k:Nat) (m:Nd),x.2.kids[0]?=some (k:Int)∧x.1[k]?=some m∧m.kids.length < 2 ^ 60
def imE (x:List Nd×Nd):List AV:=[zkb x.1,.agg x.2.cells]
theorem zkc (ρ:Nat→Int) (x:List Nd×Nd) (hx:zqM x):Con Try.prog ρ 71 (imE x) (.bool (zaz x.1 x.2)):=yO fit (pls:=pls) (zlG ρ) (.cons (zig _) (.cons (.agg (Nd.pure _)) .nil)) (.bool _) (by
 obtain⟨l,n⟩:=x
 have hw:Plain (zJ pls zqK) 71:=yD (fun _=>rfl) rfl
 unfold zqM at hx
 rw[imE]
 simp only[]at hx ⊢
 refine zi (M:=53) (rs:=[.tmp 4]) (hw.call _) hw.ice hw.froz Try.func71 rfl rfl code71.2 rfl ?_;dsimp only[code71,zH,Nat.reduceAdd]
 repeat' (first
  | (apply Rx.nl ?_;clear hK K)|apply Rx.o ?_|(apply Rx.gd (fun hg hgp=>?_) (fun hg hgp=>?_)<;>try (cases hg;done))|(apply Rx.cd (fun hb hbp=>?_) (fun hb hbp=>?_)<;>try (cases hb;done))|apply Wp.seq ?_|(apply zd fun K hK=>?_)|apply Wp.block ?_|apply zh ?_|apply Rx.rt ?_)
 all_goals (first|(refine⟨eI,_,eR,?_⟩;(try simp only[zp]);clear hx;simp_all[zaz,za5]<;>omega;done)|skip)
 all_goals trace_state
 have h25:n.op=25:=by assumption
 obtain⟨k,m,h1,h2,h3⟩:=hx h25
 have h1':n.kids.headD 0=k:=by
  cases hk:n.kids with
  | nil=>rw[hk]at h1;simp at h1
  | cons a b=>rw[hk]at h1;simpa using h1
 have hkl:zgs l (n.kids.headD 0)=m.kids.length:=by rw[h1',zgs,Int.toNat_natCast,h2]
 have hlr:=zm0 m.kids.length
 have e1:IntKind.wrap .i64 (lvI m.kids.length - 1)=lvI m.kids.length - 1:=zav (by omega) (by omega)
 repeat' (first
  | (apply Rx.nl ?_;clear hK K)|apply Ry.o ?_|(apply Ry.call ?_;first|refine jM (zqI (fun _=>rfl) _ (by omega) _) ?_)|(apply Ry.gd (fun hg hgp=>?_) (fun hg hgp=>?_)<;>try (cases hg;done))|apply Wp.seq ?_|(apply zd fun K hK=>?_)|apply Wp.block ?_|apply zh ?_|apply Rx.rt ?_)
 all_goals (first|(refine⟨eI,_,eR,?_⟩;(try simp only[zp]);clear hx;simp_all[zaz,za5]<;>omega;done)|skip)
 all_goals trace_state)
noncomputable def enIm:En:=⟨71,true,spP zqM imE fun x=>.bool (zaz x.1 x.2)⟩
theorem zuQ (ρ:Nat→Int):zaF Try.prog ρ enIm:=yW fun x hx=>zkc ρ x hx
theorem zqN (a:Int) (s:List Int):jY Try.prog 23 (.lst ((a::s).map fun n=>[AV.int .i64 n])) (some (.int .i64 1)) none=some (.lst (s.map fun n=>[AV.int .i64 n])):=by
 have e1:(1:Int)=Int.ofNat 1:=rfl
 simp only[jY,Try.underlying23,sz3,e1,jh]
 rw[if_pos ⟨by simp,Nat.le_refl _⟩]
 rw[List.take_of_length_le (by simp)]
 cases s with
 | nil=>rfl
 | cons b s=>rfl
theorem ar_ops (op:Int) (h0:0≤(arI op).1):(arI op).1≤(zbJ op).length:=by
 unfold arI at h0 ⊢
 unfold zbJ
 repeat' split
 all_goals (first|(simp;done)|omega|(simp_all;done))
def voE (x:Nd×List Int):List AV:=[.agg x.1.cells,zco x.2]
theorem zih {l:List En} (hl:∀ ar,yJ l 24 ar=enAr.sp ar) (n:Int) (H:Hp):zu Try.prog (zJ pls l) 24 [.int .i64 n] H fun v H'=>v=arV n∧H'=H:=
 yd (enc:=fun n:Int=>[.int .i64 n]) (ok:=fun _=>True) (out:=arV) znZ (x:=n) (hl _) trivial
theorem zqO {l:List En} (hl:∀ ar,yJ l 110 ar=enOps.sp ar) (n:Int) (H:Hp):zu Try.prog (zJ pls l) 110 [.int .i64 n] H fun v H'=>v=zco (zbJ n)∧H'=H:=
 yd (enc:=fun n:Int=>[.int .i64 n]) (ok:=fun _=>True) (out:=fun n=>zco (zbJ n)) znZ (x:=n) (hl _) trivial
theorem ls_en {l:List En} (hl:∀ ar,yJ l 109 ar=enLs.sp ar) (n:Nat) (hn:3≤n∧n < 2 ^ 30) (H:Hp):zu Try.prog (zJ pls l) 109 [.int .i64 n] H fun v H'=>v=zco (zbK n)∧H'=H:=
 yd (enc:=zm1) (ok:=fun n=>3≤n∧n < 2 ^ 30) (out:=fun n=>zco (zbK n)) zlF (x:=n) (hl _) hn
theorem zqP {l:List En} (hl:∀ ar,yJ l 108 ar=enMt.sp ar) (s w:List Int) (h:mtOk (s,w)) (H:Hp):zu Try.prog (zJ pls l) 108 [zco s,zco w] H fun v H'=>v=.bool (yz s w)∧H'=H:=
 yd (enc:=mtE) (ok:=mtOk) (out:=fun x=>.bool (yz x.1 x.2)) zuM (x:=(s,w)) (hl _) h
theorem xt0 (a b:AV):Ab.extract (.tup [a,b]) 0=some a:=rfl
theorem xt1 (a b:AV):Ab.extract (.tup [a,b]) 1=some b:=rfl
theorem zuR (s:List Int):yo 31 s=(decide ((3:Int)≤s.length)&&decide ((s.length:Int).tmod 2=1)&&decide (lvI s.length≤16)&&yz s (zbK s.length)):=by
 have ht:(s.length:Int).tmod 2=((s.length % 2:Nat):Int):=by rw[Int.tmod_eq_emod_of_nonneg (by omega)];omega
 have e1:decide ((s.length:Int).tmod 2=1)=decide (s.length % 2=1):=by rw[ht];exact decide_eq_decide.2 (by omega)
 have e2:decide ((3:Int)≤s.length)=decide (3≤s.length):=decide_eq_decide.2 (by omega)
 rw[e1,e2];rfl
theorem zhs (a:Int) (s:List Int):yo 30 (a::s)=(!decide ((7:Int) < ((s.length+1:Nat):Int))&&decide (a=2)&&s.all fun x=>decide (x=1)):=by
 have e1:(!decide ((7:Int) < ((s.length+1:Nat):Int)))=decide ((a::s).length≤7):=by
  rw[← decide_not];exact decide_eq_decide.2 (by simp only[List.length_cons];omega)
 have e2:decide (1≤(a::s).length)=true:=by simp
 rw[e1]
 show(decide (1≤(a::s).length)&&decide ((a::s).length≤7)&&decide (a=2)&&s.all fun x=>decide (x=1))=_
 rw[e2,Bool.true_and]
theorem zuS (a b c:Int):yo 22 [a,b,c]=if b=2 then (decide (a=1)&&decide (c=2))else yz [a,b,c] [1,1,1]:=by
 have e:yo 22 [a,b,c]=if (22:Int)=22∧b=2 then (decide (a=1)&&decide (c=2))else yz [a,b,c] [1,1,1]:=rfl
 rw[e];simp
theorem zqQ {op:Int} (s:List Int) (h:(arI op).2=false):yo op s=false:=by rw[yo,if_pos h]
theorem zo4 {op:Int}{s:List Int} (h:0≤(arI op).1) (h2:(arI op).1≠s.length):yo op s=false:=by
 unfold yo
 split
 ·rfl
 ·rw[if_pos ⟨h,h2⟩]
theorem zqR {op:Int}{s:List Int} (h:(arI op).2=true) (h2:(arI op).1=s.length) (h1:op≠31) (h3:op≠30) (h4:op≠22):yo op s=yz s (zbJ op):=by
 unfold yo
 rw[if_neg (by rw[h];simp),if_neg (fun k=>k.2 h2),if_neg h1,if_neg h3,if_neg (fun k=>h4 k.1)]
theorem zlH (op:Int):(zbJ op).length≤3:=by
 unfold zbJ
 repeat' split
 all_goals decide
theorem ar_nn {op:Int} (h1:op≠31) (h3:op≠30):0≤(arI op).1:=by
 unfold arI
 repeat' split
 all_goals (first|decide|omega)
theorem zkd (ρ:Nat→Int) (x:Nd×List Int) (hx:x.2.length < 2 ^ 30):Con Try.prog ρ 70 (voE x) (.bool (yo x.1.op x.2)):=yO fit (pls:=pls) (zlG ρ) (.cons (.agg (Nd.pure _)) (.cons (zel _) .nil)) (.bool _) (by
 obtain⟨⟨op,imm,kids⟩,s⟩:=x
 have hw:Plain (zJ pls zqK) 70:=yD (fun _=>rfl) rfl
 rw[voE]
 simp only[Nd.cells]at hx ⊢
 have hq:(2:Int)≠0:=by decide
 by_cases h31:op=31
 ·subst h31
  have hv:arV 31=.tup [.int .i64 (-1),.bool true]:=rfl
  have hmt:mtOk (s,zbK s.length):=⟨by simp[zbK],by simp[zbK];omega⟩
  refine zi (M:=106) (rs:=[.tmp 4]) (hw.call _) hw.ice hw.froz Try.func70 rfl rfl ze6.2 rfl ?_;dsimp only[ze6,zH,Nat.reduceAdd]
  have gh0:=@xt0
  have gh1:=@xt1
  repeat' (first
   | (apply Rx.nl ?_;clear hK K)|apply Ry.o ?_|(apply Ry.call ?_;first|refine jM (zih (fun _=>rfl) _ _) ?_|refine jM (zqI (fun _=>rfl) _ (by omega) _) ?_|refine jM (ls_en (fun _=>rfl) _ (by omega) _) ?_|refine jM (zqP (fun _=>rfl) _ _ hmt _) ?_)|apply Ry.gu ?_|(apply Ry.gd (fun hg hgp=>?_) (fun hg hgp=>?_)<;>try (cases hg;done))|(apply Ry.cd (fun hb hbp=>?_) (fun hb hbp=>?_)<;>try (cases hb;done))|apply Wp.seq ?_|(apply zd fun K hK=>?_)|apply Wp.block ?_|apply zh ?_|apply Rx.rt ?_|apply zj ?_)
  all_goals
   refine⟨eI,_,eRW,?_⟩;try simp only[zp]
   rw[zuR];(try simp only[Bool.not_eq_true',Bool.not_eq_false']at *);simp only[*,decide_true,decide_false,Bool.false_or,Bool.or_false,Bool.true_or,Bool.or_true,Bool.false_and,Bool.and_false,Bool.true_and,Bool.and_true,Bool.not_true,Bool.not_false,if_true,if_false,Int.reduceEq]
 by_cases h30:op=30
 ·subst h30
  have hv:arV 30=.tup [.int .i64 (-1),.bool true]:=rfl
  cases s with
  | nil=>
    refine zi (M:=106) (rs:=[.tmp 4]) (hw.call _) hw.ice hw.froz Try.func70 rfl rfl ze6.2 rfl ?_;dsimp only[ze6,zH,Nat.reduceAdd]
    have gh0:=@xt0
    have gh1:=@xt1
    repeat' (first
     | (apply Rx.nl ?_;clear hK K)|apply Ry.o ?_|(apply Ry.call ?_;first|refine jM (zih (fun _=>rfl) _ _) ?_)|apply Ry.gu ?_|(apply Ry.gd (fun hg hgp=>?_) (fun hg hgp=>?_)<;>try (cases hg;done))|(apply Ry.cd (fun hb hbp=>?_) (fun hb hbp=>?_)<;>try (cases hb;done))|apply Wp.seq ?_|(apply zd fun K hK=>?_)|apply Wp.block ?_|apply zh ?_|apply Rx.rt ?_|apply zj ?_)
    all_goals (refine⟨eI,_,eR,?_⟩;try simp only[zp])
    rfl
  | cons a s=>
    have hsl:=zqN a s
    simp only[List.length_cons]at hx
    refine zi (M:=106) (rs:=[.tmp 4]) (hw.call _) hw.ice hw.froz Try.func70 rfl rfl ze6.2 rfl ?_;dsimp only[ze6,zH,Nat.reduceAdd]
    have gh0:=@xt0
    have gh1:=@xt1
    repeat' (first
     | (apply Rx.nl ?_;clear hK K)|apply Ry.o ?_|(apply Ry.call ?_;first|refine jM (zih (fun _=>rfl) _ _) ?_)|apply Ry.gu ?_|(apply Ry.gd (fun hg hgp=>?_) (fun hg hgp=>?_)<;>try (cases hg;done))|(apply Ry.cd (fun hb hbp=>?_) (fun hb hbp=>?_)<;>try (cases hb;done))|apply Wp.seq ?_|(apply zd fun K hK=>?_)|apply Wp.block ?_|apply zh ?_|apply Rx.rt ?_|apply zj ?_)
    ·all_goals (refine⟨eI,_,eR,?_⟩;try simp only[zp])
     rw[zhs];(try simp only[Bool.not_eq_true',Bool.not_eq_false']at *);simp only[*,decide_true,decide_false,Bool.false_or,Bool.or_false,Bool.true_or,Bool.or_true,Bool.false_and,Bool.and_false,Bool.true_and,Bool.and_true,Bool.not_true,Bool.not_false,if_true,if_false,Int.reduceEq]
    ·refine yj [1,2,72,73] [] 74 s.length (fun i E H=>(s.all fun x=>decide (x=1))=(s.drop i).all fun x=>decide (x=1)) eE (by simp) ?_
     rintro i E H2 hi hcE hrH hnH hsI hJ
     (try simp only[zk,zl,and_true,sB,sO,Nat.reduceBEq,Nat.reduceAdd,Nat.reduceLeDiff,tyF, *]at hcE)
     (try simp only[zk,zl,and_true,sB,sO,Nat.reduceBEq,Nat.reduceAdd,Nat.reduceLeDiff,tyF, *]at hrH)
     (try simp only[zb,ze,zM,Nat.zero_add,Nat.reduceAdd]at hnH)
     repeat' (first
      | (apply Rx.nl ?_;clear hK K)|apply Rx.o ?_|(apply Rx.cd (fun hb hbp=>?_) (fun hb hbp=>?_)<;>try (cases hb;done))|apply Wp.seq ?_|(apply zd fun K hK=>?_)|apply Wp.block ?_|apply zh ?_|apply Rx.rt ?_|apply zj ?_)
     ·have hlt:i < s.length:=by simpa using hb
      have hgx:s[i]?=some s[i]:=List.getElem?_eq_getElem hlt
      have hdr:((s.drop i).all fun x=>decide (x=1))=(decide (s[i]=1)&&(s.drop (i+1)).all fun x=>decide (x=1)):=by rw[List.drop_eq_getElem_cons hlt,List.all_cons]
      repeat' (first
       | (apply Rx.nl ?_;clear hK K)|apply Rx.o ?_|(apply Rx.cd (fun hb hbp=>?_) (fun hb hbp=>?_)<;>try (cases hb;done))|apply Wp.seq ?_|(apply zd fun K hK=>?_)|apply Wp.block ?_|apply zh ?_|apply Rx.rt ?_|apply zj ?_)
      ·all_goals (refine⟨eI,_,eR,?_⟩;try simp only[zp])
       rw[zhs,hJ,hdr];(try simp only[Bool.not_eq_true',Bool.not_eq_false']at *);simp only[*,decide_true,decide_false,Bool.false_or,Bool.or_false,Bool.true_or,Bool.or_true,Bool.false_and,Bool.and_false,Bool.true_and,Bool.and_true,Bool.not_true,Bool.not_false,if_true,if_false,Int.reduceEq]
      ·refine⟨by omega,eL,eL,eN,(by simp only[sB,Nat.reduceBEq, *];exact z7 (n:=s.length) (by omega) (by omega)),?_⟩
       rw[hJ,hdr];(try simp only[Bool.not_eq_true',Bool.not_eq_false']at *);simp only[*,decide_true,decide_false,Bool.false_or,Bool.or_false,Bool.true_or,Bool.or_true,Bool.false_and,Bool.and_false,Bool.true_and,Bool.and_true,Bool.not_true,Bool.not_false,if_true,if_false,Int.reduceEq]
     ·repeat' (first
       | (apply Rx.nl ?_;clear hK K)|apply Rx.o ?_|(apply Rx.cd (fun hb hbp=>?_) (fun hb hbp=>?_)<;>try (cases hb;done))|apply Wp.seq ?_|(apply zd fun K hK=>?_)|apply Wp.block ?_|apply zh ?_|apply Rx.rt ?_|apply zj ?_)
      all_goals (refine⟨eI,_,eR,?_⟩;try simp only[zp])
      rw[show i=s.length by simp at hb;omega,List.drop_length]at hJ
      have hJ2:(s.all fun x=>decide (x=1))=true:=hJ
      rw[zhs,hJ2];(try simp only[Bool.not_eq_true',Bool.not_eq_false']at *);simp only[*,decide_true,decide_false,Bool.false_or,Bool.or_false,Bool.true_or,Bool.or_true,Bool.false_and,Bool.and_false,Bool.true_and,Bool.and_true,Bool.not_true,Bool.not_false,if_true,if_false,Int.reduceEq]
    ·all_goals (refine⟨eI,_,eR,?_⟩;try simp only[zp])
     rw[zhs];(try simp only[Bool.not_eq_true',Bool.not_eq_false']at *);simp only[*,decide_true,decide_false,Bool.false_or,Bool.or_false,Bool.true_or,Bool.or_true,Bool.false_and,Bool.and_false,Bool.true_and,Bool.and_true,Bool.not_true,Bool.not_false,if_true,if_false,Int.reduceEq]
 have hnn:=ar_nn h31 h30
 cases hok:(arI op).2 with
 | false=>
   have hv:arV op=.tup [.int .i64 (arI op).1,.bool false]:=by rw[arV,hok]
   refine zi (M:=106) (rs:=[.tmp 4]) (hw.call _) hw.ice hw.froz Try.func70 rfl rfl ze6.2 rfl ?_;dsimp only[ze6,zH,Nat.reduceAdd]
   have gh0:=@xt0
   have gh1:=@xt1
   repeat' (first
    | (apply Rx.nl ?_;clear hK K)|apply Ry.o ?_|(apply Ry.call ?_;first|refine jM (zih (fun _=>rfl) _ _) ?_)|apply Ry.gu ?_|(apply Ry.gd (fun hg hgp=>?_) (fun hg hgp=>?_)<;>try (cases hg;done))|(apply Ry.cd (fun hb hbp=>?_) (fun hb hbp=>?_)<;>try (cases hb;done))|apply Wp.seq ?_|(apply zd fun K hK=>?_)|apply Wp.block ?_|apply zh ?_|apply Rx.rt ?_|apply zj ?_)
   all_goals
    refine⟨eI,_,eRW,?_⟩;try simp only[zp]
    rw[zqQ s hok]
 | true=>
   by_cases hlen:(arI op).1=s.length
   ·have hv:arV op=.tup [.int .i64 s.length,.bool true]:=by rw[arV,hok,hlen]
    by_cases h22:op=22
    ·subst h22
     obtain⟨a,b,c,rfl⟩:=len3 (s:=s) (by have e:(arI 22).1=3:=rfl;rw[e]at hlen;omega)
     have hmt:mtOk ([a,b,c],zbJ 22):=⟨Nat.le_refl _,by have:=zlH 22;simp only[];omega⟩
     refine zi (M:=106) (rs:=[.tmp 4]) (hw.call _) hw.ice hw.froz Try.func70 rfl rfl ze6.2 rfl ?_;dsimp only[ze6,zH,Nat.reduceAdd]
     have gh0:=@xt0
     have gh1:=@xt1
     repeat' (first
      | (apply Rx.nl ?_;clear hK K)|apply Ry.o ?_|(apply Ry.call ?_;first|refine jM (zih (fun _=>rfl) _ _) ?_|refine jM (zqO (fun _=>rfl) _ _) ?_|refine jM (zqP (fun _=>rfl) _ _ hmt _) ?_)|apply Ry.gu ?_|(apply Ry.gd (fun hg hgp=>?_) (fun hg hgp=>?_)<;>try (cases hg;done))|(apply Ry.cd (fun hb hbp=>?_) (fun hb hbp=>?_)<;>try (cases hb;done))|apply Wp.seq ?_|(apply zd fun K hK=>?_)|apply Wp.block ?_|apply zh ?_|apply Rx.rt ?_|apply zj ?_)
     all_goals
      refine⟨eI,_,eRW,?_⟩;try simp only[zp]
      rw[zuS]
      first
      | (simp_all;done)
      | (rw[if_neg (by assumption)];rfl)
    ·have hmt:mtOk (s,zbJ op):=⟨by have:=ar_ops op hnn;simp only[];omega,by have:=zlH op;simp only[];omega⟩
     have hl0:(0:Int)≤s.length:=by omega
     refine zi (M:=106) (rs:=[.tmp 4]) (hw.call _) hw.ice hw.froz Try.func70 rfl rfl ze6.2 rfl ?_;dsimp only[ze6,zH,Nat.reduceAdd]
     have gh0:=@xt0
     have gh1:=@xt1
     repeat' (first
      | (apply Rx.nl ?_;clear hK K)|apply Ry.o ?_|(apply Ry.call ?_;first|refine jM (zih (fun _=>rfl) _ _) ?_|refine jM (zqO (fun _=>rfl) _ _) ?_|refine jM (zqP (fun _=>rfl) _ _ hmt _) ?_)|apply Ry.gu ?_|(apply Ry.gd (fun hg hgp=>?_) (fun hg hgp=>?_)<;>try (cases hg;done))|(apply Ry.cd (fun hb hbp=>?_) (fun hb hbp=>?_)<;>try (cases hb;done))|apply Wp.seq ?_|(apply zd fun K hK=>?_)|apply Wp.block ?_|apply zh ?_|apply Rx.rt ?_|apply zj ?_)
     all_goals
      refine⟨eI,_,eRW,?_⟩;try simp only[zp]
      rw[zqR hok hlen h31 h30 h22]
   ·have hv:arV op=.tup [.int .i64 (arI op).1,.bool true]:=by rw[arV,hok]
    refine zi (M:=106) (rs:=[.tmp 4]) (hw.call _) hw.ice hw.froz Try.func70 rfl rfl ze6.2 rfl ?_;dsimp only[ze6,zH,Nat.reduceAdd]
    have gh0:=@xt0
    have gh1:=@xt1
    repeat' (first
     | (apply Rx.nl ?_;clear hK K)|apply Ry.o ?_|(apply Ry.call ?_;first|refine jM (zih (fun _=>rfl) _ _) ?_)|apply Ry.gu ?_|(apply Ry.gd (fun hg hgp=>?_) (fun hg hgp=>?_)<;>try (cases hg;done))|(apply Ry.cd (fun hb hbp=>?_) (fun hb hbp=>?_)<;>try (cases hb;done))|apply Wp.seq ?_|(apply zd fun K hK=>?_)|apply Wp.block ?_|apply zh ?_|apply Rx.rt ?_|apply zj ?_)
    all_goals
     refine⟨eI,_,eRW,?_⟩;try simp only[zp]
     rw[zo4 hnn hlen])
end Go.Proofs.Ytpbcimfiofmoeaa
namespace Go.Proofs.Ytpbcimfiofmoeaa
set_option maxRecDepth 20000
set_option maxRecDepth 20000
open Go Go.Ab
namespace tyV1
def tyF:=And.intro @tq2 (And.intro @tq3 (And.intro @tq5 (And.intro @tq9 (And.intro @zcf (And.intro @zmQ (And.intro @tq61 (And.intro @tq121 (And.intro @znQ (And.intro @cv3_5 (And.intro @znR (And.intro @tq145 (And.intro @znS (And.intro @znT (@bu1))))))))))))))
end tyV1
open tyV1
def zii (n:Nd):List Int:=IntKind.wrap .u8 n.op::(jU (IntKind.wrap .u64 n.imm) 8++n.kids.flatMap fun k=>jU (IntKind.wrap .u64 k) 8)
theorem zqS (n:Nd):zii n=[IntKind.wrap .u8 n.op]++jU (IntKind.wrap .u64 n.imm) 8++n.kids.flatMap fun k=>jU (IntKind.wrap .u64 k) 8:=by
 rw[zii];simp
theorem zg2:∀ l:List Int,zb3 (l.map (.int .u8))=some (zlC l)
 | []=>rfl
 | a::l=>by
   have:=zg2 l
   simp only[List.map_cons,zb3,this];rfl
theorem zqT {H:Hp}{v:AV}{l:List Int}{lo:Nat} (hv:zgr H v l lo):jo Try.prog H 61 9 v=some (.str (zlC l)):=by
 obtain⟨r,im,rfl,hg,_⟩:=hv
 have hx:yg H 1 (.sl r 0 l.length 1)=some (l.length,l.map (.int .u8)):=by
  have:=zdm (H:=H) (r:=r) (o:=0) (n:=l.length) (z:=1) (s:=1) hg (by simp)
  rw[this,List.drop_zero,List.take_of_length_le (by simp)]
 simp only[jo,Try.underlying61,Try.underlying9,Try.underlying5,hx]
 rw[zg2]
end Go.Proofs.Ytpbcimfiofmoeaa
namespace Go.Proofs.Ytpbcimfiofmoeaa
set_option maxRecDepth 20000
open Go Go.Ab
def zd0:Nat→AV→Bool
 | 0,_=>false
 | n+1,v=>match v with
   | .sl _ _ _ _=>true
   | .agg cs=>cs.any (zd0 n)
   | _=>false
theorem zfQ {S:Nat→Prop}{H:Hp}{n m k:Nat} (ih:∀ {v u:AV},Ic S n H v u→zd0 m (wkN k v)=false→wkN k u=wkN k v):∀ {cs ds:List AV},zbm (Ic S n H) cs ds→(cs.map (wkN k)).any (zd0 m)=false→ds.map (wkN k)=cs.map (wkN k)
 | [],[],_,_=>rfl
 | c::cs,d::ds,h,h2=>by
   simp only[List.map_cons,List.any_cons,Bool.or_eq_false_iff]at h2
   rw[List.map_cons,List.map_cons,ih h.1 h2.1,zfQ ih h.2 h2.2]
theorem zke {S:Nat→Prop}{H:Hp}:∀ (n m k:Nat) {v u:AV},n≤m→Ic S n H v u→zd0 m (wkN k v)=false→wkN k u=wkN k v
 | 0,_,_,_,_,_,h,_=>h.elim
 | n+1,0,_,_,_,h,_,_=>by omega
 | n+1,m+1,k,v,u,hm,h,h2=>by
   cases v with
   | sl r o l z=>cases k<;>simp[wkN,zd0]at h2
   | agg cs=>
     obtain⟨ds,h1,rfl⟩:=h
     cases k with
     | zero=>
       have e:∀ v,wkN 0 v=v:=fun v=>by cases v<;>rfl
       have h3:(cs.map (wkN 0)).any (zd0 m)=false:=by
        rw[show cs.map (wkN 0)=cs by rw[show wkN 0=id from funext e,List.map_id]]
        simpa [wkN,zd0]using h2
       have:=zfQ (k:=0) (fun h4 h5=>zke n m 0 (by omega) h4 h5) h1 h3
       rw[show wkN 0=id from funext e,List.map_id,List.map_id]at this
       rw[this]
     | succ k=>
       have h3:(cs.map (wkN k)).any (zd0 m)=false:=by simpa [wkN,zd0]using h2
       show AV.agg (ds.map (wkN k))=AV.agg (cs.map (wkN k))
       rw[zfQ (fun h4 h5=>zke n m k (by omega) h4 h5) h1 h3]
   | _=>obtain⟨_,rfl⟩:=h;rfl
theorem zm2 {l:List En}{fn:FuncId}{α:Type}{ok:α→Prop}{enc:α→List AV}{out:α→AV} (inj:∀ x y,enc x=enc y→x=y) (hl:∀ ar,yJ l fn ar=spP ok enc out (ar.map (wkN 60))) (hi:zfI l fn=true) (hns:∀ y,(enc y).any (zd0 90)=false) {x:α} (hx:ok x) {S:Nat→Prop}{n:Nat} (hn:n≤90) {H:Hp}{args us:List AV} (h1:zbm (Ic S n H) args us) (h2:us.map (wkN 60)=enc x) :
 zu Try.prog (zJ pls l) fn args H fun v H'=>v=out x∧Icy S H H':=by
 by_cases hd:∃ y,ok y∧enc y=args.map (wkN 60)
 ·obtain⟨y,_,e⟩:=hd
  have h3:us.map (wkN 60)=args.map (wkN 60):=zfQ (m:=90) (fun h4 h5=>zke n 90 60 hn h4 h5) h1 (by rw[← e];exact hns y)
  refine zu.mono ?_ (zgm (r:=out x) (by show yJ l fn args=_;rw[hl,← h3,h2];exact zhp inj hx))
  rintro v H' ⟨rfl,rfl⟩
  exact⟨rfl,Icy.refl _ _⟩
 ·obtain⟨H',h4,h5⟩:=Ic.iceL (n:=100) (l:=args) (m:=us) (zbm.mono (fun a b k=>Ic.up k (by omega)) h1)
  refine zgZ (r:=out x) ?_ hi rfl h4 ?_ ⟨rfl,h5⟩
  ·show yJ l fn args=none
   rw[hl]
   exact zlq fun y hy e=>hd ⟨y,hy,e⟩
  ·show yJ l fn us=_
   rw[hl,h2]
   exact zhp inj hx
theorem zqU {P:Program}{cfg:Cfg}{f N:Nat}{a:SC}{E:Env}{H:Hp}{Q:AX→Env→Hp→Prop} (F:Env→Hp→Prop) (h1:Wp P cfg f N a E H fun x E' H'=>x=.normal∧F E' H') (h2:∀ E' H',F E' H'→Q .normal E' H'):Wp P cfg f N a E H Q:=
 Wp.mono (fun x E' H' h=>by obtain⟨rfl,h⟩:=h;exact h2 E' H' h) h1
namespace tyI3
end tyI3
open tyI3
noncomputable def enVo:En:=⟨70,true,spP (fun x=>x.2.length < 2 ^ 30) voE fun x=>.bool (yo x.1.op x.2)⟩
theorem zuT (ρ:Nat→Int):zaF Try.prog ρ enVo:=yW fun x hx=>zkd ρ x hx
noncomputable def levS:List En:=[enW enVo,enIm]
theorem levS_ok (ρ:Nat→Int):zdC Try.prog ρ levS:=⟨zqB (zuT ρ),zuQ ρ,trivial⟩
def zn1 (l:List Nd):Prop:=l.length < 2 ^ 30∧∀ n∈l,n.kids.length < 2 ^ 30
end Go.Proofs.Ytpbcimfiofmoeaa
namespace Go.Proofs.Ytpbcimfiofmoeaa
set_option maxRecDepth 20000
set_option maxRecDepth 20000
open Go Go.Ab
namespace tyR3c
def tyF:=And.intro @tq2 (And.intro @tq3 (And.intro @tq9 (And.intro @zfG (And.intro @zgk (And.intro @zcp (And.intro @zcg (And.intro @zbb (And.intro @zbc (And.intro @zay (And.intro @zfH (And.intro @zbx (And.intro @zj7 (And.intro @tup3_0 (And.intro @tup3_1 (@tup3_2)))))))))))))))
end tyR3c
open tyR3c
mutual
def zdD:St→Bool
 | .mk _ _ _ _ a v args th el=>decide ((20:Int) < zau a)||decide ((20:Int) < zau v)||j6 th||j6 el||args.any fun e=>decide ((20:Int) < zau e)
def j6:List St→Bool
 | []=>false
 | x::l=>zdD x||j6 l
end
def prE (p:Pr):List AV:=[.agg p.cells]
theorem zcC (x y:Pr) (h:prE x=prE y):x=y:=by simp only[prE,List.cons.injEq,AV.agg.injEq,and_true]at h;exact Pr.inj h
def zgv (f:Fu):Bool:=decide ((6:Int) < f.params.length)||decide ((8:Int) < f.locals.length)||decide ((200:Int) < nS f.body)||decide ((16:Int) < wS f.body)||decide ((20:Int) < mS f.body 0)||j6 f.body||decide ((20:Int) < zau f.value)
def exAr (a:Ar):Bool:=decide (a.len < 1)||decide (16 < a.len)
def exB (p:Pr):Bool:=decide ((4:Int) < p.arrays.length)||decide ((8:Int) < p.funcs.length)||p.arrays.any exAr||p.funcs.any zgv
end Go.Proofs.Ytpbcimfiofmoeaa
namespace Go.Proofs.Ytpbcimfiofmoeaa
set_option maxRecDepth 20000
open Go Go.Ab
theorem w64s (d:Nat) (h:d < 2 ^ 60):w64 ((d:Int)+1)=((d+1:Nat):Int):=by unfold w64;rw[zav (by omega) (by omega)];omega
mutual
theorem zjn:∀ (x:Ex) (d:Nat),d≤21→zch zj8 x d=decide (d+zau x≤20)
 | .mk k n s o ks,d,hd=>by
   rw[zch,zj8,zau]
   by_cases h:d≤20
   ·rw[w64s d (by omega),zij ks d h]
    simp only[show decide ((d:Int)≤20)=true by simpa using (by omega:(d:Int)≤20),Bool.true_and]
   ·have h1:decide ((d:Int)≤20)=false:=by simp;omega
    rw[h1,Bool.false_and];symm;simp;omega
theorem zij:∀ (l:List Ex) (d:Nat),d≤20→jN zj8 l ((d+1:Nat):Int)=decide (d+zc0 l≤20)
 | [],d,hd=>by rw[jN,zc0];symm;simpa using hd
 | e::es,d,hd=>by
   rw[jN,zjn e (d+1) (by omega),zij es d hd,zc0]
   by_cases h1:d+1+zau e≤20<;>by_cases h2:d+zc0 es≤20
   all_goals simp only[h1,h2,decide_true,decide_false,Bool.and_true,Bool.and_false,Bool.true_and,Bool.false_and]
   all_goals (symm;simp;omega)
end
theorem ze7 (x:Ex):zch zj8 x 0=!decide ((20:Int) < zau x):=by
 have:=zjn x 0 (by omega)
 rw[show((0:Nat):Int)=0 from rfl]at this
 rw[this]
 by_cases h:zau x≤20
 ·have:¬ (20:Int) < zau x:=by omega
  simp[h,this]
 ·have:(20:Int) < zau x:=by omega
  simp[h,this]
theorem zg3:∀ (l:List Ex),jN zj8 l 0=!(l.any fun e=>decide ((20:Int) < zau e))
 | []=>rfl
 | e::es=>by rw[jN,ze7,zg3 es,List.any_cons,Bool.not_or]
mutual
theorem zm3:∀ (x:St) (d:Int),zbo (zhg zj8) x d ()=(!zdD x,())
 | .mk k nm to n a v args th el,d=>by
   rw[zbo,zhg,zdD]
   simp only[St.at_,St.value,St.args,ze7,zg3]
   cases h1:decide ((20:Int) < zau a)
   ·cases h2:decide ((20:Int) < zau v)
    ·cases h3:args.any fun e=>decide ((20:Int) < zau e)
     ·simp only[Bool.not_false,Bool.and_true,Bool.true_and,zdq th]
      cases h4:j6 th
      ·simp only[Bool.not_false,zdq el,Bool.or_false,Bool.false_or]
      ·simp
     ·simp
    ·simp
   ·simp
theorem zdq:∀ (l:List St) (d:Int),yS (zhg zj8) l d ()=(!j6 l,())
 | [],_=>rfl
 | x::l,d=>by
   rw[yS,zm3 x,j6]
   cases h:zdD x
   ·simp only[Bool.not_false,zdq l,Bool.false_or]
   ·simp
end
def whI (k:Int):Nat:=if k=4 then 1 else 0
theorem zqV (x:St) (d n l:Nat) (hn:n < 2 ^ 60) (hl:l < 2 ^ 60):zgn x d ((n:Int),(l:Int))=(decide ((d:Int)≤20)&&decide (((n+1:Nat):Int)≤200)&&decide (((l+whI x.kind:Nat):Int)≤16),(((n+1:Nat):Int),((l+whI x.kind:Nat):Int))):=by
 have hw:(if x.kind=4 then w64 ((l:Int)+1)else (l:Int))=((l+whI x.kind:Nat):Int):=by
  unfold whI
  split
  ·rw[w64s l (by omega)]
  ·rfl
 unfold zgn
 simp only[w64s n (by omega),hw]
mutual
theorem zo5:∀ (x:St) (d n l:Nat),d≤21→n≤200→l≤16 →
 ((m1 x d≤20∧n+n1 x≤200∧l+w1 x≤16)→zbo zgn x d ((n:Int),(l:Int))=(true,(((n+n1 x:Nat):Int),((l+w1 x:Nat):Int)))) ∧
 (¬ (m1 x d≤20∧n+n1 x≤200∧l+w1 x≤16)→(zbo zgn x d ((n:Int),(l:Int))).1=false)
 | .mk k nm to n0 a v args th el,d,n,l,hd,hn,hl=>by
   have hlw:whI (St.mk k nm to n0 a v args th el).kind≤1:=by unfold whI;split<;>omega
   have e1:w1 (.mk k nm to n0 a v args th el)=whI (St.mk k nm to n0 a v args th el).kind+wS th+wS el:=by rw[w1];rfl
   rw[zbo,zqV _ _ _ _ (by omega) (by omega),e1]
   obtain⟨z,hz⟩:∃ z,whI (St.mk k nm to n0 a v args th el).kind=z:=⟨_,rfl⟩
   rw[hz]at hlw ⊢
   clear hz e1
   simp only[w64s d (by omega),m1,n1]
   by_cases h0:d≤20∧n+1≤200∧l+z≤16
   ·have e0:(decide ((d:Int)≤20)&&decide (((n+1:Nat):Int)≤200)&&decide (((l+z:Nat):Int)≤16))=true:=by
     rw[Bool.and_eq_true,Bool.and_eq_true];refine⟨⟨?_,?_⟩,?_⟩<;>apply decide_eq_true<;>omega
    rw[e0]
    simp only[]
    have t:=zeo th (d+1) (n+1) (l+z) (by omega) (by omega) (by omega)
    by_cases h1:mS th (d+1)≤20∧n+1+nS th≤200∧l+z+wS th≤16
    ·rw[t.1 h1]
     simp only[]
     have u:=zeo el (d+1) (n+1+nS th) (l+z+wS th) (by omega) (by omega) (by omega)
     by_cases h2:mS el (d+1)≤20∧n+1+nS th+nS el≤200∧l+z+wS th+wS el≤16
     ·rw[u.1 h2]
      refine⟨fun _=>?_,fun h=>(h ⟨by omega,by omega,by omega⟩).elim⟩
      rw[show n+1+nS th+nS el=n+(1+nS th+nS el) by omega,show l+z+wS th+wS el=l+(z+wS th+wS el) by omega]
     ·refine⟨fun h=>(h2 ⟨by omega,by omega,by omega⟩).elim,fun _=>u.2 h2⟩
    ·refine⟨fun h=>(h1 ⟨by omega,by omega,by omega⟩).elim,fun _=>?_⟩
     have:=t.2 h1
     generalize yS zgn th _ _=r at this ⊢
     obtain⟨b,s⟩:=r
     simp only at this
     subst this
     rfl
   ·have e0:(decide ((d:Int)≤20)&&decide (((n+1:Nat):Int)≤200)&&decide (((l+z:Nat):Int)≤16))=false:=by
     rw[← Bool.not_eq_true,Bool.and_eq_true,Bool.and_eq_true]
     rintro⟨⟨a1,a2⟩,a3⟩
     have a1:=of_decide_eq_true a1
     have a2:=of_decide_eq_true a2
     have a3:=of_decide_eq_true a3
     exact h0 ⟨by omega,by omega,by omega⟩
    rw[e0]
    exact⟨fun h=>(h0 ⟨by omega,by omega,by omega⟩).elim,fun _=>rfl⟩
theorem zeo:∀ (x:List St) (d n l:Nat),d≤21→n≤200→l≤16 →
 ((mS x d≤20∧n+nS x≤200∧l+wS x≤16)→yS zgn x d ((n:Int),(l:Int))=(true,(((n+nS x:Nat):Int),((l+wS x:Nat):Int)))) ∧
 (¬ (mS x d≤20∧n+nS x≤200∧l+wS x≤16)→(yS zgn x d ((n:Int),(l:Int))).1=false)
 | [],d,n,l,hd,hn,hl=>by
   rw[yS,mS,nS,wS]
   exact⟨fun _=>rfl,fun h=>(h ⟨by omega,by omega,by omega⟩).elim⟩
 | x::r,d,n,l,hd,hn,hl=>by
   rw[yS,mS,nS,wS]
   have t:=zo5 x d n l hd hn hl
   by_cases h1:m1 x d≤20∧n+n1 x≤200∧l+w1 x≤16
   ·rw[t.1 h1]
    simp only[]
    have u:=zeo r d (n+n1 x) (l+w1 x) hd (by omega) (by omega)
    by_cases h2:mS r d≤20∧n+n1 x+nS r≤200∧l+w1 x+wS r≤16
    ·rw[u.1 h2]
     refine⟨fun _=>?_,fun h=>(h ⟨by omega,by omega,by omega⟩).elim⟩
     rw[show n+n1 x+nS r=n+(n1 x+nS r) by omega,show l+w1 x+wS r=l+(w1 x+wS r) by omega]
    ·exact⟨fun h=>(h2 ⟨by omega,by omega,by omega⟩).elim,fun _=>u.2 h2⟩
   ·refine⟨fun h=>(h1 ⟨by omega,by omega,by omega⟩).elim,fun _=>?_⟩
    have:=t.2 h1
    generalize zbo zgn x _ _=r at this ⊢
    obtain⟨b,s⟩:=r
    simp only at this
    subst this
    rfl
end
theorem zm4 (x:List St):(yS zgn x 0 (0,0)).1=(!decide ((200:Int) < nS x) && !decide ((16:Int) < wS x) && !decide ((20:Int) < mS x 0)):=by
 have t:=zeo x 0 0 0 (by omega) (by omega) (by omega)
 rw[show((0:Nat):Int)=0 from rfl]at t
 simp only[Nat.zero_add]at t
 by_cases h:mS x 0≤20∧nS x≤200∧wS x≤16
 ·rw[t.1 h]
  have h1:¬ (200:Int) < nS x:=by omega
  have h2:¬ (16:Int) < wS x:=by omega
  have h3:¬ (20:Int) < mS x 0:=by omega
  simp[h1,h2,h3]
 ·rw[t.2 h]
  symm
  rw[← Bool.not_eq_true,Bool.and_eq_true,Bool.and_eq_true]
  rintro⟨⟨a1,a2⟩,a3⟩
  simp only[Bool.not_eq_true',decide_eq_false_iff_not]at a1 a2 a3
  exact h ⟨by omega,by omega,by omega⟩
theorem zqW (f:Fu):za3 f=!zgv f:=by
 rw[za3,zgv,zbN,zm4,ze7,zdq]
 have h1:decide ((f.params.length:Int)≤6)=!decide ((6:Int) < f.params.length):=by
  by_cases h:(6:Int) < f.params.length
  ·have:¬ (f.params.length:Int)≤6:=by omega
   simp[h,this]
  ·have:(f.params.length:Int)≤6:=by omega
   simp[h,this]
 have h2:decide ((f.locals.length:Int)≤8)=!decide ((8:Int) < f.locals.length):=by
  by_cases h:(8:Int) < f.locals.length
  ·have:¬ (f.locals.length:Int)≤8:=by omega
   simp[h,this]
  ·have:(f.locals.length:Int)≤8:=by omega
   simp[h,this]
 rw[h1,h2]
 simp only[Bool.not_or]
 generalize (!decide ((6:Int) < f.params.length))=a
 generalize (!decide ((8:Int) < f.locals.length))=b
 generalize (!decide ((200:Int) < nS f.body))=c
 generalize (!decide ((16:Int) < wS f.body))=d
 generalize (!decide ((20:Int) < mS f.body 0))=e
 generalize (!j6 f.body)=g
 generalize (!decide ((20:Int) < zau f.value))=h
 cases a<;>cases b<;>cases c<;>cases d<;>cases e<;>cases g<;>cases h<;>rfl
theorem zg4 {α:Type} (l:List α) (p q:α→Bool) (h:∀ x,p x=!q x):l.all p=!l.any q:=by
 induction l with
 | nil=>rfl
 | cons a l ih=>rw[List.all_cons,List.any_cons,Bool.not_or,h,ih]
theorem zuU (p:Pr):zdW p=!exB p:=by
 rw[zdW,exB,zg4 p.funcs za3 zgv zqW,zg4 p.arrays _ exAr (fun a=>by rw[exAr,Bool.not_or])]
 simp only[Bool.not_or]
namespace tyR3d
def tyF:=And.intro @tq2 (And.intro @tq3 (And.intro @tq9 (And.intro @zbc (And.intro @zay (And.intro @zbb (@zbx))))))
end tyR3d
open tyR3d
def wfX (x:Ex):Bool:=
 if x.kind=1 then decide ((x.kids.length:Int)=0)&&decide (x.name=[])&&decide (x.op=0)
 else if x.kind=2 then decide ((x.kids.length:Int)=0)&&decide (x.n=0)&&decide (x.op=0)&&yA x.name
 else if x.kind=3 then decide ((x.kids.length:Int)=1)&&decide (x.n=0)&&decide (x.op=0)&&yA x.name
 else if x.kind=4 then decide (x.n=0)&&decide (x.name=[])&&((decide ((x.kids.length:Int)=2)&&zgp x.op)||(decide ((x.kids.length:Int)=1)&&(decide (x.op=20)||decide (x.op=21))))
 else if x.kind=5 then decide ((x.kids.length:Int)=3)&&decide (x.n=0)&&decide (x.name=[])&&decide (x.op=0)
 else false
mutual
def wfE:Ex→Bool
 | .mk k n s o ks=>zaJ ks&&wfX (.mk k n s o ks)
def zaJ:List Ex→Bool
 | []=>true
 | e::es=>wfE e&&zaJ es
end
theorem zqX (x:Ex):wfE x=(zaJ x.kids&&wfX x):=by cases x;rw[wfE];rfl
theorem zlI (x y:Int) (h:([.int .i64 x]:List AV)=[.int .i64 y]):x=y:=by simpa using h
end Go.Proofs.Ytpbcimfiofmoeaa
namespace Go.Proofs.Ytpbcimfiofmoeaa
set_option maxRecDepth 20000
set_option maxRecDepth 20000
open Go Go.Ab
namespace tyR3e
end tyR3e
open tyR3e
def zik (x:St):Bool:=decide (x.name=[])&&decide (x.to=[])&&decide (x.n=0)&&zeroE x.at_&&decide ((x.args.length:Int)=0)
def zd1 (x:St):Bool:=decide ((x.thn.length:Int)=0)&&decide ((x.els.length:Int)=0)
def zck (x:St):Bool:=
 if x.kind=1 then zd1 x&&yA x.name&&decide (x.to=[])&&decide (x.n=0)&&zeroE x.at_&&decide ((x.args.length:Int)=0)&&wfE x.value
 else if x.kind=2 then zd1 x&&yA x.name&&decide (x.to=[])&&decide (x.n=0)&&wfE x.at_&&decide ((x.args.length:Int)=0)&&wfE x.value
 else if x.kind=3 then zik x&&wfE x.value
 else if x.kind=4 then zik x&&wfE x.value&&decide ((x.els.length:Int)=0)
 else if x.kind=5 then zd1 x&&zik x&&wfE x.value
 else if x.kind=6 then zd1 x&&yA x.name&&yA x.to&&decide (x.n=0)&&zeroE x.at_&&zeroE x.value
 else if x.kind=7 then zd1 x&&decide (x.name=[])&&decide (x.to=[])&&decide (0≤x.n)&&decide (x.n≤1000000)&&zeroE x.at_&&zeroE x.value&&decide ((x.args.length:Int)=0)
 else false
def zbp (x:St):Bool:=zaJ x.args&&zck x
end Go.Proofs.Ytpbcimfiofmoeaa
namespace Go.Proofs.Ytpbcimfiofmoeaa
set_option maxRecDepth 20000
set_option maxRecDepth 20000
open Go Go.Ab
namespace tyR3f
def tyF:=And.intro @tq2 (And.intro @tq3 (And.intro @tq9 (And.intro @zfG (And.intro @zgk (And.intro @zcp (And.intro @zcg (And.intro @zbb (And.intro @zbc (And.intro @zay (And.intro @zfH (And.intro @zbx (@zj7))))))))))))
end tyR3f
open tyR3f
mutual
def ze8:St→Bool
 | .mk k nm to n a v args th el=>zbp (.mk k nm to n a v args th el)&&zaK th&&zaK el
def zaK:List St→Bool
 | []=>true
 | x::l=>ze8 x&&zaK l
end
theorem zep (x:St):ze8 x=(zbp x&&zaK x.thn&&zaK x.els):=by cases x;rw[ze8];rfl
theorem zil:∀ {l:List Ar}{a:Ar},a∈l→a.name.length < zaj l
 | [],_,h=>by simp at h
 | e::es,x,h=>by
   rcases List.mem_cons.1 h with rfl|h
   ·simp only[zaj];omega
   ·have:=zil h;simp only[zaj];omega
def fnNames (f:Fu):List (List UInt8):=[f.name]++f.params++f.locals
def zd2 (f:Fu):Bool:=(fnNames f).all yA&&zaK f.body&&wfE f.value
def wfP (p:Pr):Bool:=p.arrays.all (fun a=>yA a.name)&&p.funcs.all zd2
theorem bsS1 (H:Hp) (s:List UInt8):zB Try.prog H 47 1 [(0,.str s)]=some (.sl H.next 0 1 1,H.alloc (.cells [.str s] 0 true)):=by kernel_rfl
end Go.Proofs.Ytpbcimfiofmoeaa
namespace Go.Proofs.Ytpbcimfiofmoeaa
set_option maxRecDepth 20000
set_option maxRecDepth 20000
open Go Go.Ab
namespace tyR3g
end tyR3g
open tyR3g
def zO:List (List UInt8)→List (List UInt8)→Bool
 | _,[]=>false
 | seen,s::l=>yC seen s||zO (seen++[s]) l
def zim (an:List (List UInt8)):List (List UInt8)→List Fu→Bool
 | _,[]=>false
 | seen,f::fs=>yC seen f.name||zO an (f.params++f.locals)||zim an (seen++[f.name]) fs
def zD (p:Pr):List (List UInt8):=p.arrays.map (·.name)
def zgw (p:Pr):Bool:=zO [] (zD p)||zim (zD p) [] p.funcs
end Go.Proofs.Ytpbcimfiofmoeaa
namespace Go.Proofs.Ytpbcimfiofmoeaa
set_option maxRecDepth 20000
set_option maxRecDepth 20000
open Go Go.Ab
namespace tyR3h
end tyR3h
open tyR3h
structure Sc where
 vars:List (List UInt8)
 arrays:Option (List (List UInt8))
 p:Pr
def Sc.an (x:Sc):List (List UInt8):=x.arrays.getD []
def orowA:Option (List (List UInt8))→AV
 | none=>.nilS
 | some l=>jg l
def Sc.cells (x:Sc):List AV:=[jg x.vars,orowA x.arrays,.lst (x.p.arrays.map Ar.cells),.lst (x.p.funcs.map Fu.cells)]
theorem Sc.whole (x:Sc):yV 4 x.cells=some (.agg x.cells):=rfl
theorem zuV (x:Sc):yV 2 (x.cells.drop 2)=some (.agg x.p.cells):=rfl
section
variable (vs an:List (List UInt8))
def zcq (x:Ex):Bool:=(!decide (x.kind=2)||yC vs x.name)&&(!decide (x.kind=3)||yC an x.name)
mutual
def zaw:Ex→Bool
 | .mk k n s o ks=>jS ks&&zcq vs an (.mk k n s o ks)
def jS:List Ex→Bool
 | []=>true
 | e::es=>zaw e&&jS es
end
theorem zn2 (x:Ex):zaw vs an x=(jS vs an x.kids&&zcq vs an x):=by cases x;rw[zaw];rfl
end
def zak (c:Sc) (x:St):Bool:=
 if x.kind=1 then yC c.vars x.name
 else if x.kind=6 then yC c.vars x.name&&decide (0≤yn c.p.funcs x.to 0)
 else if x.kind=2 then yC c.an x.name
 else true
def zcl (c:Sc) (x:St):Bool:=jS c.vars c.an x.args&&zaw c.vars c.an x.at_&&zaw c.vars c.an x.value&&zak c x
end Go.Proofs.Ytpbcimfiofmoeaa
namespace Go.Proofs.Ytpbcimfiofmoeaa
set_option maxRecDepth 20000
set_option maxRecDepth 20000
open Go Go.Ab
namespace tyR3i
def tyF:=And.intro @tq3 (And.intro @tq9 (And.intro @zfG (And.intro @zgk (And.intro @zcp (And.intro @zcg (And.intro @zbb (And.intro @zbc (And.intro @zay (And.intro @zfH (And.intro @zbx (And.intro @tq147 (And.intro @zuV (@Sc.whole)))))))))))))
end tyR3i
open tyR3i
def zi4 (p:Pr) (s:List UInt8):Nat:=((p.funcs[(yn p.funcs s 0).toNat]?).map fun f=>f.params.length).getD 0
def arK (p:Pr) (x:St):Bool:=!(decide (x.kind=6) && !decide ((x.args.length:Int)=zi4 p x.to))
section
variable (c:Sc)
mutual
def zbA (b:Bool):St→Bool
 | .mk k nm to n a v args th el=>(bif b then arK c.p (.mk k nm to n a v args th el)else zcl c (.mk k nm to n a v args th el))&&je b th&&je b el
def je (b:Bool):List St→Bool
 | []=>true
 | x::l=>zbA b x&&je b l
end
theorem zkf (b:Bool) (x:St):zbA c b x=((bif b then arK c.p x else zcl c x)&&je c b x.thn&&je c b x.els):=by cases x;rw[zbA];rfl
end
section
variable (p:Pr)
end
theorem zlJ:∀ (l:List Fu) (s:List UInt8) (i:Nat),0≤yn l s i→∃ k,k < l.length∧yn l s i=((i+k:Nat):Int)
 | [],s,i,h=>by simp[yn]at h
 | f::l,s,i,h=>by
   simp only[yn]at h ⊢
   split
   ·exact⟨0,by simp,by simp⟩
   ·rename_i hn
    rw[if_neg hn]at h
    obtain⟨k,h1,h2⟩:=zlJ l s (i+1) (by exact h)
    exact⟨k+1,by simpa using h1,by rw[show((i:Int)+1)=((i+1:Nat):Int) by omega,h2];omega⟩
end Go.Proofs.Ytpbcimfiofmoeaa
namespace Go.Proofs.Ytpbcimfiofmoeaa
set_option maxRecDepth 20000
set_option maxRecDepth 20000
open Go Go.Ab
namespace tyR3j
end tyR3j
open tyR3j
def j7 (p:Pr) (f:Fu):Sc:=⟨f.params++f.locals,some (zD p),p⟩
def zbS (p:Pr) (f:Fu):Bool:=!(je (j7 p f) false f.body&&zaw (j7 p f).vars (j7 p f).an f.value)
def zcD (p:Pr) (f:Fu):Bool:=!je (j7 p f) true f.body
def yH (p:Pr):Int:=if exB p=true then 6 else if wfP p=false then 2 else if zgw p=true then 4 else if p.funcs.any (zbS p)=true then 3 else if p.funcs.any (zcD p)=true then 5 else 0
end Go.Proofs.Ytpbcimfiofmoeaa
namespace Go.Ab
set_option maxRecDepth 20000
open Go
def shrI (k:IntKind) (a b:Int):Int:=a.fdiv (2 ^ min b.toNat k.bits)
theorem bin_shr {P:Program}{D:BinOp→Sx→Sx→Option Bool}{t:TypeId}{k k':IntKind}{a b:Int} (hb:0≤b):jB P D .shr t (.int k a) (.int k' b)=some (.int k (shrI k a b)):=by
 obtain⟨m,rfl⟩:=Int.eq_ofNat_of_zero_le hb
 simp only[jB,zbE]
 show zf5 .shr k a (Int.ofNat m)=_
 simp[zf5,shrI]
abbrev Nm:=List UInt8
def lkV:List (Nm×Int)→Nm→Int
 | [],_=>0
 | p::l,nm=>if nm=p.1 then p.2 else lkV l nm
def setV:List (Nm×Int)→Nm→Int→List (Nm×Int)
 | [],nm,x=>[(nm,x)]
 | p::l,nm,x=>if nm=p.1 then (nm,x)::l else p::setV l nm x
section
variable (p:Pr) (fi:List (Nm × Int))
end
def vEs (vs:List (Nm×Int)):List (AV×AV):=vs.map fun p=>(.str p.1,.int .i64 p.2)
def cEs:List (Nm×List Int)→List Nat→List (AV×AV)
 | p::l,r::rs=>(.str p.1,.sl r 0 p.2.length 1)::cEs l rs
 | _,_=>[]
theorem zin (nm:Nm):∀ (vs:List (Nm×Int)) (i:Nat),(jn .string (.str nm) (vEs vs) i=some none∧lkV vs nm=0∧∀ x,vEs (setV vs nm x)=vEs vs++[(.str nm,.int .i64 x)]) ∨
 ∃ j,j < vs.length∧jn .string (.str nm) (vEs vs) i=some (some (i+j,.int .i64 (lkV vs nm)))∧∀ x,vEs (setV vs nm x)=(vEs vs).set j (.str nm,.int .i64 x)
 | [],i=>.inl ⟨rfl,rfl,fun _=>rfl⟩
 | p::l,i=>by
   by_cases h:nm=p.1
   ·refine .inr ⟨0,by simp,?_,fun x=>?_⟩
    ·simp[vEs,jn,zhd,lkV,h]
    ·simp[vEs,setV,h]
   ·have hf:jn .string (.str nm) (vEs (p::l)) i=jn .string (.str nm) (vEs l) (i+1):=by
     show jn .string (.str nm) ((.str p.1,.int .i64 p.2)::vEs l) i=_
     have:(nm == p.1)=false:=by simpa using h
     simp[jn,zhd,this]
    have hl:lkV (p::l) nm=lkV l nm:=by simp[lkV,h]
    have hs:∀ x,vEs (setV (p::l) nm x)=(.str p.1,.int .i64 p.2)::vEs (setV l nm x):=fun x=>by simp[setV,h,vEs]
    rw[hf,hl]
    rcases zin nm l (i+1)with ⟨h1,h2,h3⟩|⟨j,hj,h1,h3⟩
    ·refine .inl ⟨h1,h2,fun x=>?_⟩
     rw[hs,h3];simp[vEs]
    ·refine .inr ⟨j+1,by simp;omega,?_,fun x=>?_⟩
     ·rw[h1,show i+1+j=i+(j+1) by omega]
     ·rw[hs,h3];simp[vEs]
end Go.Ab
