/- Parts: R3a, Strs, AbWk, AbCut, AbIc, Ints, Bytes, SpecI, SpecR, R3b, I1, I2, V1, EnX. -/
import Derived.Test.YtpbcimfiofmoeaaSLG
set_option linter.unusedSimpArgs false
set_option linter.unusedVariables false
set_option linter.unusedSectionVars false
set_option linter.defProp false
set_option maxHeartbeats 32000000
namespace Go.Proofs.Ytpbcimfiofmoeaa
set_option maxRecDepth 20000
set_option maxRecDepth 20000
open Go Go.Ab
namespace tyR3a
def tyF:=And.intro @tq5 (And.intro @tq3 (And.intro @tq9 (And.intro @tq47 (And.intro @tq32 (And.intro @tq40 (And.intro @tq42 (And.intro @tq48 (And.intro @tq51 (And.intro @tq53 (And.intro @tq2 (@tq49)))))))))))
end tyR3a
open tyR3a
theorem plain0 (f:FuncId):Plain (cfgN pls []) f:=⟨fun _=>rfl,rfl,rfl⟩
theorem plainN {l:List En} {f:FuncId} (h1:∀ args,lookN l f args=none) (h2:iceN l f=false):Plain (cfgN pls l) f:=⟨h1,h2,rfl⟩
def hasS (l:List (List UInt8)) (s:List UInt8):Bool:=l.any fun x=>decide (x=s)
def isBinB (op:Int):Bool:=decide (4 ≤ op) && decide (op ≤ 18)
def zeroE (x:Ex):Bool:=decide (x.kind=0) && decide (x.n=0) && decide (x.name=[]) && decide (x.op=0) && decide (x.kids.length=0)
def findF:List Fu → List UInt8 → Int → Int
 | [],_,_=>-1
 | f :: l,s,i=>if f.name=s then i else findF l s (i + 1)
def bsE (s:List UInt8):List AV:=[.str s]
theorem bsE_inj (x y:List UInt8) (h:bsE x=bsE y):x=y:=by simpa [bsE] using h
end Go.Proofs.Ytpbcimfiofmoeaa
namespace Go.Proofs.Ytpbcimfiofmoeaa
set_option maxRecDepth 20000
open Go Go.Ab
def StrB (H:Hp) (v:AV) (l:List (List UInt8)) (lo:Nat):Prop:=∃ r imm,v=.sl r 0 l.length 1 ∧ H.get r=some (.cells (l.map .str) imm true) ∧ imm ≤ l.length ∧ lo ≤ r ∧ r < H.next
def StrN (H:Hp) (v:AV) (l:List (List UInt8)) (lo:Nat):Prop:=(v=.nilS ∧ l=[]) ∨ StrB H v l lo
theorem StrB.low {H H':Hp} {v:AV} {l:List (List UInt8)} {lo:Nat} (h:StrB H v l lo) (hn:H.next ≤ H'.next) (hg:∀ k,lo ≤ k → k < H.next → H'.get k=H.get k):StrB H' v l lo:=by
 obtain ⟨r,imm,h1,h2,h3,h4,h5⟩:=h
 exact ⟨r,imm,h1,by rw [hg r h4 h5];exact h2,h3,h4,by omega⟩
def ownS (v:AV) (k:Nat):Prop:=∃ n,v=.sl k 0 n 1
def OwnFr (v v':AV) (H H':Hp):Prop:=(∀ k,k < H.next → ¬ ownS v k → H'.get k=H.get k) ∧ ∀ k,ownS v' k → ownS v k ∨ H.next ≤ k
theorem StrB.lt {H:Hp} {v:AV} {l:List (List UInt8)} {lo:Nat} (h:StrB H v l lo) {k:Nat} (hk:ownS v k):lo ≤ k ∧ k < H.next:=by
 obtain ⟨r,imm,rfl,_,_,h4,h5⟩:=h
 obtain ⟨n,e⟩:=hk
 simp only [AV.sl.injEq] at e
 rw [← e.1];exact ⟨h4,h5⟩
theorem StrN.lt {H:Hp} {v:AV} {l:List (List UInt8)} {lo:Nat} (h:StrN H v l lo) {k:Nat} (hk:ownS v k):lo ≤ k ∧ k < H.next:=by
 rcases h with ⟨rfl,_⟩|h
 · obtain ⟨n,e⟩:=hk;simp at e
 · exact h.lt hk
theorem StrB.keep {H H':Hp} {v:AV} {l:List (List UInt8)} {lo:Nat} (h:StrB H v l lo) (hn:H.next ≤ H'.next) (hg:∀ k,ownS v k → H'.get k=H.get k):StrB H' v l lo:=by
 obtain ⟨r,imm,rfl,h2,h3,h4,h5⟩:=h
 exact ⟨r,imm,rfl,by rw [hg r ⟨_,rfl⟩];exact h2,h3,h4,by omega⟩
theorem StrN.keep {H H':Hp} {v:AV} {l:List (List UInt8)} {lo:Nat} (h:StrN H v l lo) (hn:H.next ≤ H'.next) (hg:∀ k,ownS v k → H'.get k=H.get k):StrN H' v l lo:=h.imp id fun h=>h.keep hn hg
theorem strs_one (l:List (List UInt8)):(l.map AV.str).all AV.one=true:=by simp [AV.one]
theorem src_own {H:Hp} {r imm:Nat} {m:List (List UInt8)} (h:H.get r=some (.cells (m.map .str) imm true)):srcCells H 1 (.sl r 0 m.length 1)=some (m.length,m.map .str):=by
 have:=src_sl (H:=H) (r:=r) (o:=0) (n:=m.length) (z:=1) (s:=1) h (by simp)
 rw [this,List.drop_zero,List.take_of_length_le (by simp)]
theorem app_gen {H : Hp} {v x : AV} {l m : List (List UInt8)} {lo : Nat} (hv : StrN H v l lo) (hlo : lo ≤ H.next) (hx : srcCells H 1 x = some (m.length, m.map .str)) (hm : m ≠ []) (hb : l.length + m.length < 2 ^ 40) :
    ∃ v' H',appendA Try.prog false H 47 47 v x=some (v',H') ∧ StrB H' v' (l ++ m) lo ∧ H'.next=H.next + 1 ∧ (∀ k,k < lo → H'.get k=H.get k) ∧ OwnFr v v' H H':=by
  obtain ⟨n,hn⟩:∃ n,m.length=n + 1:=⟨m.length - 1,by have:=List.length_pos_iff.2 hm;omega⟩
  have hmr:maxRoom=70368744177664:=rfl
  rw [hn] at hx
  rcases hv with ⟨rfl,rfl⟩|⟨r,imm,rfl,h2,h3,h4,h5⟩
  · refine ⟨.sl H.next 0 (n + 1) 1, H.alloc (.cells (m.map .str) 0 true), append_nil Try.underlying47 sz9 bt9 zr9 (by kernel_rfl) hx (strs_one m) rfl (by rw [hmr]; omega) (by rw [hmr]; omega), ⟨H.next, 0, by simp [hn], by rw [Hp.get_alloc, if_pos rfl]; rfl, by omega, hlo, Nat.lt_succ_self _⟩, rfl, fun k hk => by rw [Hp.get_alloc, if_neg (by omega)], fun k hk _ => by rw [Hp.get_alloc, if_neg (by omega)], fun k hk => .inr ?_⟩
    obtain ⟨n',e⟩:=hk
    simp only [AV.sl.injEq] at e
    omega
  · have htr : trimA false H 1 (.sl r 0 l.length 1) = H := by
      unfold trimA
      simp only [h2,Nat.zero_add,List.length_map,Nat.mul_one]
      have:Nat.blt l.length l.length=false:=by
        cases hb:Nat.blt l.length l.length with
        | false=>rfl
        | true=>rw [Nat.blt_eq] at hb;omega
      simp [this]
    refine ⟨.sl H.next 0 (l.length + (n + 1)) 1,(H.kill r).alloc (.cells (l.map .str ++ m.map .str) (imm - 0) true),?_,⟨H.next,imm,by simp [hn],?_,by simp;omega,hlo,Nat.lt_succ_self _⟩,rfl,fun k hk=>?_,fun k hk hno=>?_,fun k hk=>.inr ?_⟩
    · simp only [appendA, Try.underlying47, sz9, bt9, zr9, show srcType Try.prog 47 = true by kernel_rfl, hx, strs_one, htr, and_self, if_true, List.length_cons, List.length_nil, appendOnto, h2, List.length_map, Nat.zero_add, Nat.mul_one, List.drop_zero]
      rw [if_pos ⟨by rw [hmr];omega,by rw [hmr];omega,trivial,trivial,h3⟩]
      simp
    · show ((H.kill r).alloc _).get (H.kill r).next = _
      rw [Hp.get_alloc,if_pos rfl];simp
    · rw [Hp.get_alloc,if_neg (by simp only [Hp.next_kill];omega),Hp.get_kill,if_neg (by omega)]
    · rw [Hp.get_alloc,if_neg (by simp only [Hp.next_kill];omega),Hp.get_kill,if_neg (fun e=>hno ⟨_,by rw [e]⟩)]
    · obtain ⟨n', e⟩ := hk
      simp only [AV.sl.injEq] at e
      omega
theorem app_one {H:Hp} {v:AV} {l:List (List UInt8)} {lo r imm:Nat} (s:List UInt8) (hv:StrN H v l lo) (hlo:lo ≤ H.next) (hs:H.get r=some (.cells [.str s] imm true)) (hb:l.length < 2 ^ 39) :
   ∃ v' H',appendA Try.prog false H 47 47 v (.sl r 0 1 1)=some (v',H') ∧ StrB H' v' (l ++ [s]) lo ∧ H'.next=H.next + 1 ∧ (∀ k,k < lo → H'.get k=H.get k) ∧ OwnFr v v' H H':=
 app_gen hv hlo (src_own (m:=[s]) hs) (by simp) (by simp;omega)
theorem chunk_one (l:List (List UInt8)):chunk 1 l.length (l.map .str)=l.map fun s=>[AV.str s]:=by
 induction l with
 | nil=>rfl
 | cons a l ih=>simp [chunk,ih]
end Go.Proofs.Ytpbcimfiofmoeaa
namespace Go.Ab
set_option maxRecDepth 20000
open Go
def wkN : Nat → AV → AV
 | 0,v=>v
 | n + 1, v => match v with
   | .nilS=>.lst []
   | .lst xs=>.lst (xs.map fun row=>row.map (wkN n))
   | .agg cs=>.agg (cs.map (wkN n))
   | .tup cs=>.tup (cs.map (wkN n))
   | v=>v
theorem VR.wk {G : Gh} : ∀ (n : Nat) {v : AV} {x : Value}, VR G v x → VR G (wkN n v) x
  | 0,_,_,h=>h
  | n + 1, v, x, h => by
    cases h with
    | nilS=>exact .lst0 _ _
    | lst vs hz hF hv hc =>
      rename_i xs b o cap z
      have:=VR.lst (G:=G) (xs:=xs.map fun row=>row.map (wkN n)) (b:=b) (o:=o) (cap:=cap) (z:=z) vs ?_ ?_ ?_ ?_
      · rw [List.length_map] at this;exact this
      · intro i row hr
        rw [List.getElem?_map] at hr
        cases hx:xs[i]? with
        | none=>rw [hx] at hr;simp at hr
        | some r0=>rw [hx] at hr;simp only [Option.map_some,Option.some.injEq] at hr;rw [← hr,List.length_map];exact hz i r0 hx
      · intro i j hi hj;rw [List.length_map] at hi;exact hF i j hi hj
      · intro i j row c hr hc2
        rw [List.getElem?_map] at hr
        cases hx:xs[i]? with
        | none=>rw [hx] at hr;simp at hr
        | some r0 =>
          rw [hx] at hr;simp only [Option.map_some,Option.some.injEq] at hr
          rw [← hr,List.getElem?_map] at hc2
          cases hy:r0[j]? with
          | none=>rw [hy] at hc2;simp at hc2
          | some c0=>rw [hy] at hc2;simp only [Option.map_some,Option.some.injEq] at hc2;rw [← hc2];exact VR.wk n (hv i j r0 c0 hx hy)
      · rw [List.length_map];exact hc
    | lst0 a cap=>exact .lst0 a cap
    | agg hl hv =>
      refine .agg (by rw [List.length_map];exact hl) fun i c v hc hv2=>?_
      rw [List.getElem?_map] at hc
      rename_i cs vs
      cases hy:cs[i]? with
      | none=>rw [hy] at hc;simp at hc
      | some c0=>rw [hy] at hc;simp only [Option.map_some,Option.some.injEq] at hc;rw [← hc];exact VR.wk n (hv i c0 v hy hv2)
    | tup hl hv =>
      refine .tup (by rw [List.length_map];exact hl) fun i c v hc hv2=>?_
      rw [List.getElem?_map] at hc
      rename_i cs vs
      cases hy:cs[i]? with
      | none=>rw [hy] at hc;simp at hc
      | some c0=>rw [hy] at hc;simp only [Option.map_some,Option.some.injEq] at hc;rw [← hc];exact VR.wk n (hv i c0 v hy hv2)
    | int k m=>exact .int k m
    | sx k e=>exact .sx k e
    | bool b=>exact .bool b
    | str s l h=>exact .str s l h
    | nilP=>exact .nilP
    | nilM=>exact .nilM
    | nilF=>exact .nilF
    | ptr h=>exact .ptr h
    | iptr vs hF hv=>exact .iptr vs hF hv
    | sl h hl hc=>exact .sl h hl hc
    | map h=>exact .map h
    | clo hl hv=>exact .clo hl hv
theorem Con.wk {P:Program} {ρ:Nat → Int} {f:FuncId} {args:List AV} {r:AV} (n:Nat) (h:Con P ρ f args r):Con P ρ f args (wkN n r):=
 ⟨h.1,fun G w vs h1 h2 h3=>(h.2 G w vs h1 h2 h3).mono fun _ _ ⟨v,F1,h4,h5,h6⟩=>⟨v,F1,h4,h5.wk n,h6⟩⟩
theorem Con.wk' {P:Program} {ρ:Nat → Int} {f:FuncId} {args:List AV} {r r':AV} (n:Nat) (h:Con P ρ f args r) (e:wkN n r=r'):Con P ρ f args r':=e ▸ h.wk n
end Go.Ab
namespace Go.Ab
set_option maxRecDepth 20000
open Go
variable {P:Program} {cfg:Cfg} {f N:Nat}
theorem Wp.fresh {c:SC} {E:Env} {H:Hp} {Q:AX → Env → Hp → Prop} (cs:List Nat) (h:∀ E':Env,(∀ k ∈ cs,E'.at k=E.at k) → Wp P cfg f N c E' H Q):Wp P cfg f N c E H Q:=h E fun _ _=>rfl
end Go.Ab
namespace Go.Ab
set_option maxRecDepth 20000
open Go
def All2 {α β:Type} (p:α → β → Prop):List α → List β → Prop
 | [],[]=>True
 | a :: l,b :: m=>p a b ∧ All2 p l m
 | _,_=>False
theorem All2.len {α β:Type} {p:α → β → Prop}:∀ {l:List α} {m:List β},All2 p l m → l.length=m.length
 | [],[],_=>rfl
 | _ :: _,_ :: _,h=>by simp only [List.length_cons,All2.len h.2]
theorem All2.mono {α β:Type} {p q:α → β → Prop} (h:∀ a b,p a b → q a b):∀ {l:List α} {m:List β},All2 p l m → All2 q l m
 | [],[],_=>trivial
 | _ :: _,_ :: _,k=>⟨h _ _ k.1,All2.mono h k.2⟩
theorem All2.append {α β:Type} {p:α → β → Prop}:∀ {l:List α} {m:List β} {l':List α} {m':List β},All2 p l m → All2 p l' m' → All2 p (l ++ l') (m ++ m')
 | [],[],_,_,_,h=>h
 | _ :: _,_ :: _,_,_,h,k=>⟨h.1,All2.append h.2 k⟩
theorem All2.refl {α:Type} {p:α → α → Prop}:∀ {l:List α},(∀ a ∈ l,p a a) → All2 p l l
 | [],_=>trivial
 | a :: l,h=>⟨h a List.mem_cons_self,All2.refl fun b hb=>h b (List.mem_cons_of_mem _ hb)⟩
def flatA (v:AV):Prop:=PureA v ∧ match v with
 | .sl _ _ _ _|.agg _=>False
 | _=>True
def Ic (S : Nat → Prop) : Nat → Hp → AV → AV → Prop
 | 0,_,_,_=>False
 | n + 1, H, v, u => match v with
   | .sl r off len z=>S r ∧ r < H.next ∧ ∃ cs imm tip l,H.get r=some (.cells cs imm tip) ∧ imm ≤ cs.length ∧ off + len * z ≤ cs.length ∧ All2 (Ic S n H) ((cs.drop off).take (len * z)) l ∧ u=.lst (chunk z len l)
   | .agg cs=>∃ ds,All2 (Ic S n H) cs ds ∧ u=.agg ds
   | v=>PureA v ∧ u=v
theorem Ic.flat {S:Nat → Prop} {n:Nat} {H:Hp} {v:AV} (h:flatA v):Ic S (n + 1) H v v:=by
 cases v <;> first|exact h.2.elim|exact ⟨h.1,rfl⟩
theorem Ic.up {S:Nat → Prop} {H:Hp}:∀ {n m:Nat} {v u:AV},Ic S n H v u → n ≤ m → Ic S m H v u
 | 0,_,_,_,h,_=>h.elim
 | n + 1,0,_,_,_,hm=>by omega
 | n + 1, m + 1, v, u, h, hm => by
   cases v with
   | sl r off len z =>
     obtain ⟨h1,h0,cs,imm,tip,l,h2,h3,h4,h5,h6⟩:=h
     exact ⟨h1,h0,cs,imm,tip,l,h2,h3,h4,h5.mono fun a b k=>Ic.up k (by omega),h6⟩
   | agg cs =>
     obtain ⟨ds,h1,h2⟩:=h
     exact ⟨ds,h1.mono fun a b k=>Ic.up k (by omega),h2⟩
   | _=>exact h
def SameB (a b:Option HB):Prop:=a=b ∨ ∃ cs i j tip,a=some (.cells cs i tip) ∧ b=some (.cells cs j tip) ∧ (i ≤ cs.length → j ≤ cs.length)
theorem SameB.trans {a b c:Option HB} (h:SameB a b) (k:SameB b c):SameB a c:=by
 rcases h with rfl|⟨cs,i,j,tip,rfl,rfl,h⟩
 · exact k
 · rcases k with rfl | ⟨cs', i', j', tip', e, rfl, k⟩
   · exact .inr ⟨cs,i,j,tip,rfl,rfl,h⟩
   · simp only [Option.some.injEq, HB.cells.injEq] at e
     obtain ⟨rfl,rfl,rfl⟩:=e
     exact .inr ⟨cs,i,j',tip,rfl,rfl,fun q=>k (h q)⟩
theorem Ic.frame2 {S S' : Nat → Prop} {H H' : Hp} (hS : ∀ k, k < H.next → S k → S' k) (hn : H.next ≤ H'.next) (hf : ∀ k, S k → k < H.next → SameB (H.get k) (H'.get k)) : ∀ {n : Nat} {v u : AV}, Ic S n H v u → Ic S' n H' v u
  | 0,_,_,h=>h.elim
  | n + 1, v, u, h => by
    cases v with
    | sl r off len z =>
      obtain ⟨h1,h0,cs,imm,tip,l,h2,h3,h4,h5,h6⟩:=h
      have h5':=h5.mono fun a b k=>Ic.frame2 hS hn hf k
      rcases hf r h1 h0 with e|⟨cs',i,j,tip',e1,e2,e3⟩
      · exact ⟨hS r h0 h1,by omega,cs,imm,tip,l,by rw [← e];exact h2,h3,h4,h5',h6⟩
      · rw [h2] at e1
        simp only [Option.some.injEq,HB.cells.injEq] at e1
        obtain ⟨rfl,rfl,rfl⟩:=e1
        exact ⟨hS r h0 h1,by omega,cs,j,tip,l,e2,e3 h3,h4,h5',h6⟩
    | agg cs =>
      obtain ⟨ds,h1,h2⟩:=h
      exact ⟨ds,h1.mono fun a b k=>Ic.frame2 hS hn hf k,h2⟩
    | _=>exact h
theorem Ic.frame {S S':Nat → Prop} (hS:∀ k,S k → S' k) {H H':Hp} (hn:H.next ≤ H'.next) (hf:∀ k,S k → k < H.next → SameB (H.get k) (H'.get k)) {n:Nat} {v u:AV} (h:Ic S n H v u):Ic S' n H' v u:=h.frame2 (fun k _ q=>hS k q) hn hf
structure Icy (S:Nat → Prop) (H H':Hp):Prop where
 next:H'.next=H.next
 out:∀ k,¬ S k → H'.get k=H.get k
 same:∀ k,SameB (H.get k) (H'.get k)
theorem Icy.refl (S:Nat → Prop) (H:Hp):Icy S H H:=⟨rfl,fun _ _=>rfl,fun _=>.inl rfl⟩
theorem Icy.trans {S:Nat → Prop} {a b c:Hp} (h:Icy S a b) (k:Icy S b c):Icy S a c:=⟨k.next.trans h.next,fun r hr=>(k.out r hr).trans (h.out r hr),fun r=>(h.same r).trans (k.same r)⟩
theorem Icy.ic {S S':Nat → Prop} {H H':Hp} (h:Icy S H H') {n:Nat} {v u:AV} (k:Ic S' n H v u):Ic S' n H' v u:=k.frame (fun _ q=>q) (Nat.le_of_eq h.next.symm) fun r _ _=>h.same r
theorem iceHL_all {S:Nat → Prop} {n:Nat} (ih:∀ {v u:AV} {H:Hp},Ic S n H v u → ∃ H',iceH n v H=some (u,H') ∧ Icy S H H'):∀ {l m:List AV} {H:Hp},All2 (Ic S n H) l m → ∃ H',iceHL (iceH n) l H=some (m,H') ∧ Icy S H H'
 | [],[],H,_=>⟨H,rfl,Icy.refl S H⟩
 | a :: l, b :: m, H, h => by
   obtain ⟨H1,h1,h2⟩:=ih h.1
   obtain ⟨H2,h3,h4⟩:=iceHL_all ih (l:=l) (m:=m) (H:=H1) (h.2.mono fun a b k=>h2.ic k)
   exact ⟨H2,by simp only [iceHL,h1,h3],h2.trans h4⟩
theorem Ic.ice {S : Nat → Prop} : ∀ {n : Nat} {v u : AV} {H : Hp}, Ic S n H v u → ∃ H', iceH n v H = some (u, H') ∧ Icy S H H'
  | 0,_,_,_,h=>h.elim
  | n + 1, v, u, H, h => by
    cases v with
    | sl r off len z =>
      obtain ⟨h1,h0,cs,imm,tip,l,h2,h3,h4,h5,rfl⟩:=h
      have hset:Icy S H (H.set r (.cells cs (max imm (off + len * z)) tip)):=by
        refine ⟨rfl,fun k hk=>by rw [Hp.get_set,if_neg (fun e=>hk (by rw [e];exact h1))],fun k=>?_⟩
        rw [Hp.get_set]
        split
        · rename_i e;subst e;exact .inr ⟨cs,imm,max imm (off + len * z),tip,h2,rfl,fun _=>by omega⟩
        · exact .inl rfl
      obtain ⟨H',h6,h7⟩:=iceHL_all (fun k=>Ic.ice k) (h5.mono fun a b k=>hset.ic k)
      refine ⟨H',?_,hset.trans h7⟩
      have e:iceH (n + 1) (.sl r off len z) H=match H.get r with
        | some (.cells cs imm tip) => match Nat.ble (off + len * z) cs.length && Nat.ble imm cs.length with
          | true => match iceHL (iceH n) ((cs.drop off).take (len * z)) (H.set r (.cells cs (max imm (off + len * z)) tip)) with
            | some (l',H)=>some (.lst (chunk z len l'),H)
            | none=>none
          | false=>none
        | _=>none:=rfl
      rw [e,h2]
      have e1:Nat.ble (off + len * z) cs.length=true:=by rw [Nat.ble_eq];exact h4
      have e2:Nat.ble imm cs.length=true:=by rw [Nat.ble_eq];exact h3
      simp only [e1,e2,Bool.and_self,h6]
    | agg cs =>
      obtain ⟨ds,h1,rfl⟩:=h
      obtain ⟨H',h2,h3⟩:=iceHL_all (fun k=>Ic.ice k) h1
      refine ⟨H',?_,h3⟩
      have e:iceH (n + 1) (.agg cs) H=match iceHL (iceH n) cs H with
        | some (ds,H)=>some (.agg ds,H)
        | none=>none:=rfl
      rw [e,h2]
    | ptr r o =>
      obtain ⟨k,hk⟩:=h.1
      exact absurd (hk (k + 1) (by omega) H) (by simp [iceV])
    | map r =>
      obtain ⟨k,hk⟩:=h.1
      exact absurd (hk (k + 1) (by omega) H) (by simp [iceV])
    | _=>exact ⟨H,by rw [show u=_ from h.2];rfl,Icy.refl S H⟩
theorem Ic.iceL {S:Nat → Prop} {n:Nat} {l m:List AV} {H:Hp} (h:All2 (Ic S n H) l m):∃ H',iceHL (iceH n) l H=some (m,H') ∧ Icy S H H':=iceHL_all (fun k=>Ic.ice k) h
theorem chunk_rows (z:Nat):∀ (rows:List (List AV)),(∀ r ∈ rows,r.length=z) → chunk z rows.length rows.flatten=rows
 | [],_=>rfl
 | r :: rows, h => by
   have h1:=h r List.mem_cons_self
   rw [List.flatten_cons,List.length_cons]
   show (r ++ rows.flatten).take z :: chunk z rows.length ((r ++ rows.flatten).drop z)=_
   rw [List.take_append_of_le_length (by omega),List.take_of_length_le (by omega),List.drop_append_of_le_length (by omega),List.drop_of_length_le (by omega),List.nil_append,chunk_rows z rows fun q hq=>h q (List.mem_cons_of_mem _ hq)]
theorem rows_len {z:Nat}:∀ {rows:List (List AV)},(∀ r ∈ rows,r.length=z) → rows.flatten.length=rows.length * z
 | [],_=>by simp
 | r :: rows, h => by
   rw [List.flatten_cons,List.length_append,h r List.mem_cons_self,rows_len fun q hq=>h q (List.mem_cons_of_mem _ hq),List.length_cons,Nat.succ_mul];omega
theorem All2.flat {p:AV → AV → Prop}:∀ {a b:List (List AV)},All2 (All2 p) a b → All2 p a.flatten b.flatten
 | [],[],_=>trivial
 | _ :: _,_ :: _,h=>by rw [List.flatten_cons,List.flatten_cons];exact h.1.append (All2.flat h.2)
theorem All2.rowlen {p:AV → AV → Prop} {z:Nat}:∀ {a b:List (List AV)},All2 (All2 p) a b → (∀ r ∈ a,r.length=z) → ∀ r ∈ b,r.length=z
 | [],[],_,_,r,hr=>by simp at hr
 | x :: a, y :: b, h, hz, r, hr => by
   rcases List.mem_cons.1 hr with rfl|hr
   · rw [← h.1.len];exact hz x List.mem_cons_self
   · exact All2.rowlen h.2 (fun q hq=>hz q (List.mem_cons_of_mem _ hq)) r hr
theorem Ic.rows {S:Nat → Prop} {n:Nat} {H:Hp} {r z imm:Nat} {tip:Bool} {a b:List (List AV)} (hS:S r) (hr:r < H.next) (hg:H.get r=some (.cells a.flatten imm tip)) (hi:imm ≤ a.flatten.length) (hz:∀ x ∈ a,x.length=z) (h:All2 (All2 (Ic S n H)) a b):Ic S (n + 1) H (.sl r 0 a.length z) (.lst b):=by
 have hl:=rows_len hz
 refine ⟨hS,hr,a.flatten,imm,tip,b.flatten,hg,hi,by omega,?_,?_⟩
 · rw [List.drop_zero,List.take_of_length_le (by omega)];exact h.flat
 · rw [h.len,chunk_rows z b (h.rowlen hz)]
theorem VRs.wk {G:Gh} (n:Nat):∀ {args:List AV} {vs:List Value},VRs G args vs → VRs G (args.map (wkN n)) vs
 | [],vs,h=>h
 | a :: l,[],h=>by have:=h.1;simp at this
 | a :: l, v :: vs, h => by
   obtain ⟨h1,h2⟩:=h.of_cons
   exact VRs.cons (h1.wk n) (VRs.wk n h2)
theorem Con.wkA {P:Program} {ρ:Nat → Int} {f:FuncId} {args:List AV} {r:AV} (n:Nat) (h:Con P ρ f (args.map (wkN n)) r):Con P ρ f args r:=⟨h.1,fun G w vs h1 h2 h3=>h.2 G w vs h1 h2 (h3.wk n)⟩
def enW (e:En):En:=⟨e.f,e.ice,fun args=>e.sp (args.map (wkN 60))⟩
theorem enW_ok {P:Program} {ρ:Nat → Int} {e:En} (h:EnOk P ρ e):EnOk P ρ (enW e):=fun args r hr=>(h _ r hr).wkA 60
end Go.Ab
namespace Go.Proofs.Ytpbcimfiofmoeaa
set_option maxRecDepth 20000
open Go Go.Ab
def IntB (H:Hp) (v:AV) (l:List Int) (lo:Nat):Prop:=∃ r imm,v=.sl r 0 l.length 1 ∧ H.get r=some (.cells (l.map (.int .i64)) imm true) ∧ imm ≤ l.length ∧ lo ≤ r ∧ r < H.next
def IntN (H:Hp) (v:AV) (l:List Int) (lo:Nat):Prop:=(v=.nilS ∧ l=[]) ∨ IntB H v l lo
theorem IntB.low {H H':Hp} {v:AV} {l:List Int} {lo:Nat} (h:IntB H v l lo) (hn:H.next ≤ H'.next) (hg:∀ k,lo ≤ k → k < H.next → H'.get k=H.get k):IntB H' v l lo:=by
 obtain ⟨r,imm,h1,h2,h3,h4,h5⟩:=h
 exact ⟨r,imm,h1,by rw [hg r h4 h5];exact h2,h3,h4,by omega⟩
theorem IntB.lt {H:Hp} {v:AV} {l:List Int} {lo:Nat} (h:IntB H v l lo) {k:Nat} (hk:ownS v k):lo ≤ k ∧ k < H.next:=by
 obtain ⟨r,imm,rfl,_,_,h4,h5⟩:=h
 obtain ⟨n,e⟩:=hk
 simp only [AV.sl.injEq] at e
 rw [← e.1];exact ⟨h4,h5⟩
theorem IntN.lt {H:Hp} {v:AV} {l:List Int} {lo:Nat} (h:IntN H v l lo) {k:Nat} (hk:ownS v k):lo ≤ k ∧ k < H.next:=by
 rcases h with ⟨rfl,_⟩|h
 · obtain ⟨n,e⟩:=hk;simp at e
 · exact h.lt hk
theorem IntB.keep {H H':Hp} {v:AV} {l:List Int} {lo:Nat} (h:IntB H v l lo) (hn:H.next ≤ H'.next) (hg:∀ k,ownS v k → H'.get k=H.get k):IntB H' v l lo:=by
 obtain ⟨r,imm,rfl,h2,h3,h4,h5⟩:=h
 exact ⟨r,imm,rfl,by rw [hg r ⟨_,rfl⟩];exact h2,h3,h4,by omega⟩
theorem IntN.keep {H H':Hp} {v:AV} {l:List Int} {lo:Nat} (h:IntN H v l lo) (hn:H.next ≤ H'.next) (hg:∀ k,ownS v k → H'.get k=H.get k):IntN H' v l lo:=h.imp id fun h=>h.keep hn hg
theorem iOne (l:List Int):(l.map (AV.int .i64)).all AV.one=true:=by simp [AV.one]
theorem srcI_own {H:Hp} {r imm:Nat} {m:List Int} (h:H.get r=some (.cells (m.map (.int .i64)) imm true)):srcCells H 1 (.sl r 0 m.length 1)=some (m.length,m.map (.int .i64)):=by
 have:=src_sl (H:=H) (r:=r) (o:=0) (n:=m.length) (z:=1) (s:=1) h (by simp)
 rw [this,List.drop_zero,List.take_of_length_le (by simp)]
theorem appI_gen {H : Hp} {v x : AV} {l m : List Int} {lo : Nat} (hv : IntN H v l lo) (hlo : lo ≤ H.next) (hx : srcCells H 1 x = some (m.length, m.map (.int .i64))) (hm : m ≠ []) (hb : l.length + m.length < 2 ^ 40) :
    ∃ v' H',appendA Try.prog false H 23 23 v x=some (v',H') ∧ IntB H' v' (l ++ m) lo ∧ H'.next=H.next + 1 ∧ (∀ k,k < lo → H'.get k=H.get k) ∧ OwnFr v v' H H':=by
  obtain ⟨n,hn⟩:∃ n,m.length=n + 1:=⟨m.length - 1,by have:=List.length_pos_iff.2 hm;omega⟩
  have hmr:maxRoom=70368744177664:=rfl
  rw [hn] at hx
  rcases hv with ⟨rfl,rfl⟩|⟨r,imm,rfl,h2,h3,h4,h5⟩
  · refine ⟨.sl H.next 0 (n + 1) 1, H.alloc (.cells (m.map (.int .i64)) 0 true), append_nil Try.underlying23 sz3 bt3 zr3 (by kernel_rfl) hx (iOne m) rfl (by rw [hmr]; omega) (by rw [hmr]; omega), ⟨H.next, 0, by simp [hn], by rw [Hp.get_alloc, if_pos rfl]; rfl, by omega, hlo, Nat.lt_succ_self _⟩, rfl, fun k hk => by rw [Hp.get_alloc, if_neg (by omega)], fun k hk _ => by rw [Hp.get_alloc, if_neg (by omega)], fun k hk => .inr ?_⟩
    obtain ⟨n',e⟩:=hk
    simp only [AV.sl.injEq] at e
    omega
  · have htr : trimA false H 1 (.sl r 0 l.length 1) = H := by
      unfold trimA
      simp only [h2,Nat.zero_add,List.length_map,Nat.mul_one]
      have:Nat.blt l.length l.length=false:=by
        cases hb:Nat.blt l.length l.length with
        | false=>rfl
        | true=>rw [Nat.blt_eq] at hb;omega
      simp [this]
    refine ⟨.sl H.next 0 (l.length + (n + 1)) 1,(H.kill r).alloc (.cells (l.map (.int .i64) ++ m.map (.int .i64)) (imm - 0) true),?_,⟨H.next,imm,by simp [hn],?_,by simp;omega,hlo,Nat.lt_succ_self _⟩,rfl,fun k hk=>?_,fun k hk hno=>?_,fun k hk=>.inr ?_⟩
    · simp only [appendA, Try.underlying23, sz3, bt3, zr3, show srcType Try.prog 23 = true by kernel_rfl, hx, iOne, htr, and_self, if_true, List.length_cons, List.length_nil, appendOnto, h2, List.length_map, Nat.zero_add, Nat.mul_one, List.drop_zero]
      rw [if_pos ⟨by rw [hmr];omega,by rw [hmr];omega,trivial,trivial,h3⟩]
      simp
    · show ((H.kill r).alloc _).get (H.kill r).next = _
      rw [Hp.get_alloc,if_pos rfl];simp
    · rw [Hp.get_alloc,if_neg (by simp only [Hp.next_kill];omega),Hp.get_kill,if_neg (by omega)]
    · rw [Hp.get_alloc,if_neg (by simp only [Hp.next_kill];omega),Hp.get_kill,if_neg (fun e=>hno ⟨_,by rw [e]⟩)]
    · obtain ⟨n', e⟩ := hk
      simp only [AV.sl.injEq] at e
      omega
theorem appI_one {H:Hp} {v:AV} {l:List Int} {lo r imm:Nat} (s:Int) (hv:IntN H v l lo) (hlo:lo ≤ H.next) (hs:H.get r=some (.cells [.int .i64 s] imm true)) (hb:l.length < 2 ^ 39) :
   ∃ v' H',appendA Try.prog false H 23 23 v (.sl r 0 1 1)=some (v',H') ∧ IntB H' v' (l ++ [s]) lo ∧ H'.next=H.next + 1 ∧ (∀ k,k < lo → H'.get k=H.get k) ∧ OwnFr v v' H H':=
 appI_gen hv hlo (srcI_own (m:=[s]) hs) (by simp) (by simp;omega)
theorem IntB.at {H:Hp} {v:AV} {l:List Int} {lo:Nat} (h:IntB H v l lo) {i:Nat} (hi:i < l.length) :
   ∃ r,indexAddrA Try.prog 23 v (.int .i64 (i:Int))=some (.ptr r i) ∧ aload Try.prog H 3 (.ptr r i)=some (.int .i64 l[i]):=by
 obtain ⟨r,imm,rfl,h2,_⟩:=h
 refine ⟨r,?_,?_⟩
 · rw [index_sl Try.underlying23 sz3 hi];simp
 · rw [load_one Try.underlying3 rfl h2,List.getElem?_map,List.getElem?_eq_getElem hi];rfl
theorem chunkI_one (l:List Int):chunk 1 l.length (l.map (.int .i64))=l.map fun s=>[AV.int .i64 s]:=by
 induction l with
 | nil=>rfl
 | cons a l ih=>simp [chunk,ih]
theorem ice_ints (n:Nat):∀ (l:List Int) (H:Hp),iceHL (iceH (n + 1)) (l.map (.int .i64)) H=some (l.map (.int .i64),H)
 | [],H=>rfl
 | a :: l, H => by
   have:=ice_ints n l H
   have e:iceH (n + 1) (.int .i64 a) H=some (.int .i64 a,H):=rfl
   simp only [List.map_cons,iceHL,e,this]
theorem IntB.ice {H : Hp} {v : AV} {l : List Int} {lo : Nat} (h : IntB H v l lo) (n : Nat) :
    ∃ H',iceH (n + 2) v H=some (lstI l,H') ∧ IntB H' v l lo ∧ H'.next=H.next ∧ (∀ k,k < lo → H'.get k=H.get k) ∧ ∀ k,¬ ownS v k → H'.get k=H.get k:=by
  obtain ⟨r,imm,rfl,h2,h3,h4,h5⟩:=h
  refine ⟨H.set r (.cells (l.map (.int .i64)) (max imm l.length) true),?_,⟨r,max imm l.length,rfl,by rw [Hp.get_set,if_pos rfl],by omega,h4,h5⟩,rfl,fun k hk=>by rw [Hp.get_set,if_neg (by omega)],fun k hk=>by rw [Hp.get_set,if_neg (fun e=>hk ⟨_,by rw [e]⟩)]⟩
  have e:iceH (n + 2) (.sl r 0 l.length 1) H=match H.get r with
    | some (.cells cs imm tip) => match Nat.ble (0 + l.length * 1) cs.length && Nat.ble imm cs.length with
      | true => match iceHL (iceH (n + 1)) ((cs.drop 0).take (l.length * 1)) (H.set r (.cells cs (max imm (0 + l.length * 1)) tip)) with
        | some (l',H)=>some (.lst (chunk 1 l.length l'),H)
        | none=>none
      | false=>none
    | _=>none:=rfl
  rw [e,h2]
  simp only [List.length_map,Nat.zero_add,Nat.mul_one,List.drop_zero]
  have h6:Nat.ble l.length l.length=true:=by rw [Nat.ble_eq];omega
  have h7:Nat.ble imm l.length=true:=by rw [Nat.ble_eq];omega
  rw [h6,h7]
  simp only [Bool.and_self]
  rw [List.take_of_length_le (by simp),ice_ints]
  simp only [chunkI_one]
def IntZ (H:Hp) (v:AV) (l:List Int) (lo:Nat):Prop:=∃ r,v=.sl r 0 l.length 1 ∧ H.get r=some (.cells (l.map (.int .i64)) 0 true) ∧ lo ≤ r ∧ r < H.next
def IntO (H:Hp) (v:AV) (l:List Int) (lo:Nat):Prop:=(v=.nilS ∧ l=[]) ∨ IntZ H v l lo
theorem IntZ.b {H:Hp} {v:AV} {l:List Int} {lo:Nat} (h:IntZ H v l lo):IntB H v l lo:=by
 obtain ⟨r,h1,h2,h3,h4⟩:=h
 exact ⟨r,0,h1,h2,Nat.zero_le _,h3,h4⟩
theorem IntO.n {H:Hp} {v:AV} {l:List Int} {lo:Nat} (h:IntO H v l lo):IntN H v l lo:=h.imp id fun h=>h.b
theorem IntZ.keep {H H':Hp} {v:AV} {l:List Int} {lo:Nat} (h:IntZ H v l lo) (hn:H.next ≤ H'.next) (hg:∀ k,ownS v k → H'.get k=H.get k):IntZ H' v l lo:=by
 obtain ⟨r,rfl,h2,h4,h5⟩:=h
 exact ⟨r,rfl,by rw [hg r ⟨_,rfl⟩];exact h2,h4,by omega⟩
theorem IntO.keep {H H':Hp} {v:AV} {l:List Int} {lo:Nat} (h:IntO H v l lo) (hn:H.next ≤ H'.next) (hg:∀ k,ownS v k → H'.get k=H.get k):IntO H' v l lo:=h.imp id fun h=>h.keep hn hg
theorem appZ_gen {H : Hp} {v x : AV} {l m : List Int} {lo : Nat} (hv : IntO H v l lo) (hlo : lo ≤ H.next) (hx : srcCells H 1 x = some (m.length, m.map (.int .i64))) (hm : m ≠ []) (hb : l.length + m.length < 2 ^ 40) :
    ∃ v' H',appendA Try.prog false H 23 23 v x=some (v',H') ∧ IntZ H' v' (l ++ m) lo ∧ H'.next=H.next + 1 ∧ (∀ k,k < lo → H'.get k=H.get k) ∧ OwnFr v v' H H':=by
  obtain ⟨n,hn⟩:∃ n,m.length=n + 1:=⟨m.length - 1,by have:=List.length_pos_iff.2 hm;omega⟩
  have hmr:maxRoom=70368744177664:=rfl
  rw [hn] at hx
  rcases hv with ⟨rfl,rfl⟩|⟨r,rfl,h2,h4,h5⟩
  · refine ⟨.sl H.next 0 (n + 1) 1, H.alloc (.cells (m.map (.int .i64)) 0 true), append_nil Try.underlying23 sz3 bt3 zr3 (by kernel_rfl) hx (iOne m) rfl (by rw [hmr]; omega) (by rw [hmr]; omega), ⟨H.next, by simp [hn], by rw [Hp.get_alloc, if_pos rfl]; rfl, hlo, Nat.lt_succ_self _⟩, rfl, fun k hk => by rw [Hp.get_alloc, if_neg (by omega)], fun k hk _ => by rw [Hp.get_alloc, if_neg (by omega)], fun k hk => .inr ?_⟩
    obtain ⟨n',e⟩:=hk
    simp only [AV.sl.injEq] at e
    omega
  · have htr : trimA false H 1 (.sl r 0 l.length 1) = H := by
      unfold trimA
      simp only [h2,Nat.zero_add,List.length_map,Nat.mul_one]
      have:Nat.blt l.length l.length=false:=by
        cases hb:Nat.blt l.length l.length with
        | false=>rfl
        | true=>rw [Nat.blt_eq] at hb;omega
      simp [this]
    refine ⟨.sl H.next 0 (l.length + (n + 1)) 1,(H.kill r).alloc (.cells (l.map (.int .i64) ++ m.map (.int .i64)) (0 - 0) true),?_,⟨H.next,by simp [hn],?_,hlo,Nat.lt_succ_self _⟩,rfl,fun k hk=>?_,fun k hk hno=>?_,fun k hk=>.inr ?_⟩
    · simp only [appendA, Try.underlying23, sz3, bt3, zr3, show srcType Try.prog 23 = true by kernel_rfl, hx, iOne, htr, and_self, if_true, List.length_cons, List.length_nil, appendOnto, h2, List.length_map, Nat.zero_add, Nat.mul_one, List.drop_zero]
      rw [if_pos ⟨by rw [hmr];omega,by rw [hmr];omega,trivial,trivial,Nat.zero_le _⟩]
      simp
    · show ((H.kill r).alloc _).get (H.kill r).next = _
      rw [Hp.get_alloc,if_pos rfl];simp
    · rw [Hp.get_alloc,if_neg (by simp only [Hp.next_kill];omega),Hp.get_kill,if_neg (by omega)]
    · rw [Hp.get_alloc,if_neg (by simp only [Hp.next_kill];omega),Hp.get_kill,if_neg (fun e=>hno ⟨_,by rw [e]⟩)]
    · obtain ⟨n', e⟩ := hk
      simp only [AV.sl.injEq] at e
      omega
theorem appZ_one {H:Hp} {v:AV} {l:List Int} {lo r imm:Nat} (s:Int) (hv:IntO H v l lo) (hlo:lo ≤ H.next) (hs:H.get r=some (.cells [.int .i64 s] imm true)) (hb:l.length < 2 ^ 39) :
   ∃ v' H',appendA Try.prog false H 23 23 v (.sl r 0 1 1)=some (v',H') ∧ IntZ H' v' (l ++ [s]) lo ∧ H'.next=H.next + 1 ∧ (∀ k,k < lo → H'.get k=H.get k) ∧ OwnFr v v' H H':=
 appZ_gen hv hlo (srcI_own (m:=[s]) hs) (by simp) (by simp;omega)
theorem repI (n:Nat):rep [.int .i64 0] n=(List.replicate n (0:Int)).map (.int .i64):=by
 induction n with
 | zero=>rfl
 | succ n ih=>simp only [rep,ih];simp [List.replicate_succ]
theorem makeI {H:Hp} (n c:Nat) (h:n ≤ c) (hc:c < 2 ^ 40):makeSliceA Try.prog H 23 (.int .i64 n) (.int .i64 c)=some (.sl H.next 0 n 1,H.alloc (.cells ((List.replicate n (0:Int)).map (.int .i64)) 0 true)):=by
 have hm:maxRoom=70368744177664:=rfl
 show makeSliceA Try.prog H 23 (.int .i64 (Int.ofNat n)) (.int .i64 (Int.ofNat c))=_
 simp only [makeSliceA,Try.underlying23,sz3,bt3,zr3]
 rw [if_pos ⟨h,by rw [hm];omega,by rw [hm];omega,rfl⟩,repI]
theorem splice_one (cs:List AV) {o:Nat} (ho:o < cs.length) (x:AV):splice cs o [x]=cs.set o x:=by
 rw [splice_eq,List.set_eq_take_append_cons_drop,if_pos ho];simp
theorem set_int {H:Hp} {r o:Nat} {cs:List AV} (hg:H.get r=some (.cells cs 0 true)) (ho:o < cs.length) (n:Int):astore Try.prog H 3 (.ptr r o) (.int .i64 n)=some (H.set r (.cells (cs.set o (.int .i64 n)) 0 true)):=by
 rw [astore_p,hg,sz3,storeC_cells,cells_int,splice_one cs ho,if_pos ⟨rfl,Nat.zero_le _,ho,rfl⟩]
theorem iceL_Ints (H:Hp) (n:Nat):∀ l:List Int,iceL (iceV H (n + 1)) (l.map (.int .i64))=some (l.map (.int .i64))
 | []=>rfl
 | a :: l => by
   have:=iceL_Ints H n l
   have e:iceV H (n + 1) (.int .i64 a)=some (.int .i64 a):=rfl
   simp only [List.map_cons,iceL,e,this]
theorem IntB.iceV {H : Hp} {v : AV} {l : List Int} {lo : Nat} (h : IntB H v l lo) (n : Nat) : iceV H (n + 2) v = some (lstI l) := by
  obtain ⟨r,imm,rfl,h2,_⟩:=h
  have e:Ab.iceV H (n + 2) (.sl r 0 l.length 1)=match H.get r with
      | some (.cells cs _ _) => match iceL (Ab.iceV H (n + 1)) ((cs.drop 0).take (l.length * 1)) with
        | some l'=>if l'.length=l.length * 1 then some (.lst (chunk 1 l.length l')) else none
        | none=>none
      | _=>none:=rfl
  rw [e,h2]
  simp only [List.drop_zero,Nat.mul_one]
  rw [List.take_of_length_le (by simp),iceL_Ints]
  simp only [List.length_map,if_true,chunkI_one]
end Go.Proofs.Ytpbcimfiofmoeaa
namespace Go.Proofs.Ytpbcimfiofmoeaa
set_option maxRecDepth 20000
open Go Go.Ab
def BytB (H:Hp) (v:AV) (l:List Int) (lo:Nat):Prop:=∃ r imm,v=.sl r 0 l.length 1 ∧ H.get r=some (.cells (l.map (.int .u8)) imm true) ∧ imm ≤ l.length ∧ lo ≤ r ∧ r < H.next
def BytN (H:Hp) (v:AV) (l:List Int) (lo:Nat):Prop:=(v=.nilS ∧ l=[]) ∨ BytB H v l lo
theorem BytB.low {H H':Hp} {v:AV} {l:List Int} {lo:Nat} (h:BytB H v l lo) (hn:H.next ≤ H'.next) (hg:∀ k,lo ≤ k → k < H.next → H'.get k=H.get k):BytB H' v l lo:=by
 obtain ⟨r,imm,h1,h2,h3,h4,h5⟩:=h
 exact ⟨r,imm,h1,by rw [hg r h4 h5];exact h2,h3,h4,by omega⟩
theorem BytB.lt {H:Hp} {v:AV} {l:List Int} {lo:Nat} (h:BytB H v l lo) {k:Nat} (hk:ownS v k):lo ≤ k ∧ k < H.next:=by
 obtain ⟨r,imm,rfl,_,_,h4,h5⟩:=h
 obtain ⟨n,e⟩:=hk
 simp only [AV.sl.injEq] at e
 rw [← e.1];exact ⟨h4,h5⟩
theorem BytB.keep {H H':Hp} {v:AV} {l:List Int} {lo:Nat} (h:BytB H v l lo) (hn:H.next ≤ H'.next) (hg:∀ k,ownS v k → H'.get k=H.get k):BytB H' v l lo:=by
 obtain ⟨r,imm,rfl,h2,h3,h4,h5⟩:=h
 exact ⟨r,imm,rfl,by rw [hg r ⟨_,rfl⟩];exact h2,h3,h4,by omega⟩
theorem bOne (l:List Int):(l.map (AV.int .u8)).all AV.one=true:=by simp [AV.one]
theorem srcB_own {H:Hp} {r imm:Nat} {m:List Int} (h:H.get r=some (.cells (m.map (.int .u8)) imm true)):srcCells H 1 (.sl r 0 m.length 1)=some (m.length,m.map (.int .u8)):=by
 have:=src_sl (H:=H) (r:=r) (o:=0) (n:=m.length) (z:=1) (s:=1) h (by simp)
 rw [this,List.drop_zero,List.take_of_length_le (by simp)]
theorem appB_gen {H : Hp} {v x : AV} {l m : List Int} {lo : Nat} (hv : BytN H v l lo) (hlo : lo ≤ H.next) (hx : srcCells H 1 x = some (m.length, m.map (.int .u8))) (hm : m ≠ []) (hb : l.length + m.length < 2 ^ 40) :
    ∃ v' H',appendA Try.prog false H 61 61 v x=some (v',H') ∧ BytB H' v' (l ++ m) lo ∧ H'.next=H.next + 1 ∧ (∀ k,k < lo → H'.get k=H.get k) ∧ OwnFr v v' H H':=by
  obtain ⟨n,hn⟩:∃ n,m.length=n + 1:=⟨m.length - 1,by have:=List.length_pos_iff.2 hm;omega⟩
  have hmr:maxRoom=70368744177664:=rfl
  rw [hn] at hx
  rcases hv with ⟨rfl,rfl⟩|⟨r,imm,rfl,h2,h3,h4,h5⟩
  · refine ⟨.sl H.next 0 (n + 1) 1, H.alloc (.cells (m.map (.int .u8)) 0 true), append_nil Try.underlying61 sz5 bt5 zr5 (by kernel_rfl) hx (bOne m) rfl (by rw [hmr]; omega) (by rw [hmr]; omega), ⟨H.next, 0, by simp [hn], by rw [Hp.get_alloc, if_pos rfl]; rfl, by omega, hlo, Nat.lt_succ_self _⟩, rfl, fun k hk => by rw [Hp.get_alloc, if_neg (by omega)], fun k hk _ => by rw [Hp.get_alloc, if_neg (by omega)], fun k hk => .inr ?_⟩
    obtain ⟨n',e⟩:=hk
    simp only [AV.sl.injEq] at e
    omega
  · have htr : trimA false H 1 (.sl r 0 l.length 1) = H := by
      unfold trimA
      simp only [h2,Nat.zero_add,List.length_map,Nat.mul_one]
      have:Nat.blt l.length l.length=false:=by
        cases hb:Nat.blt l.length l.length with
        | false=>rfl
        | true=>rw [Nat.blt_eq] at hb;omega
      simp [this]
    refine ⟨.sl H.next 0 (l.length + (n + 1)) 1,(H.kill r).alloc (.cells (l.map (.int .u8) ++ m.map (.int .u8)) (imm - 0) true),?_,⟨H.next,imm,by simp [hn],?_,by simp;omega,hlo,Nat.lt_succ_self _⟩,rfl,fun k hk=>?_,fun k hk hno=>?_,fun k hk=>.inr ?_⟩
    · simp only [appendA, Try.underlying61, sz5, bt5, zr5, show srcType Try.prog 61 = true by kernel_rfl, hx, bOne, htr, and_self, if_true, List.length_cons, List.length_nil, appendOnto, h2, List.length_map, Nat.zero_add, Nat.mul_one, List.drop_zero]
      rw [if_pos ⟨by rw [hmr];omega,by rw [hmr];omega,trivial,trivial,h3⟩]
      simp
    · show ((H.kill r).alloc _).get (H.kill r).next = _
      rw [Hp.get_alloc,if_pos rfl];simp
    · rw [Hp.get_alloc,if_neg (by simp only [Hp.next_kill];omega),Hp.get_kill,if_neg (by omega)]
    · rw [Hp.get_alloc,if_neg (by simp only [Hp.next_kill];omega),Hp.get_kill,if_neg (fun e=>hno ⟨_,by rw [e]⟩)]
    · obtain ⟨n', e⟩ := hk
      simp only [AV.sl.injEq] at e
      omega
theorem appB_one {H:Hp} {v:AV} {l:List Int} {lo r imm:Nat} (s:Int) (hv:BytN H v l lo) (hlo:lo ≤ H.next) (hs:H.get r=some (.cells [.int .u8 s] imm true)) (hb:l.length < 2 ^ 39) :
   ∃ v' H',appendA Try.prog false H 61 61 v (.sl r 0 1 1)=some (v',H') ∧ BytB H' v' (l ++ [s]) lo ∧ H'.next=H.next + 1 ∧ (∀ k,k < lo → H'.get k=H.get k) ∧ OwnFr v v' H H':=
 appB_gen hv hlo (srcB_own (m:=[s]) hs) (by simp) (by simp;omega)
theorem bu1 (H:Hp) (n:Int):buildSliceA Try.prog H 61 1 [(0,.int .u8 n)]=some (.sl H.next 0 1 1,H.alloc (.cells [.int .u8 n] 0 true)):=by kernel_rfl
theorem bin_shr {D:BinOp → Sx → Sx → Option Bool} {t:TypeId} {k k':IntKind} {a:Int} {m:Nat} (h:m < 64) (hk:k=.u64):binA Try.prog D .shr t (.int k a) (.int k' (m:Int))=some (.int k (a.fdiv (2 ^ m))):=by
 subst hk
 have e:binA Try.prog D .shr t (.int .u64 a) (.int k' (Int.ofNat m))=some (.int .u64 (a.fdiv (2 ^ min m 64))):=rfl
 rw [show min m 64=m by omega] at e
 exact e
def byteQ (n:Int) (i:Nat):Int:=IntKind.wrap .u8 (n.fdiv (2 ^ (8 * i)))
def bytes8 (n:Int) (i:Nat):List Int:=(List.range i).map (byteQ n)
theorem bytes8_len (n:Int) (i:Nat):(bytes8 n i).length=i:=by simp [bytes8]
theorem bytes8_succ (n:Int) (i:Nat):bytes8 n (i + 1)=bytes8 n i ++ [byteQ n i]:=by simp [bytes8,List.range_succ]
def strB (l:List Int):List UInt8:=l.map fun n=>UInt8.ofNat n.toNat
end Go.Proofs.Ytpbcimfiofmoeaa
namespace Go.Ab
set_option maxRecDepth 20000
open Go
instance:DecidableEq Nd:=fun x y=>decidable_of_iff (x.op=y.op ∧ x.imm=y.imm ∧ x.kids=y.kids) (by cases x;cases y;simp)
def arI (op:Int):Int × Bool:=
 if op=1 ∨ op=2 ∨ op=3 ∨ op=26 then (0,true)
 else if op=20 ∨ op=21 ∨ op=24 ∨ op=25 then (1,true)
 else if op=23 ∨ op=27 ∨ op=29 then (2,true)
 else if op=22 ∨ op=28 then (3,true)
 else if op=30 ∨ op=31 then (-1,true)
 else if 4 ≤ op ∧ op ≤ 19 then (2,true)
 else (0,false)
def lvI (n:Int):Int:=(n - 1).tdiv 2
def kidLen (l:List Nd) (k:Int):Int:=match l[k.toNat]? with
 | some n=>n.kids.length
 | none=>0
def mostI (l:List Nd) (n:Nd):Int:=
 if n.op=2 then 5 else if n.op=3 then 255 else if n.op=23 ∨ n.op=28 then 3 else if n.op=30 then 7 else if n.op=31 then 15
 else if n.op=25 then lvI (kidLen l (n.kids.headD 0)) - 1 else 0
def immI (l:List Nd) (n:Nd):Bool:=
 if n.op=1 then true
 else if n.op=27 then decide (1 ≤ n.imm) && decide (n.imm ≤ 1000016)
 else decide (0 ≤ n.imm) && decide (n.imm ≤ mostI l n)
def opsI (op:Int):List Int:=
 if op=22 then [1,1,1] else if op=23 ∨ op=27 ∨ op=29 then [2,1] else if op=28 then [2,1,1] else if op=24 then [2] else if op=25 then [3] else [1,1]
def matchI:List Int → List Int → Bool
 | [],_=>true
 | a :: s,w=>decide (a=w.headD 0) && matchI s w.tail
def loopI (n:Nat):List Int:=((List.replicate n (1:Int)).set 0 2).set (lvI n + 1).toNat 2
def validI (op:Int) (s:List Int):Bool:=
 if (arI op).2=false then false
 else if 0 ≤ (arI op).1 ∧ (arI op).1 ≠ s.length then false
 else if op=31 then decide (3 ≤ s.length) && decide (s.length % 2=1) && decide (lvI s.length ≤ 16) && matchI s (loopI s.length)
 else if op=30 then decide (1 ≤ s.length) && decide (s.length ≤ 7) && decide (s.headD 0=2) && s.tail.all fun x=>decide (x=1)
 else if op=22 ∧ s.getD 1 0=2 then decide (s.headD 0=1) && decide (s.getD 2 0=2)
 else matchI s (opsI op)
def kidsI (i:Nat) (known:List Int):List Int → Option (List Int)
 | []=>some []
 | k :: ks=>if k < 0 ∨ (i:Int) ≤ k ∨ known.getD k.toNat 0=0 then none else (kidsI i known ks).map fun s=>known.getD k.toNat 0 :: s
def resI (n:Nd) (s:List Int):Int:=
 if n.op=31 then 3
 else if n.op=26 ∨ n.op=27 ∨ n.op=28 ∨ n.op=29 ∨ n.op=30 then 2
 else if n.op=22 then s.getD 1 0
 else if n.op=3 ∧ n.imm.tmod 16=0 then 2
 else if n.op=25 ∧ n.imm=0 then 2
 else 1
def sort1 (l : List Nd) (i : Nat) (known : List Int) : Int := match l[i]? with
 | none=>0
 | some n => match kidsI i known n.kids with
   | none=>0
   | some s=>if validI n.op s && immI l n then resI n s else 0
def sortsI (l:List Nd):Nat → List Int
 | 0=>[]
 | i + 1=>sortsI l i ++ [sort1 l i (sortsI l i)]
def sortI (l:List Nd) (i:Int):Int:=if i < 0 ∨ (l.length:Int) ≤ i then 0 else (sortsI (l.take (i.toNat + 1)) (i.toNat + 1)).getD i.toNat 0
theorem sortsI_len (l:List Nd):∀ i,(sortsI l i).length=i
 | 0=>rfl
 | i + 1=>by rw [sortsI,List.length_append,sortsI_len l i];rfl
theorem sortsI_get (l:List Nd):∀ {i j:Nat},j < i → (sortsI l i).getD j 0=sort1 l j (sortsI l j)
 | 0,j,h=>by omega
 | i + 1, j, h => by
   rw [sortsI]
   by_cases e:j < i
   · rw [List.getD_eq_getElem?_getD, List.getElem?_append_left (by rw [sortsI_len]; exact e), ← List.getD_eq_getElem?_getD]
     exact sortsI_get l e
   · obtain rfl : j = i := by omega
     rw [List.getD_eq_getElem?_getD,List.getElem?_append_right (by rw [sortsI_len];omega),sortsI_len,Nat.sub_self];rfl
theorem kidsI_mem {i:Nat} {known:List Int}:∀ {ks s:List Int},kidsI i known ks=some s → ∀ k ∈ ks,0 ≤ k ∧ k < i ∧ known.getD k.toNat 0 ≠ 0
 | [],s,_,k,h=>by simp at h
 | a :: ks, s, h, k, hk => by
   rw [kidsI] at h
   split at h
   · cases h
   · rename_i c
     obtain ⟨t,ht,_⟩:=Option.map_eq_some_iff.1 h
     rcases List.mem_cons.1 hk with rfl|hk
     · omega
     · exact kidsI_mem ht k hk
theorem kidsI_len {i:Nat} {known:List Int}:∀ {ks s:List Int},kidsI i known ks=some s → s.length=ks.length
 | [],s,h=>by cases h;rfl
 | a :: ks, s, h => by
   rw [kidsI] at h
   split at h
   · cases h
   · obtain ⟨t, ht, rfl⟩ := Option.map_eq_some_iff.1 h
     rw [List.length_cons,List.length_cons,kidsI_len ht]
theorem sort1_kids {l:List Nd} {i:Nat} {known:List Int} {n:Nd} (hn:l[i]?=some n) (h:sort1 l i known ≠ 0):∃ s,kidsI i known n.kids=some s ∧ validI n.op s=true ∧ immI l n=true:=by
 unfold sort1 at h
 rw [hn] at h
 simp only at h
 split at h
 · exact absurd rfl h
 · rename_i s hs
   split at h
   · rename_i c
     rw [Bool.and_eq_true] at c
     exact ⟨s,hs,c.1,c.2⟩
   · exact absurd rfl h
theorem immI_take {l:List Nd} {m:Nat} {n:Nd} (h:n.op=25 → ∃ k ks,n.kids=k :: ks ∧ k.toNat < m):immI (l.take m) n=immI l n:=by
 have e:mostI (l.take m) n=mostI l n:=by
   unfold mostI
   by_cases c:n.op=25
   · obtain ⟨k, ks, h1, h2⟩ := h c
     rw [c]
     simp only [h1,List.headD_cons,kidLen,List.getElem?_take,h2,if_true]
   · simp only [c,if_false]
 unfold immI
 rw [e]
theorem sort1_take {l : List Nd} {i m : Nat} (hm : i < m) (known : List Int) : sort1 (l.take m) i known = sort1 l i known := by
  unfold sort1
  rw [List.getElem?_take,if_pos hm]
  cases hn:l[i]? with
  | none=>rfl
  | some n =>
    simp only
    cases hk:kidsI i known n.kids with
    | none=>rfl
    | some s =>
      simp only
      by_cases c:validI n.op s=true
      · have e : immI (l.take m) n = immI l n := immI_take fun h25 => by
          have hl:=kidsI_len hk
          have h1:s.length=1:=by
            have c2:=c
            unfold validI at c2
            rw [h25] at c2
            have:arI 25=(1,true):=by decide
            rw [this] at c2
            simp only at c2
            split at c2
            · cases c2
            · split at c2
              · cases c2
              · omega
          cases hq:n.kids with
          | nil=>rw [hq,h1] at hl;simp at hl
          | cons k ks =>
            refine ⟨k,ks,rfl,?_⟩
            have:=kidsI_mem hk k (by rw [hq];exact List.mem_cons_self)
            omega
        rw [e]
      · have c' : validI n.op s = false := by simpa using c
        rw [c',Bool.false_and,Bool.false_and]
theorem sortsI_take {l:List Nd} {m:Nat}:∀ {i:Nat},i ≤ m → sortsI (l.take m) i=sortsI l i
 | 0,_=>rfl
 | i + 1,h=>by rw [sortsI,sortsI,sortsI_take (by omega:i ≤ m),sort1_take (by omega)]
theorem sortI_eq {l:List Nd} {i:Nat} (h:i < l.length):sortI l i=sort1 l i (sortsI l i):=by
 unfold sortI
 rw [if_neg (by omega),Int.toNat_natCast,sortsI_take (Nat.le_refl _),sortsI_get l (Nat.lt_succ_self i)]
theorem sortI_get {l:List Nd} {i j:Nat} (hj:j < i) (hi:i ≤ l.length):(sortsI l i).getD j 0=sortI l j:=by
 rw [sortsI_get l hj,sortI_eq (by omega)]
end Go.Ab
namespace Go.Ab
set_option maxRecDepth 20000
open Go
theorem lv_nat (n:Nat) (h:1 ≤ n):lvI n=((n - 1) / 2:Nat):=by
 unfold lvI
 rw [show (n:Int) - 1=((n - 1:Nat):Int) by omega];rfl
theorem len1 {α:Type} {s:List α} (h:s.length=1):∃ a,s=[a]:=by
 match s,h with
 | [a],_=>exact ⟨a,rfl⟩
theorem len3 {α:Type} {s:List α} (h:s.length=3):∃ a b c,s=[a,b,c]:=by
 match s,h with
 | [a,b,c],_=>exact ⟨a,b,c,rfl⟩
end Go.Ab
namespace Go.Proofs.Ytpbcimfiofmoeaa
set_option maxRecDepth 20000
set_option maxRecDepth 20000
open Go Go.Ab
namespace tyR3b
def tyF:=And.intro @tq3 (And.intro @tq9 (And.intro @tq48 (And.intro @tq49 (And.intro @tq51 (And.intro @tq55 (@tq2))))))
end tyR3b
open tyR3b
mutual
def depE:Ex → Nat
 | .mk _ _ _ _ ks=>depEs ks
def depEs:List Ex → Nat
 | []=>0
 | e :: es=>max (1 + depE e) (depEs es)
end
def exE (x:Ex):List AV:=[.agg x.cells]
theorem exE_inj (x y:Ex) (h:exE x=exE y):x=y:=by simp only [exE,List.cons.injEq,AV.agg.injEq,and_true] at h;exact Ex.inj h
mutual
def n1:St → Nat
 | .mk _ _ _ _ _ _ _ th el=>1 + nS th + nS el
def nS:List St → Nat
 | []=>0
 | x :: l=>n1 x + nS l
end
mutual
def w1:St → Nat
 | .mk k _ _ _ _ _ _ th el=>(if k=4 then 1 else 0) + wS th + wS el
def wS:List St → Nat
 | []=>0
 | x :: l=>w1 x + wS l
end
mutual
def m1:St → Nat → Nat
 | .mk _ _ _ _ _ _ _ th el,d=>max d (max (mS th (d + 1)) (mS el (d + 1)))
def mS:List St → Nat → Nat
 | [],_=>0
 | x :: l,d=>max (m1 x d) (mS l d)
end
theorem i64_id {z:Int} (h1:-9223372036854775808 ≤ z) (h2:z < 9223372036854775808):IntKind.wrap .i64 z=z:=IntWalk.i64_in _ (by omega)
theorem tup3_0 (a b c:AV):Ab.extract (.tup [a,b,c]) 0=some a:=rfl
theorem tup3_1 (a b c:AV):Ab.extract (.tup [a,b,c]) 1=some b:=rfl
theorem tup3_2 (a b c:AV):Ab.extract (.tup [a,b,c]) 2=some c:=rfl
end Go.Proofs.Ytpbcimfiofmoeaa
namespace Go.Proofs.Ytpbcimfiofmoeaa
set_option maxRecDepth 20000
set_option maxRecDepth 20000
open Go Go.Ab
namespace tyI1
def tyF:=And.intro @tq3 (And.intro @tq23 (@bin_quo))
end tyI1
open tyI1
noncomputable def code24:{ c:SC // slim 31 (Try.f24.body.getD .skip)=c }:=by
 refine ⟨?_,?_⟩
 rotate_left
 · simp only [Try.f24, Option.getD_some, slim, slimR, slimL, slimD, slimG, Nat.blt, Nat.ble]
   rfl
noncomputable def code87:{ c:SC // slim 6 (Try.f87.body.getD .skip)=c }:=by
 refine ⟨?_,?_⟩
 rotate_left
 · simp only [Try.f87, Option.getD_some, slim, slimR, slimL, slimD, slimG, Nat.blt, Nat.ble]
   rfl
noncomputable def code110:{ c:SC // slim 22 (Try.f110.body.getD .skip)=c }:=by
 refine ⟨?_,?_⟩
 rotate_left
 · simp only [Try.f110, Option.getD_some, slim, slimR, slimL, slimD, slimG, Nat.blt, Nat.ble]
   rfl
noncomputable def code108:{ c:SC // slim 21 (Try.f108.body.getD .skip)=c }:=by
 refine ⟨?_,?_⟩
 rotate_left
 · simp only [Try.f108, Option.getD_some, slim, slimR, slimL, slimD, slimG, Nat.blt, Nat.ble]
   rfl
noncomputable def code109:{ c:SC // slim 21 (Try.f109.body.getD .skip)=c }:=by
 refine ⟨?_,?_⟩
 rotate_left
 · simp only [Try.f109, Option.getD_some, slim, slimR, slimL, slimD, slimG, Nat.blt, Nat.ble]
   rfl
def arV (op:Int):AV:=.tup [.int .i64 (arI op).1,.bool (arI op).2]
theorem arV_pure (op:Int):PureA (arV op):=.tup (.cons (.int _ _) (.cons (.bool _) .nil))
theorem iarity_con (ρ:Nat → Int) (op:Int):Con Try.prog ρ 24 [.int .i64 op] (arV op):=Con.lev fit (pls:=pls) (l:=[]) trivial (.cons (.int _ _) .nil) (arV_pure op) (by
 have hw:=plain0 24
 refine WpCall.slim (M:=31) (rs:=[.tmp 2,.tmp 3]) (hw.call _) hw.ice hw.froz Try.func24 rfl rfl code24.2 rfl ?_;dsimp only [code24,envOf,Nat.reduceAdd]
 repeat' (first
    | (apply Rx.nl ?_;clear hK K)|apply Rx.o ?_|(apply Rx.gd (fun hg hgp=>?_) (fun hg hgp=>?_) <;> try (cases hg;done))|(apply Rx.cd (fun hb hbp=>?_) (fun hb hbp=>?_) <;> try (cases hb;done))|apply Wp.seq ?_|(apply Wp.ops' fun K hK=>?_)|apply Wp.block ?_|apply Rx.sk ?_|apply Rx.rt ?_)
 all_goals
   refine ⟨eI,_,eRW,?_⟩;try simp only [oneOr]
   first
   | (simp_all [arV,arI];done)
   | (unfold arV arI;rw [if_neg (by omega),if_neg (by omega),if_neg (by omega),if_neg (by omega),if_neg (by omega),if_neg (by omega)];done))
theorem lv_rng (n:Nat):(0:Int) ≤ lvI n ∧ lvI n ≤ n:=by
 by_cases h:n=0
 · subst h;decide
 · rw [lv_nat n (by omega)];omega
theorem lv_con (ρ:Nat → Int) (n:Nat) (hn:n < 2 ^ 60):Con Try.prog ρ 87 [.int .i64 n] (.int .i64 (lvI n)):=Con.lev fit (pls:=pls) (l:=[]) trivial (.cons (.int _ _) .nil) (.int _ _) (by
 have hw:=plain0 87
 have hq:(2:Int) ≠ 0:=by decide
 have e1:IntKind.wrap .i64 ((n:Int) - 1)=(n:Int) - 1:=i64_id (by omega) (by omega)
 refine WpCall.slim (M:=6) (rs:=[.tmp 2]) (hw.call _) hw.ice hw.froz Try.func87 rfl rfl code87.2 rfl ?_;dsimp only [code87,envOf,Nat.reduceAdd]
 repeat' (first
    | (apply Rx.nl ?_;clear hK K)|apply Rx.o ?_|apply Wp.seq ?_|(apply Wp.ops' fun K hK=>?_)|apply Rx.rt ?_)
 all_goals (refine ⟨eI,_,eR,?_⟩;try simp only [oneOr])
 rw [lvI]
 rw [i64_id (by have:=(lv_rng n).1;unfold lvI at this;omega) (by have:=(lv_rng n).2;unfold lvI at this;omega)])
theorem bn3 (H:Hp) (a b c:Int):buildSliceA Try.prog H 23 3 [(0,.int .i64 a),(1,.int .i64 b),(2,.int .i64 c)]=some (.sl H.next 0 3 1,H.alloc (.cells [.int .i64 a,.int .i64 b,.int .i64 c] 0 true)):=by kernel_rfl
theorem bn2 (H:Hp) (a b:Int):buildSliceA Try.prog H 23 2 [(0,.int .i64 a),(1,.int .i64 b)]=some (.sl H.next 0 2 1,H.alloc (.cells [.int .i64 a,.int .i64 b] 0 true)):=by kernel_rfl
theorem bn1 (H:Hp) (a:Int):buildSliceA Try.prog H 23 1 [(0,.int .i64 a)]=some (.sl H.next 0 1 1,H.alloc (.cells [.int .i64 a] 0 true)):=by kernel_rfl
theorem ops_con (ρ:Nat → Int) (op:Int):Con Try.prog ρ 110 [.int .i64 op] (lstI (opsI op)):=Con.of_made (m:=3) (cfg:=cfgN pls []) fit (noDec ρ) (fun f args r h=>by simp [cfgN,lookN] at h) (.cons (.int _ _) .nil) (by
 have hw:=plain0 110
 refine WpCall.slim (M:=22) (rs:=[.tmp 2]) (hw.call _) hw.ice hw.froz Try.func110 rfl rfl code110.2 rfl ?_;dsimp only [code110,envOf,Nat.reduceAdd]
 have gh0:=@bn3
 have gh1:=@bn2
 have gh2:=@bn1
 repeat' (first
    | (apply Rx.nl ?_;clear hK K)|apply Rx.o ?_|(apply Rx.cd (fun hb hbp=>?_) (fun hb hbp=>?_) <;> try (cases hb;done))|apply Wp.seq ?_|(apply Wp.ops' fun K hK=>?_)|apply Wp.block ?_|apply Rx.sk ?_|apply Rx.rt ?_)
 all_goals
   all_goals (refine ⟨eI,_,eR,?_⟩;try simp only [oneOr])
   simp_all [opsI]
   rfl)
theorem matchI_drop (s w:List Int) (i:Nat) (hi:i < s.length) (hl:s.length ≤ w.length):matchI (s.drop i) (w.drop i)=(decide (s.getD i 0=w.getD i 0) && matchI (s.drop (i + 1)) (w.drop (i + 1))):=by
 rw [List.drop_eq_getElem_cons hi,List.drop_eq_getElem_cons (l:=w) (by omega),matchI]
 simp [List.getD_eq_getElem?_getD,List.getElem?_eq_getElem hi,List.getElem?_eq_getElem (show i < w.length by omega)]
def mtE (x:List Int × List Int):List AV:=[lstI x.1,lstI x.2]
theorem lstI_inj {a b:List Int} (h:lstI a=lstI b):a=b:=by
 simp only [lstI,AV.lst.injEq] at h;exact lstI_inj' h
theorem mtE_inj (x y:List Int × List Int) (h:mtE x=mtE y):x=y:=by
 simp only [mtE,List.cons.injEq,and_true] at h
 exact Prod.ext (lstI_inj h.1) (lstI_inj h.2)
theorem match_con (ρ:Nat → Int) (x:List Int × List Int) (hx:x.1.length ≤ x.2.length ∧ x.2.length < 2 ^ 60):Con Try.prog ρ 108 (mtE x) (.bool (matchI x.1 x.2)):=Con.lev fit (pls:=pls) (l:=[]) trivial (.cons (ints_pure _) (.cons (ints_pure _) .nil)) (.bool _) (by
 obtain ⟨s,w⟩:=x
 obtain ⟨hl,hb⟩:=hx
 simp only [] at hl hb
 have hw:=plain0 108
 rw [mtE]
 simp only []
 refine WpCall.slim (M:=21) (rs:=[.tmp 4]) (hw.call _) hw.ice hw.froz Try.func108 rfl rfl code108.2 rfl ?_;dsimp only [code108,envOf,Nat.reduceAdd]
 repeat' (first
    | (apply Rx.nl ?_;clear hK K)|apply Rx.o ?_|(apply Rx.cd (fun hb hbp=>?_) (fun hb hbp=>?_) <;> try (cases hb;done))|apply Wp.seq ?_|(apply Wp.ops' fun K hK=>?_)|(apply Rx.dT 4 [(3,9),(7,9)] fun K hK=>?_)|(apply Rx.nq ?_;try intro _)|(apply Rx.nt ?_ ?_ <;> clear hK K)|apply WpT.step ?_|apply Wp.block ?_|apply Rx.sk ?_|apply Rx.rt ?_|apply Rx.xt ?_)
 refine Wp.forI [0,1] [] 5 s.length (fun i E H=>matchI s w=matchI (s.drop i) (w.drop i)) eE (by simp) ?_
 rintro i E H2 hi hcE hrH hnH hsI hJ
 (try simp only [forall_cons,forall_nil,and_true,sB,sO,Nat.reduceBEq,Nat.reduceAdd,Nat.reduceLeDiff,tyF, *] at hcE)
 (try simp only [forall_cons,forall_nil,and_true,sB,sO,Nat.reduceBEq,Nat.reduceAdd,Nat.reduceLeDiff,tyF, *] at hrH)
 (try simp only [Hp.next_alloc,Hp.next_set,H0_next,Nat.zero_add,Nat.reduceAdd] at hnH)
 repeat' (first
    | (apply Rx.nl ?_;clear hK K)|apply Rx.o ?_|(apply Rx.cd (fun hb hbp=>?_) (fun hb hbp=>?_) <;> try (cases hb;done))|apply Wp.seq ?_|(apply Wp.ops' fun K hK=>?_)|(apply Rx.dT 4 [(3,9),(7,9)] fun K hK=>?_)|(apply Rx.nq ?_;try intro _)|(apply Rx.nt ?_ ?_ <;> clear hK K)|apply WpT.step ?_|apply Wp.block ?_|apply Rx.sk ?_|apply Rx.rt ?_|apply Rx.xt ?_)
 · have hlt : i < s.length := by simpa using hb
   have hgx:s[i]?=some s[i]:=List.getElem?_eq_getElem hlt
   have hgy:w[i]?=some w[i]:=List.getElem?_eq_getElem (by omega)
   have hdr:=matchI_drop s w i hlt hl
   repeat' (first
      | (apply Rx.nl ?_;clear hK K)|apply Rx.o ?_|(apply Rx.cd (fun hb hbp=>?_) (fun hb hbp=>?_) <;> try (cases hb;done))|apply Wp.seq ?_|(apply Wp.ops' fun K hK=>?_)|(apply Rx.dT 4 [(3,9),(7,9)] fun K hK=>?_)|(apply Rx.nq ?_;try intro _)|(apply Rx.nt ?_ ?_ <;> clear hK K)|apply WpT.step ?_|apply Wp.block ?_|apply Rx.sk ?_|apply Rx.rt ?_|apply Rx.xt ?_)
   · exact eK
   · all_goals (refine ⟨eI, _, eR, ?_⟩; try simp only [oneOr])
     rw [hJ,hdr,List.getD_eq_getElem?_getD,List.getD_eq_getElem?_getD,hgx,hgy]
     simp_all
   · refine ⟨by omega, eL, eL, eN, (by simp only [sB, Nat.reduceBEq, *]; exact i64_succ (n := s.length) (by omega) (by omega)), ?_⟩
     rw [hJ,hdr,List.getD_eq_getElem?_getD,List.getD_eq_getElem?_getD,hgx,hgy]
     simp_all
 · all_goals (refine ⟨eI, _, eR, ?_⟩; try simp only [oneOr])
   rw [hJ,show i=s.length by simp at hb;omega,List.drop_length];rfl)
noncomputable def enAr:En:=⟨24,false,spP (fun _=>True) (fun n:Int=>[.int .i64 n]) arV⟩
theorem enAr_ok (ρ:Nat → Int):EnOk Try.prog ρ enAr:=spP_ok fun n _=>iarity_con ρ n
theorem i1E_inj (x y:Int) (h:([.int .i64 x]:List AV)=[.int .i64 y]):x=y:=by simpa using h
def natE (n:Nat):List AV:=[.int .i64 n]
theorem natE_inj (x y:Nat) (h:natE x=natE y):x=y:=by
 simp only [natE,List.cons.injEq,AV.int.injEq,and_true,true_and] at h;omega
noncomputable def enLv:En:=⟨87,false,spP (fun n=>n < 2 ^ 60) natE fun n=>.int .i64 (lvI n)⟩
theorem enLv_ok (ρ:Nat → Int):EnOk Try.prog ρ enLv:=spP_ok fun n hn=>lv_con ρ n hn
theorem lv_en {l:List En} (hl:∀ ar,lookN l 87 ar=enLv.sp ar) (n:Nat) (hn:n < 2 ^ 60) (H:Hp):WpCall Try.prog (cfgN pls l) 87 [.int .i64 n] H fun v H'=>v=.int .i64 (lvI n) ∧ H'=H:=
 WpCall.en (enc:=natE) (ok:=fun n=>n < 2 ^ 60) (out:=fun n=>.int .i64 (lvI n)) natE_inj (x:=n) (hl _) hn
noncomputable def enOps:En:=⟨110,false,spP (fun _=>True) (fun n:Int=>[.int .i64 n]) fun n=>lstI (opsI n)⟩
theorem enOps_ok (ρ:Nat → Int):EnOk Try.prog ρ enOps:=spP_ok fun n _=>ops_con ρ n
def mtOk (x:List Int × List Int):Prop:=x.1.length ≤ x.2.length ∧ x.2.length < 2 ^ 60
noncomputable def enMt:En:=⟨108,false,spP mtOk mtE fun x=>.bool (matchI x.1 x.2)⟩
theorem enMt_ok (ρ:Nat → Int):EnOk Try.prog ρ enMt:=spP_ok fun x hx=>match_con ρ x hx
theorem loopS_con (ρ:Nat → Int) (n:Nat) (h3:3 ≤ n) (hn:n < 2 ^ 30):Con Try.prog ρ 109 [.int .i64 n] (lstI (loopI n)):=Con.of_made (m:=3) (cfg:=cfgN pls [enLv]) fit (noDec ρ) (EnsOk.look ⟨enLv_ok ρ,trivial⟩) (.cons (.int _ _) .nil) (by
 have hw:Plain (cfgN pls [enLv]) 109:=plainN (fun _=>rfl) rfl
 have hlv:=lv_nat n (by omega)
 refine WpCall.slim (M:=21) (rs:=[.tmp 2]) (hw.call _) hw.ice hw.froz Try.func109 rfl rfl code109.2 rfl ?_;dsimp only [code109,envOf,Nat.reduceAdd]
 repeat' (first
    | (apply Rx.nl ?_;clear hK K)|apply Rx.o ?_|(apply Rx.cd (fun hb hbp=>?_) (fun hb hbp=>?_) <;> try (cases hb;done))|apply Wp.seq ?_|(apply Wp.ops' fun K hK=>?_)|apply Wp.block ?_|apply Rx.sk ?_|apply Rx.rt ?_|apply Rx.xt ?_)
 have hrl:∀ i,(List.replicate i (1:Int)).length=i:=fun i=>List.length_replicate
 have hkeep:(cfgN pls [enLv]).keep 109=false:=rfl
 refine Wp.forI [0,2] [] 4 n (fun i E H=>∃ v,E.at 3=v ∧ IntO H v (List.replicate i 1) 0) eE ⟨.nilS,eE,.inl ⟨rfl,rfl⟩⟩ ?_
 rintro i E H2 hi hcE hrH hnH hsI ⟨v,k3,hv⟩
 (try simp only [forall_cons,forall_nil,and_true,sB,sO,Nat.reduceBEq,Nat.reduceAdd,Nat.reduceLeDiff,tyF, *] at hcE)
 (try simp only [forall_cons,forall_nil,and_true,sB,sO,Nat.reduceBEq,Nat.reduceAdd,Nat.reduceLeDiff,tyF, *] at hrH)
 (try simp only [Hp.next_alloc,Hp.next_set,H0_next,Nat.zero_add,Nat.reduceAdd] at hnH)
 repeat' (first
    | (apply Rx.nl ?_;clear hK K)|apply Rx.o ?_|(apply Rx.cd (fun hb hbp=>?_) (fun hb hbp=>?_) <;> try (cases hb;done))|apply Wp.seq ?_|(apply Wp.ops' fun K hK=>?_)|apply Wp.block ?_|apply Rx.sk ?_|apply Rx.rt ?_|apply Rx.xt ?_)
 · have hlt : i < n := by simpa using hb
   have gh0:=@bn1
   repeat' (first
      | (apply Rx.nl ?_;clear hK K)|apply Rx.o ?_|(apply Rx.cd (fun hb hbp=>?_) (fun hb hbp=>?_) <;> try (cases hb;done))|apply Wp.seq ?_|(apply Wp.ops' fun K hK=>?_)|apply Wp.block ?_|apply Rx.sk ?_|apply Rx.rt ?_|apply Rx.xt ?_)
   have hvb:IntO (H2.alloc (.cells [.int .i64 1] 0 true)) v (List.replicate i 1) 0:=hv.keep (Nat.le_succ _) fun k hk=>by rw [Hp.get_alloc,if_neg (by have:=(hv.n.lt hk).2;omega)]
   obtain ⟨v5,H5,a5,s5,n5,f5,o5⟩:=appZ_one (r:=H2.next) (imm:=0) 1 hvb (Nat.zero_le _) (by rw [Hp.get_alloc,if_pos rfl]) (by rw [hrl];omega)
   refine WpL.append eV eV (by rw [hkeep];exact a5) ?_
   repeat' (first
      | (apply Rx.nl ?_;clear hK K)|apply Rx.o ?_|(apply Rx.cd (fun hb hbp=>?_) (fun hb hbp=>?_) <;> try (cases hb;done))|apply Wp.seq ?_|(apply Wp.ops' fun K hK=>?_)|apply Wp.block ?_|apply Rx.sk ?_|apply Rx.rt ?_|apply Rx.xt ?_)
   refine ⟨by omega,eL,eL,eN,(by simp only [sB,Nat.reduceBEq, *];exact i64_succ (n:=n) (by omega) (by omega)),?_⟩
   exact ⟨v5,eE,.inr (by rw [List.replicate_succ'];exact s5)⟩
 · have hie : i = n := by simp at hb; omega
   subst hie
   rcases hv with ⟨_,h⟩|⟨r,hve,h2,_,h4⟩
   · have:=congrArg List.length h;rw [hrl] at this;simp at this;omega
   subst hve
   rw [hrl] at k3
   have hcl:((List.replicate i (1:Int)).map (AV.int .i64)).length=i:=by simp
   generalize hcs:(List.replicate i (1:Int)).map (AV.int .i64)=cs at h2 hcl
   have hi1:0 < i:=by omega
   have hi2:(i - 1) / 2 + 1 < i:=by omega
   have e1:IntKind.wrap .i64 (((i - 1) / 2:Nat) + 1)=(((i - 1) / 2 + 1:Nat):Int):=i64_id (by omega) (by omega)
   repeat' (first
      | (apply Rx.nl ?_;clear hK K)|apply Ry.o ?_|(apply Ry.call ?_;first|refine Rx.k (lv_en (fun _=>rfl) _ (by omega) _) ?_)|apply Wp.seq ?_|(apply Wp.ops' fun K hK=>?_)|apply Wp.block ?_|apply Rx.sk ?_|apply Rx.rt ?_|apply Rx.xt ?_)
   refine WpL.store eV eV (set_int h2 (by omega) 2) ?_
   repeat' (first
      | (apply Rx.nl ?_;clear hK K)|apply Ry.o ?_|apply Wp.seq ?_|(apply Wp.ops' fun K hK=>?_)|apply Wp.block ?_|apply Rx.sk ?_|apply Rx.rt ?_|apply Rx.xt ?_)
   refine WpL.store eV eV (set_int (by rw [Hp.get_set,if_pos rfl]) (by rw [List.length_set];omega) 2) ?_
   repeat' (first
      | (apply Rx.nl ?_;clear hK K)|apply Rx.o ?_|(apply Rx.cd (fun hb hbp=>?_) (fun hb hbp=>?_) <;> try (cases hb;done))|apply Wp.seq ?_|(apply Wp.ops' fun K hK=>?_)|apply Wp.block ?_|apply Rx.sk ?_|apply Rx.rt ?_|apply Rx.xt ?_)
   all_goals (refine ⟨eI,_,eR,?_⟩;try simp only [oneOr])
   have hll:(loopI i).length=i:=by simp [loopI]
   have hb:IntB ((H2.set r (.cells (cs.set 0 (.int .i64 2)) 0 true)).set r (.cells ((cs.set 0 (.int .i64 2)).set ((i - 1) / 2 + 1) (.int .i64 2)) 0 true)) (.sl r 0 (loopI i).length 1) (loopI i) 0:=⟨r,0,rfl,by
     rw [Hp.get_set,if_pos rfl,loopI,List.map_set,List.map_set,hcs,show (lvI i + 1).toNat=(i - 1) / 2 + 1 by omega],Nat.zero_le _,Nat.zero_le _,h4⟩
   have:=hb.iceV 1
   rw [hll] at this
   exact this)
noncomputable def enLs:En:=⟨109,false,spP (fun n=>3 ≤ n ∧ n < 2 ^ 30) natE fun n=>lstI (loopI n)⟩
theorem enLs_ok (ρ:Nat → Int):EnOk Try.prog ρ enLs:=spP_ok fun n hn=>loopS_con ρ n hn.1 hn.2
end Go.Proofs.Ytpbcimfiofmoeaa
namespace Go.Proofs.Ytpbcimfiofmoeaa
set_option maxRecDepth 20000
set_option maxRecDepth 20000
open Go Go.Ab
namespace tyI2
def tyF:=And.intro @tq2 (And.intro @tq3 (And.intro @tq23 (And.intro @tq25 (And.intro @tq26 (@bin_rem)))))
end tyI2
open tyI2
noncomputable def code71:{ c:SC // slim 53 (Try.f71.body.getD .skip)=c }:=by
 refine ⟨?_,?_⟩
 rotate_left
 · simp only [Try.f71, Option.getD_some, slim, slimR, slimL, slimD, slimG, Nat.blt, Nat.ble]
   rfl
noncomputable def code70:{ c:SC // slim 106 (Try.f70.body.getD .skip)=c }:=by
 refine ⟨?_,?_⟩
 rotate_left
 · simp only [Try.f70, Option.getD_some, slim, slimR, slimL, slimD, slimG, Nat.blt, Nat.ble]
   rfl
noncomputable def levIr:List En:=[enAr,enLv,enOps,enMt,enLs]
theorem levIr_ok (ρ:Nat → Int):EnsOk Try.prog ρ levIr:=⟨enAr_ok ρ,enLv_ok ρ,enOps_ok ρ,enMt_ok ρ,enLs_ok ρ,trivial⟩
abbrev lstN (l:List Nd):AV:=.lst (l.map Nd.cells)
theorem nds_pure (l:List Nd):PureA (lstN l):=.map fun x _=>x.pure
theorem lstN_inj {a b:List Nd} (h:lstN a=lstN b):a=b:=by
 simp only [lstN,AV.lst.injEq] at h
 exact map_inj (fun _ _ _=>Nd.inj) h
def immOk (x:List Nd × Nd):Prop:=x.2.op=25 → ∃ (k:Nat) (m:Nd),x.2.kids[0]?=some (k:Int) ∧ x.1[k]?=some m ∧ m.kids.length < 2 ^ 60
def imE (x:List Nd × Nd):List AV:=[lstN x.1,.agg x.2.cells]
theorem imE_inj (x y:List Nd × Nd) (h:imE x=imE y):x=y:=by
 simp only [imE,List.cons.injEq,AV.agg.injEq,and_true] at h
 exact Prod.ext (lstN_inj h.1) (Nd.inj h.2)
theorem validImm_con (ρ:Nat → Int) (x:List Nd × Nd) (hx:immOk x):Con Try.prog ρ 71 (imE x) (.bool (immI x.1 x.2)):=Con.lev fit (pls:=pls) (levIr_ok ρ) (.cons (nds_pure _) (.cons (.agg (Nd.pure _)) .nil)) (.bool _) (by
 obtain ⟨l,n⟩:=x
 have hw:Plain (cfgN pls levIr) 71:=plainN (fun _=>rfl) rfl
 unfold immOk at hx
 rw [imE]
 simp only [] at hx ⊢
 refine WpCall.slim (M:=53) (rs:=[.tmp 4]) (hw.call _) hw.ice hw.froz Try.func71 rfl rfl code71.2 rfl ?_;dsimp only [code71,envOf,Nat.reduceAdd]
 repeat' (first
    | (apply Rx.nl ?_;clear hK K)|apply Rx.o ?_|(apply Rx.gd (fun hg hgp=>?_) (fun hg hgp=>?_) <;> try (cases hg;done))|(apply Rx.cd (fun hb hbp=>?_) (fun hb hbp=>?_) <;> try (cases hb;done))|apply Wp.seq ?_|(apply Wp.ops' fun K hK=>?_)|apply Wp.block ?_|apply Rx.sk ?_|apply Rx.rt ?_)
 all_goals (first|(refine ⟨eI,_,eR,?_⟩;(try simp only [oneOr]);clear hx;simp_all [immI,mostI] <;> omega;done)|skip)
 all_goals trace_state
 have h25:n.op=25:=by assumption
 obtain ⟨k,m,h1,h2,h3⟩:=hx h25
 have h1':n.kids.headD 0=k:=by
   cases hk:n.kids with
   | nil=>rw [hk] at h1;simp at h1
   | cons a b=>rw [hk] at h1;simpa using h1
 have hkl:kidLen l (n.kids.headD 0)=m.kids.length:=by rw [h1',kidLen,Int.toNat_natCast,h2]
 have hlr:=lv_rng m.kids.length
 have e1:IntKind.wrap .i64 (lvI m.kids.length - 1)=lvI m.kids.length - 1:=i64_id (by omega) (by omega)
 repeat' (first
    | (apply Rx.nl ?_;clear hK K)|apply Ry.o ?_|(apply Ry.call ?_;first|refine Rx.k (lv_en (fun _=>rfl) _ (by omega) _) ?_)|(apply Ry.gd (fun hg hgp=>?_) (fun hg hgp=>?_) <;> try (cases hg;done))|apply Wp.seq ?_|(apply Wp.ops' fun K hK=>?_)|apply Wp.block ?_|apply Rx.sk ?_|apply Rx.rt ?_)
 all_goals (first|(refine ⟨eI,_,eR,?_⟩;(try simp only [oneOr]);clear hx;simp_all [immI,mostI] <;> omega;done)|skip)
 all_goals trace_state)
noncomputable def enIm:En:=⟨71,true,spP immOk imE fun x=>.bool (immI x.1 x.2)⟩
theorem enIm_ok (ρ:Nat → Int):EnOk Try.prog ρ enIm:=spP_ok fun x hx=>validImm_con ρ x hx
theorem slice_tl (a:Int) (s:List Int):sliceA Try.prog 23 (.lst ((a :: s).map fun n=>[AV.int .i64 n])) (some (.int .i64 1)) none=some (.lst (s.map fun n=>[AV.int .i64 n])):=by
 have e1:(1:Int)=Int.ofNat 1:=rfl
 simp only [sliceA,Try.underlying23,sz3,e1,boundA]
 rw [if_pos ⟨by simp,Nat.le_refl _⟩]
 rw [List.take_of_length_le (by simp)]
 cases s with
 | nil=>rfl
 | cons b s=>rfl
theorem ar_ops (op:Int) (h0:0 ≤ (arI op).1):(arI op).1 ≤ (opsI op).length:=by
 unfold arI at h0 ⊢
 unfold opsI
 repeat' split
 all_goals (first|(simp;done)|omega|(simp_all;done))
def voE (x:Nd × List Int):List AV:=[.agg x.1.cells,lstI x.2]
theorem voE_inj (x y:Nd × List Int) (h:voE x=voE y):x=y:=by
 simp only [voE,List.cons.injEq,AV.agg.injEq,and_true] at h
 exact Prod.ext (Nd.inj h.1) (lstI_inj h.2)
theorem ar_en {l:List En} (hl:∀ ar,lookN l 24 ar=enAr.sp ar) (n:Int) (H:Hp):WpCall Try.prog (cfgN pls l) 24 [.int .i64 n] H fun v H'=>v=arV n ∧ H'=H:=
 WpCall.en (enc:=fun n:Int=>[.int .i64 n]) (ok:=fun _=>True) (out:=arV) i1E_inj (x:=n) (hl _) trivial
theorem ops_en {l:List En} (hl:∀ ar,lookN l 110 ar=enOps.sp ar) (n:Int) (H:Hp):WpCall Try.prog (cfgN pls l) 110 [.int .i64 n] H fun v H'=>v=lstI (opsI n) ∧ H'=H:=
 WpCall.en (enc:=fun n:Int=>[.int .i64 n]) (ok:=fun _=>True) (out:=fun n=>lstI (opsI n)) i1E_inj (x:=n) (hl _) trivial
theorem ls_en {l:List En} (hl:∀ ar,lookN l 109 ar=enLs.sp ar) (n:Nat) (hn:3 ≤ n ∧ n < 2 ^ 30) (H:Hp):WpCall Try.prog (cfgN pls l) 109 [.int .i64 n] H fun v H'=>v=lstI (loopI n) ∧ H'=H:=
 WpCall.en (enc:=natE) (ok:=fun n=>3 ≤ n ∧ n < 2 ^ 30) (out:=fun n=>lstI (loopI n)) natE_inj (x:=n) (hl _) hn
theorem mt_en {l:List En} (hl:∀ ar,lookN l 108 ar=enMt.sp ar) (s w:List Int) (h:mtOk (s,w)) (H:Hp):WpCall Try.prog (cfgN pls l) 108 [lstI s,lstI w] H fun v H'=>v=.bool (matchI s w) ∧ H'=H:=
 WpCall.en (enc:=mtE) (ok:=mtOk) (out:=fun x=>.bool (matchI x.1 x.2)) mtE_inj (x:=(s,w)) (hl _) h
theorem xt0 (a b:AV):Ab.extract (.tup [a,b]) 0=some a:=rfl
theorem xt1 (a b:AV):Ab.extract (.tup [a,b]) 1=some b:=rfl
theorem valid31 (s:List Int):validI 31 s=(decide ((3:Int) ≤ s.length) && decide ((s.length:Int).tmod 2=1) && decide (lvI s.length ≤ 16) && matchI s (loopI s.length)):=by
 have ht:(s.length:Int).tmod 2=((s.length % 2:Nat):Int):=by rw [Int.tmod_eq_emod_of_nonneg (by omega)];omega
 have e1:decide ((s.length:Int).tmod 2=1)=decide (s.length % 2=1):=by rw [ht];exact decide_eq_decide.2 (by omega)
 have e2:decide ((3:Int) ≤ s.length)=decide (3 ≤ s.length):=decide_eq_decide.2 (by omega)
 rw [e1,e2];rfl
theorem valid30 (a:Int) (s:List Int):validI 30 (a :: s)=(!decide ((7:Int) < ((s.length + 1:Nat):Int)) && decide (a=2) && s.all fun x=>decide (x=1)):=by
 have e1:(!decide ((7:Int) < ((s.length + 1:Nat):Int)))=decide ((a :: s).length ≤ 7):=by
   rw [← decide_not];exact decide_eq_decide.2 (by simp only [List.length_cons];omega)
 have e2:decide (1 ≤ (a :: s).length)=true:=by simp
 rw [e1]
 show (decide (1 ≤ (a :: s).length) && decide ((a :: s).length ≤ 7) && decide (a=2) && s.all fun x=>decide (x=1))=_
 rw [e2,Bool.true_and]
theorem valid22 (a b c:Int):validI 22 [a,b,c]=if b=2 then (decide (a=1) && decide (c=2)) else matchI [a,b,c] [1,1,1]:=by
 have e:validI 22 [a,b,c]=if (22:Int)=22 ∧ b=2 then (decide (a=1) && decide (c=2)) else matchI [a,b,c] [1,1,1]:=rfl
 rw [e];simp
theorem valid_no {op:Int} (s:List Int) (h:(arI op).2=false):validI op s=false:=by rw [validI,if_pos h]
theorem valid_len {op:Int} {s:List Int} (h:0 ≤ (arI op).1) (h2:(arI op).1 ≠ s.length):validI op s=false:=by
 unfold validI
 split
 · rfl
 · rw [if_pos ⟨h,h2⟩]
theorem valid_op {op:Int} {s:List Int} (h:(arI op).2=true) (h2:(arI op).1=s.length) (h1:op ≠ 31) (h3:op ≠ 30) (h4:op ≠ 22):validI op s=matchI s (opsI op):=by
 unfold validI
 rw [if_neg (by rw [h];simp),if_neg (fun k=>k.2 h2),if_neg h1,if_neg h3,if_neg (fun k=>h4 k.1)]
theorem opsI_len (op:Int):(opsI op).length ≤ 3:=by
 unfold opsI
 repeat' split
 all_goals decide
theorem ar_nn {op:Int} (h1:op ≠ 31) (h3:op ≠ 30):0 ≤ (arI op).1:=by
 unfold arI
 repeat' split
 all_goals (first|decide|omega)
theorem validOps_con (ρ : Nat → Int) (x : Nd × List Int) (hx : x.2.length < 2 ^ 30) : Con Try.prog ρ 70 (voE x) (.bool (validI x.1.op x.2)) := Con.lev fit (pls := pls) (levIr_ok ρ) (.cons (.agg (Nd.pure _)) (.cons (ints_pure _) .nil)) (.bool _) (by
  obtain ⟨⟨op,imm,kids⟩,s⟩:=x
  have hw:Plain (cfgN pls levIr) 70:=plainN (fun _=>rfl) rfl
  rw [voE]
  simp only [Nd.cells] at hx ⊢
  have hq:(2:Int) ≠ 0:=by decide
  by_cases h31:op=31
  · subst h31
    have hv:arV 31=.tup [.int .i64 (-1),.bool true]:=rfl
    have hmt:mtOk (s,loopI s.length):=⟨by simp [loopI],by simp [loopI];omega⟩
    refine WpCall.slim (M:=106) (rs:=[.tmp 4]) (hw.call _) hw.ice hw.froz Try.func70 rfl rfl code70.2 rfl ?_;dsimp only [code70,envOf,Nat.reduceAdd]
    have gh0:=@xt0
    have gh1:=@xt1
    repeat' (first
       | (apply Rx.nl ?_;clear hK K)|apply Ry.o ?_|(apply Ry.call ?_;first|refine Rx.k (ar_en (fun _=>rfl) _ _) ?_|refine Rx.k (lv_en (fun _=>rfl) _ (by omega) _) ?_|refine Rx.k (ls_en (fun _=>rfl) _ (by omega) _) ?_|refine Rx.k (mt_en (fun _=>rfl) _ _ hmt _) ?_)|apply Ry.gu ?_|(apply Ry.gd (fun hg hgp=>?_) (fun hg hgp=>?_) <;> try (cases hg;done))|(apply Ry.cd (fun hb hbp=>?_) (fun hb hbp=>?_) <;> try (cases hb;done))|apply Wp.seq ?_|(apply Wp.ops' fun K hK=>?_)|apply Wp.block ?_|apply Rx.sk ?_|apply Rx.rt ?_|apply Rx.xt ?_)
    all_goals
      refine ⟨eI,_,eRW,?_⟩;try simp only [oneOr]
      rw [valid31];(try simp only [Bool.not_eq_true',Bool.not_eq_false'] at *);simp only [*,decide_true,decide_false,Bool.false_or,Bool.or_false,Bool.true_or,Bool.or_true,Bool.false_and,Bool.and_false,Bool.true_and,Bool.and_true,Bool.not_true,Bool.not_false,if_true,if_false,Int.reduceEq]
  by_cases h30:op=30
  · subst h30
    have hv:arV 30=.tup [.int .i64 (-1),.bool true]:=rfl
    cases s with
    | nil =>
      refine WpCall.slim (M:=106) (rs:=[.tmp 4]) (hw.call _) hw.ice hw.froz Try.func70 rfl rfl code70.2 rfl ?_;dsimp only [code70,envOf,Nat.reduceAdd]
      have gh0:=@xt0
      have gh1:=@xt1
      repeat' (first
         | (apply Rx.nl ?_;clear hK K)|apply Ry.o ?_|(apply Ry.call ?_;first|refine Rx.k (ar_en (fun _=>rfl) _ _) ?_)|apply Ry.gu ?_|(apply Ry.gd (fun hg hgp=>?_) (fun hg hgp=>?_) <;> try (cases hg;done))|(apply Ry.cd (fun hb hbp=>?_) (fun hb hbp=>?_) <;> try (cases hb;done))|apply Wp.seq ?_|(apply Wp.ops' fun K hK=>?_)|apply Wp.block ?_|apply Rx.sk ?_|apply Rx.rt ?_|apply Rx.xt ?_)
      all_goals (refine ⟨eI,_,eR,?_⟩;try simp only [oneOr])
      rfl
    | cons a s =>
      have hsl:=slice_tl a s
      simp only [List.length_cons] at hx
      refine WpCall.slim (M:=106) (rs:=[.tmp 4]) (hw.call _) hw.ice hw.froz Try.func70 rfl rfl code70.2 rfl ?_;dsimp only [code70,envOf,Nat.reduceAdd]
      have gh0:=@xt0
      have gh1:=@xt1
      repeat' (first
         | (apply Rx.nl ?_;clear hK K)|apply Ry.o ?_|(apply Ry.call ?_;first|refine Rx.k (ar_en (fun _=>rfl) _ _) ?_)|apply Ry.gu ?_|(apply Ry.gd (fun hg hgp=>?_) (fun hg hgp=>?_) <;> try (cases hg;done))|(apply Ry.cd (fun hb hbp=>?_) (fun hb hbp=>?_) <;> try (cases hb;done))|apply Wp.seq ?_|(apply Wp.ops' fun K hK=>?_)|apply Wp.block ?_|apply Rx.sk ?_|apply Rx.rt ?_|apply Rx.xt ?_)
      · all_goals (refine ⟨eI, _, eR, ?_⟩; try simp only [oneOr])
        rw [valid30];(try simp only [Bool.not_eq_true',Bool.not_eq_false'] at *);simp only [*,decide_true,decide_false,Bool.false_or,Bool.or_false,Bool.true_or,Bool.or_true,Bool.false_and,Bool.and_false,Bool.true_and,Bool.and_true,Bool.not_true,Bool.not_false,if_true,if_false,Int.reduceEq]
      · refine Wp.forI [1, 2, 72, 73] [] 74 s.length (fun i E H => (s.all fun x => decide (x = 1)) = (s.drop i).all fun x => decide (x = 1)) eE (by simp) ?_
        rintro i E H2 hi hcE hrH hnH hsI hJ
        (try simp only [forall_cons,forall_nil,and_true,sB,sO,Nat.reduceBEq,Nat.reduceAdd,Nat.reduceLeDiff,tyF, *] at hcE)
        (try simp only [forall_cons,forall_nil,and_true,sB,sO,Nat.reduceBEq,Nat.reduceAdd,Nat.reduceLeDiff,tyF, *] at hrH)
        (try simp only [Hp.next_alloc,Hp.next_set,H0_next,Nat.zero_add,Nat.reduceAdd] at hnH)
        repeat' (first
           | (apply Rx.nl ?_;clear hK K)|apply Rx.o ?_|(apply Rx.cd (fun hb hbp=>?_) (fun hb hbp=>?_) <;> try (cases hb;done))|apply Wp.seq ?_|(apply Wp.ops' fun K hK=>?_)|apply Wp.block ?_|apply Rx.sk ?_|apply Rx.rt ?_|apply Rx.xt ?_)
        · have hlt : i < s.length := by simpa using hb
          have hgx:s[i]?=some s[i]:=List.getElem?_eq_getElem hlt
          have hdr:((s.drop i).all fun x=>decide (x=1))=(decide (s[i]=1) && (s.drop (i + 1)).all fun x=>decide (x=1)):=by rw [List.drop_eq_getElem_cons hlt,List.all_cons]
          repeat' (first
             | (apply Rx.nl ?_;clear hK K)|apply Rx.o ?_|(apply Rx.cd (fun hb hbp=>?_) (fun hb hbp=>?_) <;> try (cases hb;done))|apply Wp.seq ?_|(apply Wp.ops' fun K hK=>?_)|apply Wp.block ?_|apply Rx.sk ?_|apply Rx.rt ?_|apply Rx.xt ?_)
          · all_goals (refine ⟨eI, _, eR, ?_⟩; try simp only [oneOr])
            rw [valid30,hJ,hdr];(try simp only [Bool.not_eq_true',Bool.not_eq_false'] at *);simp only [*,decide_true,decide_false,Bool.false_or,Bool.or_false,Bool.true_or,Bool.or_true,Bool.false_and,Bool.and_false,Bool.true_and,Bool.and_true,Bool.not_true,Bool.not_false,if_true,if_false,Int.reduceEq]
          · refine ⟨by omega, eL, eL, eN, (by simp only [sB, Nat.reduceBEq, *]; exact i64_succ (n := s.length) (by omega) (by omega)), ?_⟩
            rw [hJ,hdr];(try simp only [Bool.not_eq_true',Bool.not_eq_false'] at *);simp only [*,decide_true,decide_false,Bool.false_or,Bool.or_false,Bool.true_or,Bool.or_true,Bool.false_and,Bool.and_false,Bool.true_and,Bool.and_true,Bool.not_true,Bool.not_false,if_true,if_false,Int.reduceEq]
        · repeat' (first
             | (apply Rx.nl ?_;clear hK K)|apply Rx.o ?_|(apply Rx.cd (fun hb hbp=>?_) (fun hb hbp=>?_) <;> try (cases hb;done))|apply Wp.seq ?_|(apply Wp.ops' fun K hK=>?_)|apply Wp.block ?_|apply Rx.sk ?_|apply Rx.rt ?_|apply Rx.xt ?_)
          all_goals (refine ⟨eI,_,eR,?_⟩;try simp only [oneOr])
          rw [show i=s.length by simp at hb;omega,List.drop_length] at hJ
          have hJ2:(s.all fun x=>decide (x=1))=true:=hJ
          rw [valid30,hJ2];(try simp only [Bool.not_eq_true',Bool.not_eq_false'] at *);simp only [*,decide_true,decide_false,Bool.false_or,Bool.or_false,Bool.true_or,Bool.or_true,Bool.false_and,Bool.and_false,Bool.true_and,Bool.and_true,Bool.not_true,Bool.not_false,if_true,if_false,Int.reduceEq]
      · all_goals (refine ⟨eI, _, eR, ?_⟩; try simp only [oneOr])
        rw [valid30];(try simp only [Bool.not_eq_true',Bool.not_eq_false'] at *);simp only [*,decide_true,decide_false,Bool.false_or,Bool.or_false,Bool.true_or,Bool.or_true,Bool.false_and,Bool.and_false,Bool.true_and,Bool.and_true,Bool.not_true,Bool.not_false,if_true,if_false,Int.reduceEq]
  have hnn:=ar_nn h31 h30
  cases hok:(arI op).2 with
  | false =>
    have hv:arV op=.tup [.int .i64 (arI op).1,.bool false]:=by rw [arV,hok]
    refine WpCall.slim (M:=106) (rs:=[.tmp 4]) (hw.call _) hw.ice hw.froz Try.func70 rfl rfl code70.2 rfl ?_;dsimp only [code70,envOf,Nat.reduceAdd]
    have gh0:=@xt0
    have gh1:=@xt1
    repeat' (first
       | (apply Rx.nl ?_;clear hK K)|apply Ry.o ?_|(apply Ry.call ?_;first|refine Rx.k (ar_en (fun _=>rfl) _ _) ?_)|apply Ry.gu ?_|(apply Ry.gd (fun hg hgp=>?_) (fun hg hgp=>?_) <;> try (cases hg;done))|(apply Ry.cd (fun hb hbp=>?_) (fun hb hbp=>?_) <;> try (cases hb;done))|apply Wp.seq ?_|(apply Wp.ops' fun K hK=>?_)|apply Wp.block ?_|apply Rx.sk ?_|apply Rx.rt ?_|apply Rx.xt ?_)
    all_goals
      refine ⟨eI,_,eRW,?_⟩;try simp only [oneOr]
      rw [valid_no s hok]
  | true =>
    by_cases hlen:(arI op).1=s.length
    · have hv : arV op = .tup [.int .i64 s.length, .bool true] := by rw [arV, hok, hlen]
      by_cases h22:op=22
      · subst h22
        obtain ⟨a,b,c,rfl⟩:=len3 (s:=s) (by have e:(arI 22).1=3:=rfl;rw [e] at hlen;omega)
        have hmt:mtOk ([a,b,c],opsI 22):=⟨Nat.le_refl _,by have:=opsI_len 22;simp only [];omega⟩
        refine WpCall.slim (M:=106) (rs:=[.tmp 4]) (hw.call _) hw.ice hw.froz Try.func70 rfl rfl code70.2 rfl ?_;dsimp only [code70,envOf,Nat.reduceAdd]
        have gh0:=@xt0
        have gh1:=@xt1
        repeat' (first
           | (apply Rx.nl ?_;clear hK K)|apply Ry.o ?_|(apply Ry.call ?_;first|refine Rx.k (ar_en (fun _=>rfl) _ _) ?_|refine Rx.k (ops_en (fun _=>rfl) _ _) ?_|refine Rx.k (mt_en (fun _=>rfl) _ _ hmt _) ?_)|apply Ry.gu ?_|(apply Ry.gd (fun hg hgp=>?_) (fun hg hgp=>?_) <;> try (cases hg;done))|(apply Ry.cd (fun hb hbp=>?_) (fun hb hbp=>?_) <;> try (cases hb;done))|apply Wp.seq ?_|(apply Wp.ops' fun K hK=>?_)|apply Wp.block ?_|apply Rx.sk ?_|apply Rx.rt ?_|apply Rx.xt ?_)
        all_goals
          refine ⟨eI,_,eRW,?_⟩;try simp only [oneOr]
          rw [valid22]
          first
          | (simp_all;done)
          | (rw [if_neg (by assumption)];rfl)
      · have hmt : mtOk (s, opsI op) := ⟨by have := ar_ops op hnn; simp only []; omega, by have := opsI_len op; simp only []; omega⟩
        have hl0:(0:Int) ≤ s.length:=by omega
        refine WpCall.slim (M:=106) (rs:=[.tmp 4]) (hw.call _) hw.ice hw.froz Try.func70 rfl rfl code70.2 rfl ?_;dsimp only [code70,envOf,Nat.reduceAdd]
        have gh0:=@xt0
        have gh1:=@xt1
        repeat' (first
           | (apply Rx.nl ?_;clear hK K)|apply Ry.o ?_|(apply Ry.call ?_;first|refine Rx.k (ar_en (fun _=>rfl) _ _) ?_|refine Rx.k (ops_en (fun _=>rfl) _ _) ?_|refine Rx.k (mt_en (fun _=>rfl) _ _ hmt _) ?_)|apply Ry.gu ?_|(apply Ry.gd (fun hg hgp=>?_) (fun hg hgp=>?_) <;> try (cases hg;done))|(apply Ry.cd (fun hb hbp=>?_) (fun hb hbp=>?_) <;> try (cases hb;done))|apply Wp.seq ?_|(apply Wp.ops' fun K hK=>?_)|apply Wp.block ?_|apply Rx.sk ?_|apply Rx.rt ?_|apply Rx.xt ?_)
        all_goals
          refine ⟨eI,_,eRW,?_⟩;try simp only [oneOr]
          rw [valid_op hok hlen h31 h30 h22]
    · have hv : arV op = .tup [.int .i64 (arI op).1, .bool true] := by rw [arV, hok]
      refine WpCall.slim (M:=106) (rs:=[.tmp 4]) (hw.call _) hw.ice hw.froz Try.func70 rfl rfl code70.2 rfl ?_;dsimp only [code70,envOf,Nat.reduceAdd]
      have gh0:=@xt0
      have gh1:=@xt1
      repeat' (first
         | (apply Rx.nl ?_;clear hK K)|apply Ry.o ?_|(apply Ry.call ?_;first|refine Rx.k (ar_en (fun _=>rfl) _ _) ?_)|apply Ry.gu ?_|(apply Ry.gd (fun hg hgp=>?_) (fun hg hgp=>?_) <;> try (cases hg;done))|(apply Ry.cd (fun hb hbp=>?_) (fun hb hbp=>?_) <;> try (cases hb;done))|apply Wp.seq ?_|(apply Wp.ops' fun K hK=>?_)|apply Wp.block ?_|apply Rx.sk ?_|apply Rx.rt ?_|apply Rx.xt ?_)
      all_goals
        refine ⟨eI,_,eRW,?_⟩;try simp only [oneOr]
        rw [valid_len hnn hlen])
end Go.Proofs.Ytpbcimfiofmoeaa
namespace Go.Proofs.Ytpbcimfiofmoeaa
set_option maxRecDepth 20000
set_option maxRecDepth 20000
open Go Go.Ab
namespace tyV1
def tyF:=And.intro @tq2 (And.intro @tq3 (And.intro @tq5 (And.intro @tq9 (And.intro @tq23 (And.intro @tq25 (And.intro @tq61 (And.intro @tq121 (And.intro @cv2_121 (And.intro @cv3_5 (And.intro @cv3_121 (And.intro @tq145 (And.intro @cv3_145 (And.intro @cv121_5 (@bu1))))))))))))))
end tyV1
open tyV1
noncomputable def code117:{ c:SC // slim 20 (Try.f117.body.getD .skip)=c }:=by
 refine ⟨?_,?_⟩
 rotate_left
 · simp only [Try.f117, Option.getD_some, slim, slimR, slimL, slimD, slimG, Nat.blt, Nat.ble]
   rfl
noncomputable def code86:{ c:SC // slim 29 (Try.f86.body.getD .skip)=c }:=by
 refine ⟨?_,?_⟩
 rotate_left
 · simp only [Try.f86, Option.getD_some, slim, slimR, slimL, slimD, slimG, Nat.blt, Nat.ble]
   rfl
theorem apU_wp {cfg:Cfg} (hw:Plain cfg 117) (hkeep:cfg.keep 117=false) {H:Hp} {v:AV} {b:List Int} {lo:Nat} (hv:BytB H v b lo) (hb:b.length < 2 ^ 38) (n:Int) :
   WpCall Try.prog cfg 117 [v,.int .u64 n] H fun w H'=>BytB H' w (b ++ bytes8 n 8) lo ∧ H.next ≤ H'.next ∧ ∀ k,k < lo → H'.get k=H.get k:=by
 obtain ⟨r0,i0,hve,_⟩:=id hv
 have hone:AV.one v=true:=by rw [hve];rfl
 clear hve
 refine WpCall.slim (M:=20) (rs:=[.tmp 4]) (hw.call _) hw.ice hw.froz Try.func117 rfl rfl code117.2 rfl ?_;dsimp only [code117,envOf,Nat.reduceAdd]
 repeat' (first
    | (apply Rx.nl ?_;clear hK K)|apply Rx.o ?_|apply Wp.seq ?_|(apply Wp.ops' fun K hK=>?_)|apply Wp.block ?_|apply Rx.sk ?_|apply Rx.rt ?_|apply Rx.xt ?_)
 refine Wp.forI [1] [] 5 8 (fun i E H2=>∃ w,E.at 0=w ∧ BytB H2 w (b ++ bytes8 n i) lo ∧ ∀ k,k < lo → H2.get k=H.get k) eE ⟨v,eE,by simpa [bytes8] using hv,fun _ _=>rfl⟩ ?_
 rintro i E H2 hi hcE hrH hnH hsI ⟨w,k0,hw2,hold⟩
 (try simp only [forall_cons,forall_nil,and_true,sB,sO,Nat.reduceBEq,Nat.reduceAdd,Nat.reduceLeDiff,tyF, *] at hcE)
 (try simp only [forall_cons,forall_nil,and_true,sB,sO,Nat.reduceBEq,Nat.reduceAdd,Nat.reduceLeDiff,tyF, *] at hrH)
 (try simp only [Hp.next_alloc,Hp.next_set,H0_next,Nat.zero_add,Nat.reduceAdd] at hnH)
 by_cases hlt:i < 8
 · have hlt' : (i : Int) < 8 := by omega
   have e1:IntKind.wrap .i64 (8 * (i:Int))=((8 * i:Nat):Int):=by rw [i64_id (by omega) (by omega)];omega
   have e2:IntKind.wrap .u64 ((8 * i:Nat):Int)=((8 * i:Nat):Int):=(by decide:∀ i:Fin 8,IntKind.wrap .u64 ((8 * i.val:Nat):Int)=((8 * i.val:Nat):Int)) ⟨i,hlt⟩
   have e4:∀ (D:BinOp → Sx → Sx → Option Bool) (t:TypeId),binA Try.prog D .shr t (.int .u64 n) (.int .u64 ((8 * i:Nat):Int))=some (.int .u64 (n.fdiv (2 ^ (8 * i)))):=fun D t=>bin_shr (by omega) rfl
   repeat' (first
      | (apply Rx.nl ?_;clear hK K)|apply Ry.o ?_|(apply Ry.cd (fun hb hbp=>?_) (fun hb hbp=>?_) <;> try (cases hb;done))|apply Wp.seq ?_|(apply Wp.ops' fun K hK=>?_)|apply Wp.block ?_|apply Rx.sk ?_|apply Rx.rt ?_|apply Rx.xt ?_)
   have hwb:BytN (H2.alloc (.cells [.int .u8 (byteQ n i)] 0 true)) w (b ++ bytes8 n i) lo:=.inr (hw2.keep (Nat.le_succ _) fun k hk=>by rw [Hp.get_alloc,if_neg (by have:=(hw2.lt hk).2;omega)])
   have hlo2:lo ≤ H2.next:=by obtain ⟨r,im,_,_,_,h1,h2⟩:=hw2;omega
   obtain ⟨v5,H5,a5,s5,n5,f5,o5⟩:=appB_one (r:=H2.next) (imm:=0) (byteQ n i) hwb (by simp only [Hp.next_alloc];omega) (by rw [Hp.get_alloc,if_pos rfl]) (by rw [List.length_append,bytes8_len];omega)
   have n5':H2.next ≤ H5.next:=by simp only [Hp.next_alloc] at n5;omega
   have o5':∀ k,k < lo → H5.get k=H.get k:=fun k hk=>by rw [f5 k hk,Hp.get_alloc,if_neg (by omega),hold k hk]
   clear n5 f5 o5
   refine WpL.append eV eV (by rw [hkeep];exact a5) ?_
   repeat' (first
      | (apply Rx.nl ?_;clear hK K)|apply Rx.o ?_|apply Wp.seq ?_|(apply Wp.ops' fun K hK=>?_)|apply Wp.block ?_|apply Rx.sk ?_|apply Rx.rt ?_|apply Rx.xt ?_)
   refine ⟨by omega,eL,eL,eN,(by simp only [sB,Nat.reduceBEq, *];exact i64_succ (n:=8) (by omega) (by omega)),?_⟩
   exact ⟨v5,eE,by rw [bytes8_succ,← List.append_assoc];exact s5,o5'⟩
 · have hlt' : ¬ (i : Int) < 8 := by omega
   repeat' (first
      | (apply Rx.nl ?_;clear hK K)|apply Ry.o ?_|(apply Ry.cd (fun hb hbp=>?_) (fun hb hbp=>?_) <;> try (cases hb;done))|apply Wp.seq ?_|(apply Wp.ops' fun K hK=>?_)|apply Wp.block ?_|apply Rx.sk ?_|apply Rx.rt ?_|apply Rx.xt ?_)
   all_goals (refine ⟨eI,_,eR,?_⟩;try simp only [oneOr])
   have hie:i=8:=by omega
   rw [hie] at hw2
   exact ⟨hw2,by omega,hold⟩
def keyBy (n:Nd):List Int:=IntKind.wrap .u8 n.op :: (bytes8 (IntKind.wrap .u64 n.imm) 8 ++ n.kids.flatMap fun k=>bytes8 (IntKind.wrap .u64 k) 8)
theorem keyBy_eq (n:Nd):keyBy n=[IntKind.wrap .u8 n.op] ++ bytes8 (IntKind.wrap .u64 n.imm) 8 ++ n.kids.flatMap fun k=>bytes8 (IntKind.wrap .u64 k) 8:=by
 rw [keyBy];simp
theorem bytesOf_map:∀ l:List Int,bytesOfA (l.map (.int .u8))=some (strB l)
 | []=>rfl
 | a :: l => by
   have:=bytesOf_map l
   simp only [List.map_cons,bytesOfA,this];rfl
theorem conv_str {H:Hp} {v:AV} {l:List Int} {lo:Nat} (hv:BytB H v l lo):convertA Try.prog H 61 9 v=some (.str (strB l)):=by
 obtain ⟨r,im,rfl,hg,_⟩:=hv
 have hx:srcCells H 1 (.sl r 0 l.length 1)=some (l.length,l.map (.int .u8)):=by
   have:=src_sl (H:=H) (r:=r) (o:=0) (n:=l.length) (z:=1) (s:=1) hg (by simp)
   rw [this,List.drop_zero,List.take_of_length_le (by simp)]
 simp only [convertA,Try.underlying61,Try.underlying9,Try.underlying5,hx]
 rw [bytesOf_map]
def ndE1 (n:Nd):List AV:=[.agg n.cells]
theorem ndE1_inj (x y:Nd) (h:ndE1 x=ndE1 y):x=y:=by
 simp only [ndE1,List.cons.injEq,AV.agg.injEq,and_true] at h;exact Nd.inj h
theorem key_con (ρ : Nat → Int) (n : Nd) (hn : n.kids.length < 2 ^ 30) : Con Try.prog ρ 86 [.agg n.cells] (.str (strB (keyBy n))) := Con.lev fit (pls := pls) (l := []) trivial (.cons (.agg n.pure) .nil) (.str _) (by
  have hw:=plain0 86
  refine WpCall.slim (M:=29) (rs:=[.tmp 2]) (hw.call _) hw.ice hw.froz Try.func86 rfl rfl code86.2 rfl ?_;dsimp only [code86,envOf,Nat.reduceAdd]
  repeat' (first
     | (apply Rx.nl ?_;clear hK K)|apply Rx.o ?_|apply Wp.seq ?_|(apply Wp.ops' fun K hK=>?_)|apply Wp.block ?_|apply Rx.sk ?_|apply Rx.rt ?_|apply Rx.xt ?_)
  refine WpL.call rfl eVk eAk ?_;simp only [List.cons_append,List.nil_append,List.append_nil]
  refine WpCall.mono ?_ (apU_wp (plain0 _) rfl (b:=[IntKind.wrap .u8 n.op]) (lo:=1) ⟨1,0,rfl,by rw [Hp.get_alloc,if_pos (by rfl)];rfl,Nat.zero_le _,Nat.le_refl _,by simp [Hp.next_alloc]⟩ (by simp) _)
  rintro w H1 ⟨hw1,n1,o1⟩
  have g1:H1.get 0=some (.cells n.cells 0 true):=by rw [o1 0 (by omega)];rfl
  have n1':1 ≤ H1.next:=by simp only [Hp.next_alloc] at n1;omega
  clear n1 o1
  dsimp only [setO]
  repeat' (first
     | (apply Rx.nl ?_;clear hK K)|apply Rx.o ?_|apply Wp.seq ?_|(apply Wp.ops' fun K hK=>?_)|apply Wp.block ?_|apply Rx.sk ?_|apply Rx.rt ?_|apply Rx.xt ?_)
  refine Wp.forI [1,2,16,17] [] 18 n.kids.length (fun j E H=>∃ w,E.at 3=w ∧ BytB H w ([IntKind.wrap .u8 n.op] ++ bytes8 (IntKind.wrap .u64 n.imm) 8 ++ (n.kids.take j).flatMap fun k=>bytes8 (IntKind.wrap .u64 k) 8) 1 ∧ H.get 0=some (.cells n.cells 0 true)) eE ⟨w,eE,by simpa using hw1,g1⟩ ?_
  rintro j E H2 hj hcE hrH hnH hsI ⟨w2,k3,hw2,g2⟩
  (try simp only [forall_cons,forall_nil,and_true,sB,sO,Nat.reduceBEq,Nat.reduceAdd,Nat.reduceLeDiff,tyF, *] at hcE)
  (try simp only [forall_cons,forall_nil,and_true,sB,sO,Nat.reduceBEq,Nat.reduceAdd,Nat.reduceLeDiff,tyF, *] at hrH)
  (try simp only [Hp.next_alloc,Hp.next_set,H0_next,Nat.zero_add,Nat.reduceAdd] at hnH)
  by_cases hlt:j < n.kids.length
  · have hlt' : (j : Int) < n.kids.length := by omega
    have hgx:n.kids[j]?=some n.kids[j]:=List.getElem?_eq_getElem hlt
    have htk:n.kids.take (j + 1)=n.kids.take j ++ [n.kids[j]]:=by rw [List.take_add_one,hgx];rfl
    have hfl:((n.kids.take j).flatMap fun k=>bytes8 (IntKind.wrap .u64 k) 8).length ≤ 8 * j:=by
      rw [List.length_flatMap]
      simp only [bytes8_len]
      have:((n.kids.take j).map fun _=>8).sum=8 * (n.kids.take j).length:=by
        generalize n.kids.take j=q
        induction q with
        | nil=>rfl
        | cons a q ih=>simp [ih];omega
      rw [this,List.length_take];omega
    generalize n.kids[j]=kd at *
    repeat' (first
       | (apply Rx.nl ?_;clear hK K)|apply Ry.o ?_|(apply Ry.cd (fun hb hbp=>?_) (fun hb hbp=>?_) <;> try (cases hb;done))|apply Wp.seq ?_|(apply Wp.ops' fun K hK=>?_)|apply Wp.block ?_|apply Rx.sk ?_|apply Rx.rt ?_|apply Rx.xt ?_)
    refine WpL.call rfl eVk eAk ?_;simp only [List.cons_append,List.nil_append,List.append_nil]
    refine WpCall.mono ?_ (apU_wp (plain0 _) rfl hw2 (by rw [List.length_append,List.length_append,bytes8_len,List.length_singleton];omega) _)
    rintro w3 H3 ⟨hw3,n3,o3⟩
    have g3:H3.get 0=some (.cells n.cells 0 true):=by rw [o3 0 (by omega)];exact g2
    dsimp only [setO]
    repeat' (first
       | (apply Rx.nl ?_;clear hK K)|apply Rx.o ?_|apply Wp.seq ?_|(apply Wp.ops' fun K hK=>?_)|apply Wp.block ?_|apply Rx.sk ?_|apply Rx.rt ?_|apply Rx.xt ?_)
    refine ⟨by omega,eL,eL,eN,(by simp only [sB,Nat.reduceBEq, *];exact i64_succ (n:=n.kids.length) (by omega) (by omega)),?_⟩
    exact ⟨w3,eE,by rw [htk,List.flatMap_append,List.flatMap_cons,List.flatMap_nil,List.append_nil,← List.append_assoc];exact hw3,g3⟩
  · have hlt' : ¬ (j : Int) < n.kids.length := by omega
    have hje:j=n.kids.length:=by omega
    subst hje
    rw [List.take_length] at hw2
    have hcv:=conv_str hw2
    rw [← keyBy_eq] at hcv
    repeat' (first
       | (apply Rx.nl ?_;clear hK K)|apply Ry.o ?_|(apply Ry.cd (fun hb hbp=>?_) (fun hb hbp=>?_) <;> try (cases hb;done))|apply Wp.seq ?_|(apply Wp.ops' fun K hK=>?_)|apply Wp.block ?_|apply Rx.sk ?_|apply Rx.rt ?_|apply Rx.xt ?_)
    all_goals (refine ⟨eI,_,eR,?_⟩;try simp only [oneOr]))
end Go.Proofs.Ytpbcimfiofmoeaa
namespace Go.Proofs.Ytpbcimfiofmoeaa
set_option maxRecDepth 20000
open Go Go.Ab
def hasSl : Nat → AV → Bool
 | 0,_=>false
 | n + 1, v => match v with
   | .sl _ _ _ _=>true
   | .agg cs=>cs.any (hasSl n)
   | _=>false
theorem ic_noSlL {S:Nat → Prop} {H:Hp} {n m k:Nat} (ih:∀ {v u:AV},Ic S n H v u → hasSl m (wkN k v)=false → wkN k u=wkN k v):∀ {cs ds:List AV},All2 (Ic S n H) cs ds → (cs.map (wkN k)).any (hasSl m)=false → ds.map (wkN k)=cs.map (wkN k)
 | [],[],_,_=>rfl
 | c :: cs, d :: ds, h, h2 => by
   simp only [List.map_cons,List.any_cons,Bool.or_eq_false_iff] at h2
   rw [List.map_cons,List.map_cons,ih h.1 h2.1,ic_noSlL ih h.2 h2.2]
theorem ic_noSl {S : Nat → Prop} {H : Hp} : ∀ (n m k : Nat) {v u : AV}, n ≤ m → Ic S n H v u → hasSl m (wkN k v) = false → wkN k u = wkN k v
  | 0,_,_,_,_,_,h,_=>h.elim
  | n + 1,0,_,_,_,h,_,_=>by omega
  | n + 1, m + 1, k, v, u, hm, h, h2 => by
    cases v with
    | sl r o l z=>cases k <;> simp [wkN,hasSl] at h2
    | agg cs =>
      obtain ⟨ds,h1,rfl⟩:=h
      cases k with
      | zero =>
        have e:∀ v,wkN 0 v=v:=fun v=>by cases v <;> rfl
        have h3:(cs.map (wkN 0)).any (hasSl m)=false:=by
          rw [show cs.map (wkN 0)=cs by rw [show wkN 0=id from funext e,List.map_id]]
          simpa [wkN,hasSl] using h2
        have:=ic_noSlL (k:=0) (fun h4 h5=>ic_noSl n m 0 (by omega) h4 h5) h1 h3
        rw [show wkN 0=id from funext e,List.map_id,List.map_id] at this
        rw [this]
      | succ k =>
        have h3:(cs.map (wkN k)).any (hasSl m)=false:=by simpa [wkN,hasSl] using h2
        show AV.agg (ds.map (wkN k))=AV.agg (cs.map (wkN k))
        rw [ic_noSlL (fun h4 h5=>ic_noSl n m k (by omega) h4 h5) h1 h3]
    | _=>obtain ⟨_,rfl⟩:=h;rfl
theorem WpCall.enX {l:List En} {fn:FuncId} {α:Type} {ok:α → Prop} {enc:α → List AV} {out:α → AV} (inj:∀ x y,enc x=enc y → x=y) (hl:∀ ar,lookN l fn ar=spP ok enc out (ar.map (wkN 60))) (hi:iceN l fn=true) (hns:∀ y,(enc y).any (hasSl 90)=false) {x:α} (hx:ok x) {S:Nat → Prop} {n:Nat} (hn:n ≤ 90) {H:Hp} {args us:List AV} (h1:All2 (Ic S n H) args us) (h2:us.map (wkN 60)=enc x) :
   WpCall Try.prog (cfgN pls l) fn args H fun v H'=>v=out x ∧ Icy S H H':=by
 by_cases hd:∃ y,ok y ∧ enc y=args.map (wkN 60)
 · obtain ⟨y, _, e⟩ := hd
   have h3:us.map (wkN 60)=args.map (wkN 60):=ic_noSlL (m:=90) (fun h4 h5=>ic_noSl n 90 60 hn h4 h5) h1 (by rw [← e];exact hns y)
   refine WpCall.mono ?_ (WpCall.kn (r:=out x) (by show lookN l fn args=_;rw [hl,← h3,h2];exact spP_enc inj hx))
   rintro v H' ⟨rfl,rfl⟩
   exact ⟨rfl,Icy.refl _ _⟩
 · obtain ⟨H', h4, h5⟩ := Ic.iceL (n := 100) (l := args) (m := us) (All2.mono (fun a b k => Ic.up k (by omega)) h1)
   refine WpCall.iced (r:=out x) ?_ hi rfl h4 ?_ ⟨rfl,h5⟩
   · show lookN l fn args = none
     rw [hl]
     exact spP_none fun y hy e=>hd ⟨y,hy,e⟩
   · show lookN l fn us = _
     rw [hl,h2]
     exact spP_enc inj hx
theorem Wp.join2 {P:Program} {cfg:Cfg} {f N:Nat} {a:SC} {E:Env} {H:Hp} {Q:AX → Env → Hp → Prop} (F:Env → Hp → Prop) (h1:Wp P cfg f N a E H fun x E' H'=>x=.normal ∧ F E' H') (h2:∀ E' H',F E' H' → Q .normal E' H'):Wp P cfg f N a E H Q:=
 Wp.mono (fun x E' H' h=>by obtain ⟨rfl,h⟩:=h;exact h2 E' H' h) h1
end Go.Proofs.Ytpbcimfiofmoeaa
