/- Parts: R3a, R3b, R3c, R3d, R3e, Strs, R3f, R3g, R3h, R3i, R3j, AbWk, AbCut, AbIc, G1, G2. -/
import Derived.Test.YtackdnelcpbfjaaSOG
set_option linter.unusedSimpArgs false
set_option linter.unusedVariables false
set_option linter.unusedSectionVars false
set_option linter.defProp false
namespace Go.Proofs.Ytackdnelcpbfjaa
set_option maxRecDepth 20000
set_option linter.unusedSimpArgs false
set_option linter.unusedVariables false
set_option linter.unusedSectionVars false
set_option linter.defProp false
set_option maxRecDepth 20000
open Go Go.Ab
namespace tyR3a
def tyF := And.intro @tq3 (And.intro @tq9 (And.intro @tq35 (And.intro @tq22 (And.intro @tq23 (And.intro @tq25 (And.intro @tq36 (And.intro @tq39 (And.intro @tq41 (And.intro @tq5 (And.intro @tq2 (@tq37)))))))))))
end tyR3a
open tyR3a
theorem plain0 (f : FuncId) : Plain (cfgN pls []) f := ⟨fun _ => rfl, rfl, rfl⟩
theorem plainN {l : List En} {f : FuncId} (h1 : ∀ args, lookN l f args = none) (h2 : iceN l f = false) : Plain (cfgN pls l) f := ⟨h1, h2, rfl⟩
structure PlainA (cfg : Cfg) (f : FuncId) (args : List AV) : Prop where
  call : cfg.call f args = none
  ice : cfg.ice f = false
  froz : cfg.froz f = false
theorem plainR {α : Type} {sz : α → Nat} {ok : α → Prop} {enc : α → List AV} {out : α → AV} (inj : ∀ x y, enc x = enc y → x = y) {f : FuncId} {l : List En} (x : α) :
    PlainA (cfgN pls (⟨f, false, spP (fun y => ok y ∧ sz y < sz x) enc out⟩ :: l)) f (enc x) := by
  have hf : Nat.beq f f = true := Nat.beq_refl f
  refine ⟨?_, ?_, rfl⟩
  · show lookN _ f (enc x) = none
    simp only [lookN, hf]
    exact spP_none fun y hy e => by rw [inj _ _ e] at hy; exact Nat.lt_irrefl _ hy.2
  · show iceN _ f = false
    simp only [iceN, hf]
def hasS (l : List (List UInt8)) (s : List UInt8) : Bool := l.any fun x => decide (x = s)
def isBinB (op : Int) : Bool := decide (4 ≤ op) && decide (op ≤ 18)
def zeroE (x : Ex) : Bool := decide (x.kind = 0) && decide (x.n = 0) && decide (x.name = []) && decide (x.op = 0) && decide (x.kids.length = 0)
/-- The first function of that name. -/
def findF : List Fu → List UInt8 → Int → Int
  | [], _, _ => -1
  | f :: l, s, i => if f.name = s then i else findF l s (i + 1)
def bsE (s : List UInt8) : List AV := [.str s]
theorem bsE_inj (x y : List UInt8) (h : bsE x = bsE y) : x = y := by simpa [bsE] using h
end Go.Proofs.Ytackdnelcpbfjaa
namespace Go.Proofs.Ytackdnelcpbfjaa
set_option maxRecDepth 20000
set_option linter.unusedSimpArgs false
set_option linter.unusedVariables false
set_option linter.unusedSectionVars false
set_option linter.defProp false
set_option maxRecDepth 20000
open Go Go.Ab
namespace tyR3b
def tyF := And.intro @tq3 (And.intro @tq9 (And.intro @tq36 (And.intro @tq37 (And.intro @tq39 (And.intro @tq46 (@tq2))))))
end tyR3b
open tyR3b
mutual
def depE : Ex → Nat
  | .mk _ _ _ _ ks => depEs ks
def depEs : List Ex → Nat
  | [] => 0
  | e :: es => max (1 + depE e) (depEs es)
end
def exE (x : Ex) : List AV := [.agg x.cells]
theorem exE_inj (x y : Ex) (h : exE x = exE y) : x = y := by simp only [exE, List.cons.injEq, AV.agg.injEq, and_true] at h; exact Ex.inj h
mutual
def n1 : St → Nat
  | .mk _ _ _ _ _ _ _ th el => 1 + nS th + nS el
def nS : List St → Nat
  | [] => 0
  | x :: l => n1 x + nS l
end
mutual
def w1 : St → Nat
  | .mk k _ _ _ _ _ _ th el => (if k = 4 then 1 else 0) + wS th + wS el
def wS : List St → Nat
  | [] => 0
  | x :: l => w1 x + wS l
end
mutual
def m1 : St → Nat → Nat
  | .mk _ _ _ _ _ _ _ th el, d => max d (max (mS th (d + 1)) (mS el (d + 1)))
def mS : List St → Nat → Nat
  | [], _ => 0
  | x :: l, d => max (m1 x d) (mS l d)
end
theorem i64_id {z : Int} (h1 : -9223372036854775808 ≤ z) (h2 : z < 9223372036854775808) : IntKind.wrap .i64 z = z := IntWalk.i64_in _ (by omega)
theorem tup3_0 (a b c : AV) : Ab.extract (.tup [a, b, c]) 0 = some a := rfl
theorem tup3_1 (a b c : AV) : Ab.extract (.tup [a, b, c]) 1 = some b := rfl
theorem tup3_2 (a b c : AV) : Ab.extract (.tup [a, b, c]) 2 = some c := rfl
end Go.Proofs.Ytackdnelcpbfjaa
namespace Go.Proofs.Ytackdnelcpbfjaa
set_option maxRecDepth 20000
set_option linter.unusedSimpArgs false
set_option linter.unusedVariables false
set_option linter.unusedSectionVars false
set_option linter.defProp false
set_option maxRecDepth 20000
open Go Go.Ab
namespace tyR3c
def tyF := And.intro @tq2 (And.intro @tq3 (And.intro @tq9 (And.intro @tq22 (And.intro @tq23 (And.intro @tq25 (And.intro @tq35 (And.intro @tq36 (And.intro @tq37 (And.intro @tq39 (And.intro @tq41 (And.intro @tq44 (And.intro @tq46 (And.intro @tup3_0 (And.intro @tup3_1 (@tup3_2)))))))))))))))
end tyR3c
open tyR3c
mutual
def deep1 : St → Bool
  | .mk _ _ _ _ a v args th el => decide ((20 : Int) < depE a) || decide ((20 : Int) < depE v) || deepS th || deepS el || args.any fun e => decide ((20 : Int) < depE e)
def deepS : List St → Bool
  | [] => false
  | x :: l => deep1 x || deepS l
end
def prE (p : Pr) : List AV := [.agg p.cells]
theorem prE_inj (x y : Pr) (h : prE x = prE y) : x = y := by simp only [prE, List.cons.injEq, AV.agg.injEq, and_true] at h; exact Pr.inj h
def exFn (f : Fu) : Bool := decide ((6 : Int) < f.params.length) || decide ((8 : Int) < f.locals.length) || decide ((200 : Int) < nS f.body) || decide ((16 : Int) < wS f.body) || decide ((20 : Int) < mS f.body 0) || deepS f.body || decide ((20 : Int) < depE f.value)
def exAr (a : Ar) : Bool := decide (a.len < 1) || decide (16 < a.len)
def exB (p : Pr) : Bool := decide ((4 : Int) < p.arrays.length) || decide ((8 : Int) < p.funcs.length) || p.arrays.any exAr || p.funcs.any exFn
end Go.Proofs.Ytackdnelcpbfjaa
namespace Go.Proofs.Ytackdnelcpbfjaa
set_option maxRecDepth 20000
set_option linter.unusedSimpArgs false
set_option linter.unusedVariables false
set_option linter.unusedSectionVars false
set_option linter.defProp false
set_option maxRecDepth 20000
open Go Go.Ab
namespace tyR3d
def tyF := And.intro @tq2 (And.intro @tq3 (And.intro @tq9 (And.intro @tq37 (And.intro @tq39 (And.intro @tq36 (@tq46))))))
end tyR3d
open tyR3d
/-- A node, apart from what hangs on it. -/
def wfX (x : Ex) : Bool :=
  if x.kind = 1 then decide ((x.kids.length : Int) = 0) && decide (x.name = []) && decide (x.op = 0)
  else if x.kind = 2 then decide ((x.kids.length : Int) = 0) && decide (x.n = 0) && decide (x.op = 0) && nameB x.name
  else if x.kind = 3 then decide ((x.kids.length : Int) = 1) && decide (x.n = 0) && decide (x.op = 0) && nameB x.name
  else if x.kind = 4 then decide (x.n = 0) && decide (x.name = []) && ((decide ((x.kids.length : Int) = 2) && isBinB x.op) || (decide ((x.kids.length : Int) = 1) && (decide (x.op = 20) || decide (x.op = 21))))
  else if x.kind = 5 then decide ((x.kids.length : Int) = 3) && decide (x.n = 0) && decide (x.name = []) && decide (x.op = 0)
  else false
mutual
def wfE : Ex → Bool
  | .mk k n s o ks => wfEs ks && wfX (.mk k n s o ks)
def wfEs : List Ex → Bool
  | [] => true
  | e :: es => wfE e && wfEs es
end
theorem intE_inj (x y : Int) (h : ([.int .i64 x] : List AV) = [.int .i64 y]) : x = y := by simpa using h
end Go.Proofs.Ytackdnelcpbfjaa
namespace Go.Proofs.Ytackdnelcpbfjaa
set_option maxRecDepth 20000
set_option linter.unusedSimpArgs false
set_option linter.unusedVariables false
set_option linter.unusedSectionVars false
set_option linter.defProp false
set_option maxRecDepth 20000
open Go Go.Ab
namespace tyR3e
end tyR3e
open tyR3e
def onlyB (x : St) : Bool := decide (x.name = []) && decide (x.to = []) && decide (x.n = 0) && zeroE x.at_ && decide ((x.args.length : Int) = 0)
def flatB (x : St) : Bool := decide ((x.thn.length : Int) = 0) && decide ((x.els.length : Int) = 0)
def wfStK (x : St) : Bool :=
  if x.kind = 1 then flatB x && nameB x.name && decide (x.to = []) && decide (x.n = 0) && zeroE x.at_ && decide ((x.args.length : Int) = 0) && wfE x.value
  else if x.kind = 2 then flatB x && nameB x.name && decide (x.to = []) && decide (x.n = 0) && wfE x.at_ && decide ((x.args.length : Int) = 0) && wfE x.value
  else if x.kind = 3 then onlyB x && wfE x.value
  else if x.kind = 4 then onlyB x && wfE x.value && decide ((x.els.length : Int) = 0)
  else if x.kind = 5 then flatB x && onlyB x && wfE x.value
  else if x.kind = 6 then flatB x && nameB x.name && nameB x.to && decide (x.n = 0) && zeroE x.at_ && zeroE x.value
  else if x.kind = 7 then flatB x && decide (x.name = []) && decide (x.to = []) && decide (0 ≤ x.n) && decide (x.n ≤ 1000000) && zeroE x.at_ && zeroE x.value && decide ((x.args.length : Int) = 0)
  else false
def wfStX (x : St) : Bool := wfEs x.args && wfStK x
end Go.Proofs.Ytackdnelcpbfjaa
namespace Go.Proofs.Ytackdnelcpbfjaa
set_option maxRecDepth 20000
set_option linter.unusedSimpArgs false
set_option linter.unusedVariables false
set_option linter.unusedSectionVars false
set_option linter.defProp false
open Go Go.Ab
/-- v is the row l, in a block of its own from lo on. -/
def StrB (H : Hp) (v : AV) (l : List (List UInt8)) (lo : Nat) : Prop := ∃ r imm, v = .sl r 0 l.length 1 ∧ H.get r = some (.cells (l.map .str) imm true) ∧ imm ≤ l.length ∧ lo ≤ r ∧ r < H.next
def StrN (H : Hp) (v : AV) (l : List (List UInt8)) (lo : Nat) : Prop := (v = .nilS ∧ l = []) ∨ StrB H v l lo
theorem StrB.low {H H' : Hp} {v : AV} {l : List (List UInt8)} {lo : Nat} (h : StrB H v l lo) (hn : H.next ≤ H'.next) (hg : ∀ k, lo ≤ k → k < H.next → H'.get k = H.get k) : StrB H' v l lo := by
  obtain ⟨r, imm, h1, h2, h3, h4, h5⟩ := h
  exact ⟨r, imm, h1, by rw [hg r h4 h5]; exact h2, h3, h4, by omega⟩
/-- The row's own block. -/
def ownS (v : AV) (k : Nat) : Prop := ∃ n, v = .sl k 0 n 1
/-- Nothing but the row's own block was touched; its new block is that one, or new. -/
def OwnFr (v v' : AV) (H H' : Hp) : Prop := (∀ k, k < H.next → ¬ ownS v k → H'.get k = H.get k) ∧ ∀ k, ownS v' k → ownS v k ∨ H.next ≤ k
theorem StrB.lt {H : Hp} {v : AV} {l : List (List UInt8)} {lo : Nat} (h : StrB H v l lo) {k : Nat} (hk : ownS v k) : lo ≤ k ∧ k < H.next := by
  obtain ⟨r, imm, rfl, _, _, h4, h5⟩ := h
  obtain ⟨n, e⟩ := hk
  simp only [AV.sl.injEq] at e
  rw [← e.1]; exact ⟨h4, h5⟩
theorem StrN.lt {H : Hp} {v : AV} {l : List (List UInt8)} {lo : Nat} (h : StrN H v l lo) {k : Nat} (hk : ownS v k) : lo ≤ k ∧ k < H.next := by
  rcases h with ⟨rfl, _⟩ | h
  · obtain ⟨n, e⟩ := hk; simp at e
  · exact h.lt hk
theorem StrB.keep {H H' : Hp} {v : AV} {l : List (List UInt8)} {lo : Nat} (h : StrB H v l lo) (hn : H.next ≤ H'.next) (hg : ∀ k, ownS v k → H'.get k = H.get k) : StrB H' v l lo := by
  obtain ⟨r, imm, rfl, h2, h3, h4, h5⟩ := h
  exact ⟨r, imm, rfl, by rw [hg r ⟨_, rfl⟩]; exact h2, h3, h4, by omega⟩
theorem StrN.keep {H H' : Hp} {v : AV} {l : List (List UInt8)} {lo : Nat} (h : StrN H v l lo) (hn : H.next ≤ H'.next) (hg : ∀ k, ownS v k → H'.get k = H.get k) : StrN H' v l lo := h.imp id fun h => h.keep hn hg
theorem strs_one (l : List (List UInt8)) : (l.map AV.str).all AV.one = true := by simp [AV.one]
theorem strs_flat (m : List (List UInt8)) : (m.map fun s => [AV.str s]).flatten = m.map .str := by induction m with
  | nil => rfl
  | cons a m ih => simp [ih]
theorem src_own {H : Hp} {r imm : Nat} {m : List (List UInt8)} (h : H.get r = some (.cells (m.map .str) imm true)) : srcCells H 1 (.sl r 0 m.length 1) = some (m.length, m.map .str) := by
  have := src_sl (H := H) (r := r) (o := 0) (n := m.length) (z := 1) (s := 1) h (by simp)
  rw [this, List.drop_zero, List.take_of_length_le (by simp)]
theorem app_gen {H : Hp} {v x : AV} {l m : List (List UInt8)} {lo : Nat} (hv : StrN H v l lo) (hlo : lo ≤ H.next) (hx : srcCells H 1 x = some (m.length, m.map .str)) (hm : m ≠ []) (hb : l.length + m.length < 2 ^ 40) :
    ∃ v' H', appendA Try.prog false H 35 35 v x = some (v', H') ∧ StrB H' v' (l ++ m) lo ∧ H'.next = H.next + 1 ∧ (∀ k, k < lo → H'.get k = H.get k) ∧ OwnFr v v' H H' := by
  obtain ⟨n, hn⟩ : ∃ n, m.length = n + 1 := ⟨m.length - 1, by have := List.length_pos_iff.2 hm; omega⟩
  have hmr : maxRoom = 70368744177664 := rfl
  rw [hn] at hx
  rcases hv with ⟨rfl, rfl⟩ | ⟨r, imm, rfl, h2, h3, h4, h5⟩
  · refine ⟨.sl H.next 0 (n + 1) 1, H.alloc (.cells (m.map .str) 0 true), append_nil Try.underlying35 sz9 bt9 zr9 (by kernel_rfl) hx (strs_one m) rfl (by rw [hmr]; omega) (by rw [hmr]; omega), ⟨H.next, 0, by simp [hn], by rw [Hp.get_alloc, if_pos rfl]; rfl, by omega, hlo, Nat.lt_succ_self _⟩, rfl, fun k hk => by rw [Hp.get_alloc, if_neg (by omega)], fun k hk _ => by rw [Hp.get_alloc, if_neg (by omega)], fun k hk => .inr ?_⟩
    obtain ⟨n', e⟩ := hk
    simp only [AV.sl.injEq] at e
    omega
  · have htr : trimA false H 1 (.sl r 0 l.length 1) = H := by
      unfold trimA
      simp only [h2, Nat.zero_add, List.length_map, Nat.mul_one]
      have : Nat.blt l.length l.length = false := by
        cases hb : Nat.blt l.length l.length with
        | false => rfl
        | true => rw [Nat.blt_eq] at hb; omega
      simp [this]
    refine ⟨.sl H.next 0 (l.length + (n + 1)) 1, (H.kill r).alloc (.cells (l.map .str ++ m.map .str) (imm - 0) true), ?_, ⟨H.next, imm, by simp [hn], ?_, by simp; omega, hlo, Nat.lt_succ_self _⟩, rfl, fun k hk => ?_, fun k hk hno => ?_, fun k hk => .inr ?_⟩
    · simp only [appendA, Try.underlying35, sz9, bt9, zr9, show srcType Try.prog 35 = true by kernel_rfl, hx, strs_one, htr, and_self, if_true, List.length_cons, List.length_nil, appendOnto, h2, List.length_map, Nat.zero_add, Nat.mul_one, List.drop_zero]
      rw [if_pos ⟨by rw [hmr]; omega, by rw [hmr]; omega, trivial, trivial, h3⟩]
      simp
    · show ((H.kill r).alloc _).get (H.kill r).next = _
      rw [Hp.get_alloc, if_pos rfl]; simp
    · rw [Hp.get_alloc, if_neg (by simp only [Hp.next_kill]; omega), Hp.get_kill, if_neg (by omega)]
    · rw [Hp.get_alloc, if_neg (by simp only [Hp.next_kill]; omega), Hp.get_kill, if_neg (fun e => hno ⟨_, by rw [e]⟩)]
    · obtain ⟨n', e⟩ := hk
      simp only [AV.sl.injEq] at e
      omega
/-- .. one string. -/
theorem app_one {H : Hp} {v : AV} {l : List (List UInt8)} {lo r imm : Nat} (s : List UInt8) (hv : StrN H v l lo) (hlo : lo ≤ H.next) (hs : H.get r = some (.cells [.str s] imm true)) (hb : l.length < 2 ^ 39) :
    ∃ v' H', appendA Try.prog false H 35 35 v (.sl r 0 1 1) = some (v', H') ∧ StrB H' v' (l ++ [s]) lo ∧ H'.next = H.next + 1 ∧ (∀ k, k < lo → H'.get k = H.get k) ∧ OwnFr v v' H H' :=
  app_gen hv hlo (src_own (m := [s]) hs) (by simp) (by simp; omega)
theorem chunk_one (l : List (List UInt8)) : chunk 1 l.length (l.map .str) = l.map fun s => [AV.str s] := by
  induction l with
  | nil => rfl
  | cons a l ih => simp [chunk, ih]
end Go.Proofs.Ytackdnelcpbfjaa
namespace Go.Proofs.Ytackdnelcpbfjaa
set_option maxRecDepth 20000
set_option linter.unusedSimpArgs false
set_option linter.unusedVariables false
set_option linter.unusedSectionVars false
set_option linter.defProp false
set_option maxRecDepth 20000
open Go Go.Ab
namespace tyR3f
def tyF := And.intro @tq2 (And.intro @tq3 (And.intro @tq9 (And.intro @tq22 (And.intro @tq23 (And.intro @tq25 (And.intro @tq35 (And.intro @tq36 (And.intro @tq37 (And.intro @tq39 (And.intro @tq41 (And.intro @tq44 (@tq46))))))))))))
end tyR3f
open tyR3f
mutual
def wfSt : St → Bool
  | .mk k nm to n a v args th el => wfStX (.mk k nm to n a v args th el) && wfSs th && wfSs el
def wfSs : List St → Bool
  | [] => true
  | x :: l => wfSt x && wfSs l
end
theorem arrsSz_mem : ∀ {l : List Ar} {a : Ar}, a ∈ l → a.name.length < arrsSz l
  | [], _, h => by simp at h
  | e :: es, x, h => by
    rcases List.mem_cons.1 h with rfl | h
    · simp only [arrsSz]; omega
    · have := arrsSz_mem h; simp only [arrsSz]; omega
def fnNames (f : Fu) : List (List UInt8) := [f.name] ++ f.params ++ f.locals
def wfFn (f : Fu) : Bool := (fnNames f).all nameB && wfSs f.body && wfE f.value
def wfP (p : Pr) : Bool := p.arrays.all (fun a => nameB a.name) && p.funcs.all wfFn
theorem bsS1 (H : Hp) (s : List UInt8) : buildSliceA Try.prog H 35 1 [(0, .str s)] = some (.sl H.next 0 1 1, H.alloc (.cells [.str s] 0 true)) := by kernel_rfl
theorem bsS0 (H : Hp) : buildSliceA Try.prog H 35 0 [] = some (.sl H.next 0 0 1, H.alloc (.cells [] 0 true)) := by kernel_rfl
end Go.Proofs.Ytackdnelcpbfjaa
namespace Go.Proofs.Ytackdnelcpbfjaa
set_option maxRecDepth 20000
set_option linter.unusedSimpArgs false
set_option linter.unusedVariables false
set_option linter.unusedSectionVars false
set_option linter.defProp false
set_option maxRecDepth 20000
open Go Go.Ab
namespace tyR3g
end tyR3g
open tyR3g
def dupFrom : List (List UInt8) → List (List UInt8) → Bool
  | _, [] => false
  | seen, s :: l => hasS seen s || dupFrom (seen ++ [s]) l
def dupFns (an : List (List UInt8)) : List (List UInt8) → List Fu → Bool
  | _, [] => false
  | seen, f :: fs => hasS seen f.name || dupFrom an (f.params ++ f.locals) || dupFns an (seen ++ [f.name]) fs
def arNames (p : Pr) : List (List UInt8) := p.arrays.map (·.name)
def dupP (p : Pr) : Bool := dupFrom [] (arNames p) || dupFns (arNames p) [] p.funcs
end Go.Proofs.Ytackdnelcpbfjaa
namespace Go.Proofs.Ytackdnelcpbfjaa
set_option maxRecDepth 20000
set_option linter.unusedSimpArgs false
set_option linter.unusedVariables false
set_option linter.unusedSectionVars false
set_option linter.defProp false
set_option maxRecDepth 20000
open Go Go.Ab
namespace tyR3h
end tyR3h
open tyR3h
structure Sc where
  vars : List (List UInt8)
  arrays : Option (List (List UInt8))
  p : Pr
def Sc.an (x : Sc) : List (List UInt8) := x.arrays.getD []
def orowA : Option (List (List UInt8)) → AV
  | none => .nilS
  | some l => lstS l
def Sc.cells (x : Sc) : List AV := [lstS x.vars, orowA x.arrays, .lst (x.p.arrays.map Ar.cells), .lst (x.p.funcs.map Fu.cells)]
theorem Sc.whole (x : Sc) : aggA 4 x.cells = some (.agg x.cells) := rfl
theorem Sc.part (x : Sc) : aggA 2 (x.cells.drop 2) = some (.agg x.p.cells) := rfl
section
variable (vs an : List (List UInt8))
def defX (x : Ex) : Bool := (!decide (x.kind = 2) || hasS vs x.name) && (!decide (x.kind = 3) || hasS an x.name)
mutual
def defE : Ex → Bool
  | .mk k n s o ks => defEs ks && defX vs an (.mk k n s o ks)
def defEs : List Ex → Bool
  | [] => true
  | e :: es => defE e && defEs es
end
end
def defStK (c : Sc) (x : St) : Bool :=
  if x.kind = 1 then hasS c.vars x.name
  else if x.kind = 6 then hasS c.vars x.name && decide (0 ≤ findF c.p.funcs x.to 0)
  else if x.kind = 2 then hasS c.an x.name
  else true
def defStX (c : Sc) (x : St) : Bool := defEs c.vars c.an x.args && defE c.vars c.an x.at_ && defE c.vars c.an x.value && defStK c x
end Go.Proofs.Ytackdnelcpbfjaa
namespace Go.Proofs.Ytackdnelcpbfjaa
set_option maxRecDepth 20000
set_option linter.unusedSimpArgs false
set_option linter.unusedVariables false
set_option linter.unusedSectionVars false
set_option linter.defProp false
set_option maxRecDepth 20000
open Go Go.Ab
namespace tyR3i
def tyF := And.intro @tq3 (And.intro @tq9 (And.intro @tq22 (And.intro @tq23 (And.intro @tq25 (And.intro @tq35 (And.intro @tq36 (And.intro @tq37 (And.intro @tq39 (And.intro @tq41 (And.intro @tq46 (And.intro @tq89 (And.intro @Sc.part (@Sc.whole)))))))))))))
end tyR3i
open tyR3i
def parN (p : Pr) (s : List UInt8) : Nat := ((p.funcs[(findF p.funcs s 0).toNat]?).map fun f => f.params.length).getD 0
def arK (p : Pr) (x : St) : Bool := !(decide (x.kind = 6) && !decide ((x.args.length : Int) = parN p x.to))
section
variable (c : Sc)
mutual
def chk1 (b : Bool) : St → Bool
  | .mk k nm to n a v args th el => (bif b then arK c.p (.mk k nm to n a v args th el) else defStX c (.mk k nm to n a v args th el)) && chkS b th && chkS b el
def chkS (b : Bool) : List St → Bool
  | [] => true
  | x :: l => chk1 b x && chkS b l
end
theorem chk1_eq (b : Bool) (x : St) : chk1 c b x = ((bif b then arK c.p x else defStX c x) && chkS c b x.thn && chkS c b x.els) := by cases x; rw [chk1]; rfl
end
section
variable (p : Pr)
mutual
def cal1 : St → Bool
  | .mk k nm to n a v args th el => (!decide (k = 6) || decide (0 ≤ findF p.funcs to 0)) && calS th && calS el
def calS : List St → Bool
  | [] => true
  | x :: l => cal1 x && calS l
end
theorem cal1_eq (x : St) : cal1 p x = ((!decide (x.kind = 6) || decide (0 ≤ findF p.funcs x.to 0)) && calS p x.thn && calS p x.els) := by cases x; rw [cal1]; rfl
end
theorem findF_lt : ∀ (l : List Fu) (s : List UInt8) (i : Nat), 0 ≤ findF l s i → ∃ k, k < l.length ∧ findF l s i = ((i + k : Nat) : Int)
  | [], s, i, h => by simp [findF] at h
  | f :: l, s, i, h => by
    simp only [findF] at h ⊢
    split
    · exact ⟨0, by simp, by simp⟩
    · rename_i hn
      rw [if_neg hn] at h
      obtain ⟨k, h1, h2⟩ := findF_lt l s (i + 1) (by exact h)
      exact ⟨k + 1, by simpa using h1, by rw [show ((i : Int) + 1) = ((i + 1 : Nat) : Int) by omega, h2]; omega⟩
structure Cs where
  c : Sc
  l : List St
  b : Bool
end Go.Proofs.Ytackdnelcpbfjaa
namespace Go.Proofs.Ytackdnelcpbfjaa
set_option maxRecDepth 20000
set_option linter.unusedSimpArgs false
set_option linter.unusedVariables false
set_option linter.unusedSectionVars false
set_option linter.defProp false
set_option maxRecDepth 20000
open Go Go.Ab
namespace tyR3j
def tyF := And.intro @tq2 (And.intro @tq3 (And.intro @tq9 (And.intro @tq22 (And.intro @tq23 (And.intro @tq25 (And.intro @tq35 (And.intro @tq36 (And.intro @tq37 (And.intro @tq39 (And.intro @tq41 (And.intro @tq44 (And.intro @tq46 (And.intro @tq89 (And.intro @bsS0 (@bsS1)))))))))))))))
end tyR3j
open tyR3j
def scOf (p : Pr) (f : Fu) : Sc := ⟨f.params ++ f.locals, some (arNames p), p⟩
def undFn (p : Pr) (f : Fu) : Bool := !(chkS (scOf p f) false f.body && defE (scOf p f).vars (scOf p f).an f.value)
def badFn (p : Pr) (f : Fu) : Bool := !chkS (scOf p f) true f.body
def refCheck (p : Pr) : Int := if exB p = true then 6 else if wfP p = false then 2 else if dupP p = true then 4 else if p.funcs.any (undFn p) = true then 3 else if p.funcs.any (badFn p) = true then 5 else 0
mutual
theorem chk1_cal {c : Sc} : ∀ x : St, chk1 c false x = true → cal1 c.p x = true
  | .mk k nm to n a v args th el, h => by
    rw [chk1_eq, cond_false, Bool.and_eq_true, Bool.and_eq_true] at h
    obtain ⟨⟨h1, h2⟩, h3⟩ := h
    rw [cal1_eq, chkS_cal _ h2, chkS_cal _ h3]
    simp only [defStX, Bool.and_eq_true] at h1
    have h4 := h1.2
    unfold defStK at h4
    by_cases h6 : (St.mk k nm to n a v args th el).kind = 6
    · rw [if_neg (by rw [h6]; decide), if_pos h6, Bool.and_eq_true] at h4
      simp only [h4.2, Bool.or_true, Bool.and_true]
    · simp only [h6, decide_false, Bool.not_false, Bool.true_or, Bool.and_true]
theorem chkS_cal {c : Sc} : ∀ l : List St, chkS c false l = true → calS c.p l = true
  | [], _ => rfl
  | x :: l, h => by
    simp only [chkS, Bool.and_eq_true] at h
    simp only [calS, chk1_cal x h.1, chkS_cal l h.2, Bool.and_true]
end
end Go.Proofs.Ytackdnelcpbfjaa
namespace Go.Ab
set_option maxRecDepth 20000
open Go
def wkN : Nat → AV → AV
  | 0, v => v
  | n + 1, v => match v with
    | .nilS => .lst []
    | .lst xs => .lst (xs.map fun row => row.map (wkN n))
    | .agg cs => .agg (cs.map (wkN n))
    | .tup cs => .tup (cs.map (wkN n))
    | v => v
theorem VR.wk {G : Gh} : ∀ (n : Nat) {v : AV} {x : Value}, VR G v x → VR G (wkN n v) x
  | 0, _, _, h => h
  | n + 1, v, x, h => by
    cases h with
    | nilS => exact .lst0 _ _
    | lst vs hz hF hv hc =>
      rename_i xs b o cap z
      have := VR.lst (G := G) (xs := xs.map fun row => row.map (wkN n)) (b := b) (o := o) (cap := cap) (z := z) vs ?_ ?_ ?_ ?_
      · rw [List.length_map] at this; exact this
      · intro i row hr
        rw [List.getElem?_map] at hr
        cases hx : xs[i]? with
        | none => rw [hx] at hr; simp at hr
        | some r0 => rw [hx] at hr; simp only [Option.map_some, Option.some.injEq] at hr; rw [← hr, List.length_map]; exact hz i r0 hx
      · intro i j hi hj; rw [List.length_map] at hi; exact hF i j hi hj
      · intro i j row c hr hc2
        rw [List.getElem?_map] at hr
        cases hx : xs[i]? with
        | none => rw [hx] at hr; simp at hr
        | some r0 =>
          rw [hx] at hr; simp only [Option.map_some, Option.some.injEq] at hr
          rw [← hr, List.getElem?_map] at hc2
          cases hy : r0[j]? with
          | none => rw [hy] at hc2; simp at hc2
          | some c0 => rw [hy] at hc2; simp only [Option.map_some, Option.some.injEq] at hc2; rw [← hc2]; exact VR.wk n (hv i j r0 c0 hx hy)
      · rw [List.length_map]; exact hc
    | lst0 a cap => exact .lst0 a cap
    | agg hl hv =>
      refine .agg (by rw [List.length_map]; exact hl) fun i c v hc hv2 => ?_
      rw [List.getElem?_map] at hc
      rename_i cs vs
      cases hy : cs[i]? with
      | none => rw [hy] at hc; simp at hc
      | some c0 => rw [hy] at hc; simp only [Option.map_some, Option.some.injEq] at hc; rw [← hc]; exact VR.wk n (hv i c0 v hy hv2)
    | tup hl hv =>
      refine .tup (by rw [List.length_map]; exact hl) fun i c v hc hv2 => ?_
      rw [List.getElem?_map] at hc
      rename_i cs vs
      cases hy : cs[i]? with
      | none => rw [hy] at hc; simp at hc
      | some c0 => rw [hy] at hc; simp only [Option.map_some, Option.some.injEq] at hc; rw [← hc]; exact VR.wk n (hv i c0 v hy hv2)
    | int k m => exact .int k m
    | sx k e => exact .sx k e
    | bool b => exact .bool b
    | str s l h => exact .str s l h
    | nilP => exact .nilP
    | nilM => exact .nilM
    | nilF => exact .nilF
    | ptr h => exact .ptr h
    | iptr vs hF hv => exact .iptr vs hF hv
    | sl h hl hc => exact .sl h hl hc
    | map h => exact .map h
    | clo hl hv => exact .clo hl hv
theorem Con.wk {P : Program} {ρ : Nat → Int} {f : FuncId} {args : List AV} {r : AV} (n : Nat) (h : Con P ρ f args r) : Con P ρ f args (wkN n r) :=
  ⟨h.1, fun G w vs h1 h2 h3 => (h.2 G w vs h1 h2 h3).mono fun _ _ ⟨v, F1, h4, h5, h6⟩ => ⟨v, F1, h4, h5.wk n, h6⟩⟩
theorem Con.wk' {P : Program} {ρ : Nat → Int} {f : FuncId} {args : List AV} {r r' : AV} (n : Nat) (h : Con P ρ f args r) (e : wkN n r = r') : Con P ρ f args r' := e ▸ h.wk n
end Go.Ab
namespace Go.Ab
set_option maxRecDepth 20000
open Go
variable {P : Program} {cfg : Cfg} {f N : Nat}
theorem Wp.fresh {c : SC} {E : Env} {H : Hp} {Q : AX → Env → Hp → Prop} (cs : List Nat) (h : ∀ E' : Env, (∀ k ∈ cs, E'.at k = E.at k) → Wp P cfg f N c E' H Q) : Wp P cfg f N c E H Q := h E fun _ _ => rfl
end Go.Ab
namespace Go.Ab
set_option maxRecDepth 20000
set_option linter.unusedVariables false
set_option linter.unusedSectionVars false
open Go
def All2 {α β : Type} (p : α → β → Prop) : List α → List β → Prop
  | [], [] => True
  | a :: l, b :: m => p a b ∧ All2 p l m
  | _, _ => False
theorem All2.len {α β : Type} {p : α → β → Prop} : ∀ {l : List α} {m : List β}, All2 p l m → l.length = m.length
  | [], [], _ => rfl
  | _ :: _, _ :: _, h => by simp only [List.length_cons, All2.len h.2]
theorem All2.mono {α β : Type} {p q : α → β → Prop} (h : ∀ a b, p a b → q a b) : ∀ {l : List α} {m : List β}, All2 p l m → All2 q l m
  | [], [], _ => trivial
  | _ :: _, _ :: _, k => ⟨h _ _ k.1, All2.mono h k.2⟩
theorem All2.append {α β : Type} {p : α → β → Prop} : ∀ {l : List α} {m : List β} {l' : List α} {m' : List β}, All2 p l m → All2 p l' m' → All2 p (l ++ l') (m ++ m')
  | [], [], _, _, _, h => h
  | _ :: _, _ :: _, _, _, h, k => ⟨h.1, All2.append h.2 k⟩
theorem All2.refl {α : Type} {p : α → α → Prop} : ∀ {l : List α}, (∀ a ∈ l, p a a) → All2 p l l
  | [], _ => trivial
  | a :: l, h => ⟨h a List.mem_cons_self, All2.refl fun b hb => h b (List.mem_cons_of_mem _ hb)⟩
theorem All2.get {α β : Type} {p : α → β → Prop} : ∀ {l : List α} {m : List β}, All2 p l m → ∀ {i : Nat} {a : α} {b : β}, l[i]? = some a → m[i]? = some b → p a b
  | [], [], _, i, _, _, h, _ => by simp at h
  | a :: l, b :: m, h, 0, _, _, h1, h2 => by
    simp only [List.getElem?_cons_zero, Option.some.injEq] at h1 h2
    subst h1; subst h2; exact h.1
  | a :: l, b :: m, h, i + 1, _, _, h1, h2 => All2.get h.2 (by simpa using h1) (by simpa using h2)
theorem All2.set {α β : Type} {p : α → β → Prop} : ∀ {l : List α} {m : List β}, All2 p l m → ∀ {i : Nat} {a : α} {b : β}, p a b → All2 p (l.set i a) (m.set i b)
  | [], [], _, i, _, _, _ => by simp [All2]
  | _ :: _, _ :: _, h, 0, _, _, k => ⟨k, h.2⟩
  | _ :: _, _ :: _, h, i + 1, _, _, k => ⟨h.1, All2.set h.2 k⟩
/-- A value that is its own reading. -/
def flatA (v : AV) : Prop := PureA v ∧ match v with
  | .sl _ _ _ _ | .agg _ => False
  | _ => True
def Ic (S : Nat → Prop) : Nat → Hp → AV → AV → Prop
  | 0, _, _, _ => False
  | n + 1, H, v, u => match v with
    | .sl r off len z => S r ∧ r < H.next ∧ ∃ cs imm tip l, H.get r = some (.cells cs imm tip) ∧ imm ≤ cs.length ∧ off + len * z ≤ cs.length ∧ All2 (Ic S n H) ((cs.drop off).take (len * z)) l ∧ u = .lst (chunk z len l)
    | .agg cs => ∃ ds, All2 (Ic S n H) cs ds ∧ u = .agg ds
    | v => PureA v ∧ u = v
theorem Ic.flat {S : Nat → Prop} {n : Nat} {H : Hp} {v : AV} (h : flatA v) : Ic S (n + 1) H v v := by
  cases v <;> first | exact h.2.elim | exact ⟨h.1, rfl⟩
theorem Ic.up {S : Nat → Prop} {H : Hp} : ∀ {n m : Nat} {v u : AV}, Ic S n H v u → n ≤ m → Ic S m H v u
  | 0, _, _, _, h, _ => h.elim
  | n + 1, 0, _, _, _, hm => by omega
  | n + 1, m + 1, v, u, h, hm => by
    cases v with
    | sl r off len z =>
      obtain ⟨h1, h0, cs, imm, tip, l, h2, h3, h4, h5, h6⟩ := h
      exact ⟨h1, h0, cs, imm, tip, l, h2, h3, h4, h5.mono fun a b k => Ic.up k (by omega), h6⟩
    | agg cs =>
      obtain ⟨ds, h1, h2⟩ := h
      exact ⟨ds, h1.mono fun a b k => Ic.up k (by omega), h2⟩
    | _ => exact h
/-- Two blocks that differ in what can't be changed alone. -/
def SameB (a b : Option HB) : Prop := a = b ∨ ∃ cs i j tip, a = some (.cells cs i tip) ∧ b = some (.cells cs j tip) ∧ (i ≤ cs.length → j ≤ cs.length)
theorem SameB.trans {a b c : Option HB} (h : SameB a b) (k : SameB b c) : SameB a c := by
  rcases h with rfl | ⟨cs, i, j, tip, rfl, rfl, h⟩
  · exact k
  · rcases k with rfl | ⟨cs', i', j', tip', e, rfl, k⟩
    · exact .inr ⟨cs, i, j, tip, rfl, rfl, h⟩
    · simp only [Option.some.injEq, HB.cells.injEq] at e
      obtain ⟨rfl, rfl, rfl⟩ := e
      exact .inr ⟨cs, i, j', tip, rfl, rfl, fun q => k (h q)⟩
theorem Ic.frame2 {S S' : Nat → Prop} {H H' : Hp} (hS : ∀ k, k < H.next → S k → S' k) (hn : H.next ≤ H'.next) (hf : ∀ k, S k → k < H.next → SameB (H.get k) (H'.get k)) : ∀ {n : Nat} {v u : AV}, Ic S n H v u → Ic S' n H' v u
  | 0, _, _, h => h.elim
  | n + 1, v, u, h => by
    cases v with
    | sl r off len z =>
      obtain ⟨h1, h0, cs, imm, tip, l, h2, h3, h4, h5, h6⟩ := h
      have h5' := h5.mono fun a b k => Ic.frame2 hS hn hf k
      rcases hf r h1 h0 with e | ⟨cs', i, j, tip', e1, e2, e3⟩
      · exact ⟨hS r h0 h1, by omega, cs, imm, tip, l, by rw [← e]; exact h2, h3, h4, h5', h6⟩
      · rw [h2] at e1
        simp only [Option.some.injEq, HB.cells.injEq] at e1
        obtain ⟨rfl, rfl, rfl⟩ := e1
        exact ⟨hS r h0 h1, by omega, cs, j, tip, l, e2, e3 h3, h4, h5', h6⟩
    | agg cs =>
      obtain ⟨ds, h1, h2⟩ := h
      exact ⟨ds, h1.mono fun a b k => Ic.frame2 hS hn hf k, h2⟩
    | _ => exact h
theorem Ic.frame {S S' : Nat → Prop} (hS : ∀ k, S k → S' k) {H H' : Hp} (hn : H.next ≤ H'.next) (hf : ∀ k, S k → k < H.next → SameB (H.get k) (H'.get k)) {n : Nat} {v u : AV} (h : Ic S n H v u) : Ic S' n H' v u := h.frame2 (fun k _ q => hS k q) hn hf
/-- The heaps are the same, but for what can't be changed in blocks of S. -/
structure Icy (S : Nat → Prop) (H H' : Hp) : Prop where
  next : H'.next = H.next
  out : ∀ k, ¬ S k → H'.get k = H.get k
  same : ∀ k, SameB (H.get k) (H'.get k)
theorem Icy.refl (S : Nat → Prop) (H : Hp) : Icy S H H := ⟨rfl, fun _ _ => rfl, fun _ => .inl rfl⟩
theorem Icy.trans {S : Nat → Prop} {a b c : Hp} (h : Icy S a b) (k : Icy S b c) : Icy S a c := ⟨k.next.trans h.next, fun r hr => (k.out r hr).trans (h.out r hr), fun r => (h.same r).trans (k.same r)⟩
theorem Icy.ic {S S' : Nat → Prop} {H H' : Hp} (h : Icy S H H') {n : Nat} {v u : AV} (k : Ic S' n H v u) : Ic S' n H' v u := k.frame (fun _ q => q) (Nat.le_of_eq h.next.symm) fun r _ _ => h.same r
theorem iceHL_all {S : Nat → Prop} {n : Nat} (ih : ∀ {v u : AV} {H : Hp}, Ic S n H v u → ∃ H', iceH n v H = some (u, H') ∧ Icy S H H') : ∀ {l m : List AV} {H : Hp}, All2 (Ic S n H) l m → ∃ H', iceHL (iceH n) l H = some (m, H') ∧ Icy S H H'
  | [], [], H, _ => ⟨H, rfl, Icy.refl S H⟩
  | a :: l, b :: m, H, h => by
    obtain ⟨H1, h1, h2⟩ := ih h.1
    obtain ⟨H2, h3, h4⟩ := iceHL_all ih (l := l) (m := m) (H := H1) (h.2.mono fun a b k => h2.ic k)
    exact ⟨H2, by simp only [iceHL, h1, h3], h2.trans h4⟩
theorem Ic.ice {S : Nat → Prop} : ∀ {n : Nat} {v u : AV} {H : Hp}, Ic S n H v u → ∃ H', iceH n v H = some (u, H') ∧ Icy S H H'
  | 0, _, _, _, h => h.elim
  | n + 1, v, u, H, h => by
    cases v with
    | sl r off len z =>
      obtain ⟨h1, h0, cs, imm, tip, l, h2, h3, h4, h5, rfl⟩ := h
      have hset : Icy S H (H.set r (.cells cs (max imm (off + len * z)) tip)) := by
        refine ⟨rfl, fun k hk => by rw [Hp.get_set, if_neg (fun e => hk (by rw [e]; exact h1))], fun k => ?_⟩
        rw [Hp.get_set]
        split
        · rename_i e; subst e; exact .inr ⟨cs, imm, max imm (off + len * z), tip, h2, rfl, fun _ => by omega⟩
        · exact .inl rfl
      obtain ⟨H', h6, h7⟩ := iceHL_all (fun k => Ic.ice k) (h5.mono fun a b k => hset.ic k)
      refine ⟨H', ?_, hset.trans h7⟩
      have e : iceH (n + 1) (.sl r off len z) H = match H.get r with
        | some (.cells cs imm tip) => match Nat.ble (off + len * z) cs.length && Nat.ble imm cs.length with
          | true => match iceHL (iceH n) ((cs.drop off).take (len * z)) (H.set r (.cells cs (max imm (off + len * z)) tip)) with
            | some (l', H) => some (.lst (chunk z len l'), H)
            | none => none
          | false => none
        | _ => none := rfl
      rw [e, h2]
      have e1 : Nat.ble (off + len * z) cs.length = true := by rw [Nat.ble_eq]; exact h4
      have e2 : Nat.ble imm cs.length = true := by rw [Nat.ble_eq]; exact h3
      simp only [e1, e2, Bool.and_self, h6]
    | agg cs =>
      obtain ⟨ds, h1, rfl⟩ := h
      obtain ⟨H', h2, h3⟩ := iceHL_all (fun k => Ic.ice k) h1
      refine ⟨H', ?_, h3⟩
      have e : iceH (n + 1) (.agg cs) H = match iceHL (iceH n) cs H with
        | some (ds, H) => some (.agg ds, H)
        | none => none := rfl
      rw [e, h2]
    | ptr r o =>
      obtain ⟨k, hk⟩ := h.1
      exact absurd (hk (k + 1) (by omega) H) (by simp [iceV])
    | map r =>
      obtain ⟨k, hk⟩ := h.1
      exact absurd (hk (k + 1) (by omega) H) (by simp [iceV])
    | _ => exact ⟨H, by rw [show u = _ from h.2]; rfl, Icy.refl S H⟩
theorem Ic.iceL {S : Nat → Prop} {n : Nat} {l m : List AV} {H : Hp} (h : All2 (Ic S n H) l m) : ∃ H', iceHL (iceH n) l H = some (m, H') ∧ Icy S H H' := iceHL_all (fun k => Ic.ice k) h
theorem iceL_all {S : Nat → Prop} {n : Nat} {H : Hp} (ih : ∀ {v u : AV}, Ic S n H v u → ∃ m0, ∀ m, m0 ≤ m → iceV H m v = some u) : ∀ {l k : List AV}, All2 (Ic S n H) l k → ∃ m0, ∀ m, m0 ≤ m → iceL (iceV H m) l = some k
  | [], [], _ => ⟨0, fun _ _ => rfl⟩
  | a :: l, b :: k, h => by
    obtain ⟨m1, h1⟩ := ih h.1
    obtain ⟨m2, h2⟩ := iceL_all ih (l := l) (k := k) h.2
    exact ⟨max m1 m2, fun m hm => by simp only [iceL, h1 m (by omega), h2 m (by omega)]⟩
/-- .. read without being made unchangeable. -/
theorem Ic.iceV {S : Nat → Prop} {H : Hp} : ∀ {n : Nat} {v u : AV}, Ic S n H v u → ∃ m0, ∀ m, m0 ≤ m → iceV H m v = some u
  | 0, _, _, h => h.elim
  | n + 1, v, u, h => by
    cases v with
    | sl r off len z =>
      obtain ⟨h1, h0, cs, imm, tip, l, h2, h3, h4, h5, rfl⟩ := h
      obtain ⟨m0, hm0⟩ := iceL_all (fun k => Ic.iceV k) h5
      refine ⟨m0 + 1, fun m hm => ?_⟩
      obtain ⟨m, rfl⟩ : ∃ k, m = k + 1 := ⟨m - 1, by omega⟩
      have e : Ab.iceV H (m + 1) (.sl r off len z) = match H.get r with
        | some (.cells cs _ _) => match Ab.iceL (Ab.iceV H m) ((cs.drop off).take (len * z)) with
          | some l' => if l'.length = len * z then some (.lst (chunk z len l')) else none
          | none => none
        | _ => none := rfl
      have hl : l.length = len * z := by rw [← h5.len, List.length_take, List.length_drop]; omega
      rw [e, h2]
      simp only [hm0 m (by omega), hl, if_true]
    | agg cs =>
      obtain ⟨ds, h1, rfl⟩ := h
      obtain ⟨m0, hm0⟩ := iceL_all (fun k => Ic.iceV k) h1
      refine ⟨m0 + 1, fun m hm => ?_⟩
      obtain ⟨m, rfl⟩ : ∃ k, m = k + 1 := ⟨m - 1, by omega⟩
      have e : Ab.iceV H (m + 1) (.agg cs) = match Ab.iceL (Ab.iceV H m) cs with
        | some ds => some (.agg ds)
        | none => none := rfl
      rw [e, hm0 m (by omega)]
    | _ =>
      obtain ⟨k, hk⟩ := h.1
      exact ⟨k, fun m hm => by rw [hk m hm H, h.2]⟩
/-- Rows of z cells. -/
theorem chunk_rows (z : Nat) : ∀ (rows : List (List AV)), (∀ r ∈ rows, r.length = z) → chunk z rows.length rows.flatten = rows
  | [], _ => rfl
  | r :: rows, h => by
    have h1 := h r List.mem_cons_self
    rw [List.flatten_cons, List.length_cons]
    show (r ++ rows.flatten).take z :: chunk z rows.length ((r ++ rows.flatten).drop z) = _
    rw [List.take_append_of_le_length (by omega), List.take_of_length_le (by omega), List.drop_append_of_le_length (by omega), List.drop_of_length_le (by omega), List.nil_append, chunk_rows z rows fun q hq => h q (List.mem_cons_of_mem _ hq)]
theorem rows_len {z : Nat} : ∀ {rows : List (List AV)}, (∀ r ∈ rows, r.length = z) → rows.flatten.length = rows.length * z
  | [], _ => by simp
  | r :: rows, h => by
    rw [List.flatten_cons, List.length_append, h r List.mem_cons_self, rows_len fun q hq => h q (List.mem_cons_of_mem _ hq), List.length_cons, Nat.succ_mul]; omega
theorem All2.flat {p : AV → AV → Prop} : ∀ {a b : List (List AV)}, All2 (All2 p) a b → All2 p a.flatten b.flatten
  | [], [], _ => trivial
  | _ :: _, _ :: _, h => by rw [List.flatten_cons, List.flatten_cons]; exact h.1.append (All2.flat h.2)
theorem All2.rowlen {p : AV → AV → Prop} {z : Nat} : ∀ {a b : List (List AV)}, All2 (All2 p) a b → (∀ r ∈ a, r.length = z) → ∀ r ∈ b, r.length = z
  | [], [], _, _, r, hr => by simp at hr
  | x :: a, y :: b, h, hz, r, hr => by
    rcases List.mem_cons.1 hr with rfl | hr
    · rw [← h.1.len]; exact hz x List.mem_cons_self
    · exact All2.rowlen h.2 (fun q hq => hz q (List.mem_cons_of_mem _ hq)) r hr
theorem Ic.rows {S : Nat → Prop} {n : Nat} {H : Hp} {r z imm : Nat} {tip : Bool} {a b : List (List AV)} (hS : S r) (hr : r < H.next) (hg : H.get r = some (.cells a.flatten imm tip)) (hi : imm ≤ a.flatten.length) (hz : ∀ x ∈ a, x.length = z) (h : All2 (All2 (Ic S n H)) a b) : Ic S (n + 1) H (.sl r 0 a.length z) (.lst b) := by
  have hl := rows_len hz
  refine ⟨hS, hr, a.flatten, imm, tip, b.flatten, hg, hi, by omega, ?_, ?_⟩
  · rw [List.drop_zero, List.take_of_length_le (by omega)]; exact h.flat
  · rw [h.len, chunk_rows z b (h.rowlen hz)]
/-- An argument that is nil read asx one without elements. -/
theorem VRs.wk {G : Gh} (n : Nat) : ∀ {args : List AV} {vs : List Value}, VRs G args vs → VRs G (args.map (wkN n)) vs
  | [], vs, h => h
  | a :: l, [], h => by have := h.1; simp at this
  | a :: l, v :: vs, h => by
    obtain ⟨h1, h2⟩ := h.of_cons
    exact VRs.cons (h1.wk n) (VRs.wk n h2)
theorem Con.wkA {P : Program} {ρ : Nat → Int} {f : FuncId} {args : List AV} {r : AV} (n : Nat) (h : Con P ρ f (args.map (wkN n)) r) : Con P ρ f args r := ⟨h.1, fun G w vs h1 h2 h3 => h.2 G w vs h1 h2 (h3.wk n)⟩
/-- What is known of f, with nil for rows without elements. -/
def enW (e : En) : En := ⟨e.f, e.ice, fun args => e.sp (args.map (wkN 60))⟩
theorem enW_ok {P : Program} {ρ : Nat → Int} {e : En} (h : EnOk P ρ e) : EnOk P ρ (enW e) := fun args r hr => (h _ r hr).wkA 60
end Go.Ab
namespace Go.Proofs.Ytackdnelcpbfjaa
set_option maxRecDepth 20000
set_option linter.unusedSimpArgs false
set_option linter.unusedVariables false
set_option linter.unusedSectionVars false
set_option linter.defProp false
set_option maxRecDepth 20000
open Go Go.Ab
namespace tyG1
def tyF := And.intro @tq3 (And.intro @tq2 (And.intro @tq54 (And.intro @tq9 (And.intro @tq35 (And.intro @bin_rem (@bin_quo))))))
end tyG1
open tyG1
noncomputable def code16 : { c : SC // slim 14 (Try.f16.body.getD .skip) = c } := by
  refine ⟨?_, ?_⟩
  rotate_left
  · simp only [Try.f16, Option.getD_some, slim, slimR, slimL, slimD, slimG, Nat.blt, Nat.ble]
    rfl
noncomputable def code56 : { c : SC // slim 25 (Try.f56.body.getD .skip) = c } := by
  refine ⟨?_, ?_⟩
  rotate_left
  · simp only [Try.f56, Option.getD_some, slim, slimR, slimL, slimD, slimG, Nat.blt, Nat.ble]
    rfl
noncomputable def code66 : { c : SC // slim 7 (Try.f66.body.getD .skip) = c } := by
  refine ⟨?_, ?_⟩
  rotate_left
  · simp only [Try.f66, Option.getD_some, slim, slimR, slimL, slimD, slimG, Nat.blt, Nat.ble]
    rfl
def pickG (n m : Int) : Int := if n.tmod m < 0 then w64 (n.tmod m + m) else n.tmod m
theorem pickG_range {n m : Int} (h : 0 < m) (h2 : m < 2 ^ 62) : 0 ≤ pickG n m ∧ pickG n m < m := by
  unfold pickG
  have h3 := Int.tmod_lt_of_pos n h
  have h4 : -m < n.tmod m := by
    have := Int.tmod_lt_of_pos (-n) h
    rw [Int.neg_tmod] at this
    omega
  split
  · unfold w64
    rw [IntWalk.i64_in _ (by omega)]; omega
  · omega
def pkE (x : Int × Int) : List AV := [.int .i64 x.1, .int .i64 x.2]
theorem pkE_inj (x y : Int × Int) (h : pkE x = pkE y) : x = y := by
  simp only [pkE, List.cons.injEq, AV.int.injEq, and_true, true_and] at h
  exact Prod.ext h.1 h.2
theorem pick_con (ρ : Nat → Int) (x : Int × Int) (hx : x.2 ≠ 0) : Con Try.prog ρ 16 (pkE x) (.int .i64 (pickG x.1 x.2)) := Con.lev fit (pls := pls) (l := []) trivial (.cons (.int _ _) (.cons (.int _ _) .nil)) (.int _ _) (by
  have hw := plain0 16
  obtain ⟨n, m⟩ := x
  rw [pkE]
  simp only [] at hx ⊢
  refine WpCall.slim (M := 14) (rs := [.tmp 4]) (hw.call _) hw.ice hw.froz Try.func16 rfl rfl code16.2 rfl ?_; dsimp only [code16, envOf, Nat.reduceAdd]
  repeat' (first
     | (apply Rx.nl ?_; clear hK K) | apply Rx.o ?_ | (apply Rx.cd (fun hb hbp => ?_) (fun hb hbp => ?_) <;> try (cases hb; done)) | apply Wp.seq ?_ | (apply Wp.ops' fun K hK => ?_) | apply Rx.sk ?_ | apply Rx.rt ?_)
  all_goals (refine ⟨eI, _, eR, ?_⟩; try simp only [oneOr])
  all_goals (simp_all [pickG]; try omega))
noncomputable def enPick : En := ⟨16, false, spP (fun x => x.2 ≠ 0) pkE fun x => .int .i64 (pickG x.1 x.2)⟩
theorem enPick_ok (ρ : Nat → Int) : EnOk Try.prog ρ enPick := spP_ok fun x hx => pick_con ρ x hx
theorem pick_en {l : List En} (hl : ∀ ar, lookN l 16 ar = enPick.sp ar) (n m : Int) (hm : m ≠ 0) (H : Hp) : WpCall Try.prog (cfgN pls l) 16 [.int .i64 n, .int .i64 m] H fun v H' => v = .int .i64 (pickG n m) ∧ H' = H :=
  WpCall.en (enc := pkE) (ok := fun x => x.2 ≠ 0) (out := fun x => .int .i64 (pickG x.1 x.2)) pkE_inj (x := (n, m)) (hl _) hm
def edgesG : List Int := [0, 1, -1, 2, -9223372036854775808, 9223372036854775807, 4294967296, -2147483648, 63, 64]
def wordG (n raw : Int) : Int := if pickG n 24 < 10 then edgesG.getD (pickG n 24).toNat 0 else if pickG n 24 < 22 then w64 (pickG (w64 (n.tdiv 24)) 17 - 6) else raw
theorem bsEd (H : Hp) : buildSliceA Try.prog H 54 10 [(0, .int .i64 0), (1, .int .i64 1), (2, .int .i64 (-1)), (3, .int .i64 2), (4, .int .i64 (-9223372036854775808)), (5, .int .i64 9223372036854775807), (6, .int .i64 4294967296), (7, .int .i64 (-2147483648)), (8, .int .i64 63), (9, .int .i64 64)] = some (.sl H.next 0 10 1, H.alloc (.cells (edgesG.map fun n => .int .i64 n) 0 true)) := by kernel_rfl
set_option maxHeartbeats 4000000 in
theorem word_con (ρ : Nat → Int) (x : Int × Int) : Con Try.prog ρ 56 (pkE x) (.int .i64 (wordG x.1 x.2)) := Con.lev fit (pls := pls) (l := [enPick]) ⟨enPick_ok ρ, trivial⟩ (.cons (.int _ _) (.cons (.int _ _) .nil)) (.int _ _) (by
  have hw : Plain (cfgN pls [enPick]) 56 := plainN (fun _ => rfl) rfl
  obtain ⟨n, m⟩ := x
  have hr := pickG_range (n := n) (m := 24) (by omega) (by omega)
  have hp : 0 ≤ pickG n 24 := hr.1
  rw [pkE]
  simp only []
  have hq : (24 : Int) ≠ 0 := by decide
  refine WpCall.slim (M := 25) (rs := [.tmp 4]) (hw.call _) hw.ice hw.froz Try.func56 rfl rfl code56.2 rfl ?_; dsimp only [code56, envOf, Nat.reduceAdd]
  have gh0 := @bsEd
  repeat' (first
     | (apply Rx.nl ?_; clear hK K) | apply Rx.o ?_ | (apply Rx.call ?_; first | refine Rx.k (pick_en (fun _ => rfl) _ _ (by decide) _) ?_) | (apply Rx.cd (fun hb hbp => ?_) (fun hb hbp => ?_) <;> try (cases hb; done)) | apply Wp.seq ?_ | (apply Wp.ops' fun K hK => ?_) | apply Wp.block ?_ | apply Rx.sk ?_ | apply Rx.rt ?_)
  · have hlt : (pickG n 24).toNat < 10 := by omega
    have hg : edgesG[(pickG n 24).toNat]? = some (edgesG.getD (pickG n 24).toNat 0) := by
      rw [List.getD_eq_getElem?_getD, List.getElem?_eq_getElem (by simpa [edgesG] using hlt)]; rfl
    repeat' (first
       | (apply Rx.nl ?_; clear hK K) | apply Ry.o ?_ | (apply Ry.cd (fun hb hbp => ?_) (fun hb hbp => ?_) <;> try (cases hb; done)) | apply Wp.seq ?_ | (apply Wp.ops' fun K hK => ?_) | apply Wp.block ?_ | apply Rx.sk ?_ | apply Rx.rt ?_)
    all_goals (refine ⟨eI, _, eR, ?_⟩; try simp only [oneOr])
    rw [wordG, if_pos (by assumption)]
  · all_goals (refine ⟨eI, _, eR, ?_⟩; try simp only [oneOr])
    rw [wordG, if_neg (by assumption), if_pos (by assumption)]
  · all_goals (refine ⟨eI, _, eR, ?_⟩; try simp only [oneOr])
    rw [wordG, if_neg (by assumption), if_neg (by assumption)])
noncomputable def enWord : En := ⟨56, false, spP (fun _ => True) pkE fun x => .int .i64 (wordG x.1 x.2)⟩
theorem enWord_ok (ρ : Nat → Int) : EnOk Try.prog ρ enWord := spP_ok fun x hx => word_con ρ x
theorem word_en {l : List En} (hl : ∀ ar, lookN l 56 ar = enWord.sp ar) (n m : Int) (H : Hp) : WpCall Try.prog (cfgN pls l) 56 [.int .i64 n, .int .i64 m] H fun v H' => v = .int .i64 (wordG n m) ∧ H' = H :=
  WpCall.en (enc := pkE) (ok := fun _ => True) (out := fun x => .int .i64 (wordG x.1 x.2)) pkE_inj (x := (n, m)) (hl _) trivial
def nmsG (f : Int) : List (List UInt8) := if f = 0 then [[120], [121], [105], [106]] else [[110], [105]]
theorem nmsG_len (f : Int) : (nmsG f).length = 4 ∨ (nmsG f).length = 2 := by unfold nmsG; split <;> simp
theorem nms4 (H : Hp) (a b c d : List UInt8) : buildSliceA Try.prog H 35 4 [(0, .str a), (1, .str b), (2, .str c), (3, .str d)] = some (.sl H.next 0 4 1, H.alloc (.cells [.str a, .str b, .str c, .str d] 0 true)) := by kernel_rfl
theorem nms2 (H : Hp) (a b : List UInt8) : buildSliceA Try.prog H 35 2 [(0, .str a), (1, .str b)] = some (.sl H.next 0 2 1, H.alloc (.cells [.str a, .str b] 0 true)) := by kernel_rfl
theorem names_con (ρ : Nat → Int) (f : Int) : Con Try.prog ρ 66 [.int .i64 f] (lstS (nmsG f)) := Con.of_made (m := 3) (cfg := cfgN pls []) fit (noDec ρ) (fun f args r h => by simp [cfgN, lookN] at h) (.cons (.int _ _) .nil) (by
  have hw := plain0 66
  refine WpCall.slim (M := 7) (rs := [.tmp 2]) (hw.call _) hw.ice hw.froz Try.func66 rfl rfl code66.2 rfl ?_; dsimp only [code66, envOf, Nat.reduceAdd]
  have gh0 := @nms4
  have gh1 := @nms2
  repeat' (first
     | (apply Rx.nl ?_; clear hK K) | apply Rx.o ?_ | (apply Rx.cd (fun hb hbp => ?_) (fun hb hbp => ?_) <;> try (cases hb; done)) | apply Wp.seq ?_ | (apply Wp.ops' fun K hK => ?_) | apply Rx.sk ?_ | apply Rx.rt ?_)
  · all_goals (refine ⟨eI, _, eR, ?_⟩; try simp only [oneOr])
    rw [nmsG, if_pos (by assumption)]; rfl
  · all_goals (refine ⟨eI, _, eR, ?_⟩; try simp only [oneOr])
    rw [nmsG, if_neg (by assumption)]; rfl)
noncomputable def enNms : En := ⟨66, false, spP (fun _ => True) (fun n : Int => [.int .i64 n]) fun f => lstS (nmsG f)⟩
theorem enNms_ok (ρ : Nat → Int) : EnOk Try.prog ρ enNms := spP_ok fun x hx => names_con ρ x
theorem names_en {l : List En} (hl : ∀ ar, lookN l 66 ar = enNms.sp ar) (f : Int) (H : Hp) : WpCall Try.prog (cfgN pls l) 66 [.int .i64 f] H fun v H' => v = lstS (nmsG f) ∧ H' = H :=
  WpCall.en (enc := fun n : Int => [.int .i64 n]) (ok := fun _ => True) (out := fun f => lstS (nmsG f)) intE_inj (x := f) (hl _) trivial
end Go.Proofs.Ytackdnelcpbfjaa
namespace Go.Proofs.Ytackdnelcpbfjaa
set_option maxRecDepth 20000
set_option linter.unusedSimpArgs false
set_option linter.unusedVariables false
set_option linter.unusedSectionVars false
set_option linter.defProp false
set_option maxRecDepth 20000
open Go Go.Ab
namespace tyG2
def tyF := And.intro @tq3 (And.intro @tq26 (@tq80))
end tyG2
open tyG2
/-- The value v reads asx w, nil for rows without elements. -/
def RdW (S : Nat → Prop) (n : Nat) (H : Hp) (v w : AV) : Prop := ∃ u, Ic S n H v u ∧ ∀ m, n ≤ m → wkN m u = w
def CellsW (S : Nat → Prop) (n : Nat) (H : Hp) (cs ws : List AV) : Prop := ∃ us, All2 (Ic S n H) cs us ∧ ∀ m, n ≤ m → us.map (wkN m) = ws
theorem RdW.frame {S S' : Nat → Prop} (hS : ∀ k, S k → S' k) {n : Nat} {H H' : Hp} {v w : AV} (h : RdW S n H v w) (hn : H.next ≤ H'.next) (hf : ∀ k, S k → k < H.next → SameB (H.get k) (H'.get k)) : RdW S' n H' v w := by
  obtain ⟨u, h1, h2⟩ := h
  exact ⟨u, h1.frame hS hn hf, h2⟩
theorem CellsW.frame {S S' : Nat → Prop} (hS : ∀ k, S k → S' k) {n : Nat} {H H' : Hp} {v w : List AV} (h : CellsW S n H v w) (hn : H.next ≤ H'.next) (hf : ∀ k, S k → k < H.next → SameB (H.get k) (H'.get k)) : CellsW S' n H' v w := by
  obtain ⟨u, h1, h2⟩ := h
  exact ⟨u, h1.mono fun a b k => k.frame hS hn hf, h2⟩
theorem CellsW.keep {S S' : Nat → Prop} (hS : ∀ k, S k → S' k) {n : Nat} {H H' : Hp} {v w : List AV} (h : CellsW S n H v w) (hn : H.next ≤ H'.next) (hf : ∀ k, S k → k < H.next → H'.get k = H.get k) : CellsW S' n H' v w := h.frame hS hn fun k h1 h2 => .inl (hf k h1 h2).symm
theorem RdW.keep {S S' : Nat → Prop} (hS : ∀ k, S k → S' k) {n : Nat} {H H' : Hp} {v w : AV} (h : RdW S n H v w) (hn : H.next ≤ H'.next) (hf : ∀ k, S k → k < H.next → H'.get k = H.get k) : RdW S' n H' v w := h.frame hS hn fun k h1 h2 => .inl (hf k h1 h2).symm
theorem RdW.up {S : Nat → Prop} {n m : Nat} {H : Hp} {v w : AV} (h : RdW S n H v w) (hm : n ≤ m) : RdW S m H v w := by
  obtain ⟨u, h1, h2⟩ := h
  exact ⟨u, h1.up hm, fun k hk => h2 k (by omega)⟩
theorem CellsW.up {S : Nat → Prop} {n m : Nat} {H : Hp} {v w : List AV} (h : CellsW S n H v w) (hm : n ≤ m) : CellsW S m H v w := by
  obtain ⟨u, h1, h2⟩ := h
  exact ⟨u, h1.mono fun a b k => k.up hm, fun k hk => h2 k (by omega)⟩
theorem CellsW.nil {S : Nat → Prop} {n : Nat} {H : Hp} : CellsW S n H [] [] := ⟨[], trivial, fun _ _ => rfl⟩
theorem CellsW.cons {S : Nat → Prop} {n : Nat} {H : Hp} {v w : AV} {cs ws : List AV} (h : RdW S n H v w) (k : CellsW S n H cs ws) : CellsW S n H (v :: cs) (w :: ws) := by
  obtain ⟨u, h1, h2⟩ := h
  obtain ⟨us, h3, h4⟩ := k
  exact ⟨u :: us, ⟨h1, h3⟩, fun m hm => by rw [List.map_cons, h2 m hm, h4 m hm]⟩
theorem CellsW.append {S : Nat → Prop} {n : Nat} {H : Hp} : ∀ {a b c d : List AV}, CellsW S n H a b → CellsW S n H c d → CellsW S n H (a ++ c) (b ++ d)
  | a, b, c, d, ⟨u, h1, h2⟩, ⟨v, h3, h4⟩ => ⟨u ++ v, h1.append h3, fun m hm => by rw [List.map_append, h2 m hm, h4 m hm]⟩
theorem RdW.flat {S : Nat → Prop} {n : Nat} {H : Hp} {v : AV} (h : flatA v) (hk : ∀ m, wkN m v = v) : RdW S (n + 1) H v v := ⟨v, Ic.flat h, fun m _ => hk m⟩
theorem RdW.int {S : Nat → Prop} {n : Nat} {H : Hp} (k : IntKind) (x : Int) : RdW S (n + 1) H (.int k x) (.int k x) := .flat ⟨.int _ _, trivial⟩ fun m => by cases m <;> rfl
theorem RdW.str {S : Nat → Prop} {n : Nat} {H : Hp} (s : List UInt8) : RdW S (n + 1) H (.str s) (.str s) := .flat ⟨.str _, trivial⟩ fun m => by cases m <;> rfl
theorem RdW.nilS {S : Nat → Prop} {n : Nat} {H : Hp} : RdW S (n + 1) H .nilS (.lst []) := ⟨.nilS, Ic.flat ⟨.nilS, trivial⟩, fun m hm => by
  obtain ⟨m, rfl⟩ : ∃ k, m = k + 1 := ⟨m - 1, by omega⟩
  rfl⟩
/-- Rows of z cells in memory. -/
def RowsW (S : Nat → Prop) (n : Nat) (H : Hp) (z : Nat) : List (List AV) → List (List AV) → Prop := All2 fun a b => a.length = z ∧ CellsW S n H a b
theorem RowsW.two {S : Nat → Prop} {n z : Nat} {H : Hp} : ∀ {a b : List (List AV)}, RowsW S n H z a b → ∃ u, All2 (All2 (Ic S n H)) a u ∧ (∀ m, n ≤ m → u.map (List.map (wkN m)) = b) ∧ ∀ x ∈ a, x.length = z
  | [], [], _ => ⟨[], trivial, fun _ _ => rfl, by simp⟩
  | x :: a, y :: b, ⟨⟨hz, v, h1, h2⟩, h⟩ => by
    obtain ⟨u, h3, h4, h5⟩ := RowsW.two (a := a) (b := b) h
    exact ⟨v :: u, ⟨h1, h3⟩, fun m hm => by rw [List.map_cons, h2 m hm, h4 m hm], fun q hq => by
      rcases List.mem_cons.1 hq with rfl | hq
      · exact hz
      · exact h5 q hq⟩
theorem RdW.rows {S : Nat → Prop} {n : Nat} {H : Hp} {r z imm : Nat} {tip : Bool} {a b : List (List AV)} (hS : S r) (hr : r < H.next) (hg : H.get r = some (.cells a.flatten imm tip)) (hi : imm ≤ a.flatten.length) (h : RowsW S n H z a b) : RdW S (n + 1) H (.sl r 0 a.length z) (.lst b) := by
  obtain ⟨u, h1, h2, h3⟩ := RowsW.two h
  refine ⟨.lst u, Ic.rows hS hr hg hi h3 h1, fun m hm => ?_⟩
  obtain ⟨m, rfl⟩ : ∃ k, m = k + 1 := ⟨m - 1, by omega⟩
  show AV.lst (u.map fun row => row.map (wkN m)) = _
  rw [← h2 m (by omega)]
theorem RowsW.frame {S S' : Nat → Prop} (hS : ∀ k, S k → S' k) {n z : Nat} {H H' : Hp} {a b : List (List AV)} (h : RowsW S n H z a b) (hn : H.next ≤ H'.next) (hf : ∀ k, S k → k < H.next → H'.get k = H.get k) : RowsW S' n H' z a b := All2.mono (fun x y k => ⟨k.1, k.2.keep hS hn hf⟩) h
theorem RowsW.up {S : Nat → Prop} {n m z : Nat} {H : Hp} {a b : List (List AV)} (h : RowsW S n H z a b) (hm : n ≤ m) : RowsW S m H z a b := All2.mono (fun x y k => ⟨k.1, k.2.up hm⟩) h
/-- Strings. -/
theorem CellsW.strs {S : Nat → Prop} {n : Nat} {H : Hp} (s : List UInt8) : CellsW S (n + 1) H [.str s] [.str s] := .cons (.str s) .nil
theorem RowsW.strs {S : Nat → Prop} {n : Nat} {H : Hp} : ∀ l : List (List UInt8), RowsW S (n + 1) H 1 (l.map fun s => [AV.str s]) (l.map fun s => [AV.str s])
  | [] => trivial
  | a :: l => ⟨⟨rfl, CellsW.strs a⟩, RowsW.strs l⟩
theorem RdW.lstS {S : Nat → Prop} {n : Nat} {H : Hp} (l : List (List UInt8)) : RdW S (n + 1) H (Ab.lstS l) (Ab.lstS l) := ⟨Ab.lstS l, Ic.flat ⟨strs_pure l, trivial⟩, fun m _ => by
  cases m with
  | zero => rfl
  | succ m =>
    show AV.lst ((l.map fun s => [AV.str s]).map fun row => row.map (wkN m)) = _
    rw [List.map_map]
    congr 1
    exact List.map_congr_left fun s _ => by cases m <;> rfl⟩
theorem ex_node {S : Nat → Prop} {n : Nat} {H : Hp} (k nn o : Int) (s : List UInt8) {kv : AV} {es : List Ex} (h : RdW S (n + 1) H kv (.lst (es.map Ex.cells))) : CellsW S (n + 1) H [.int .i64 k, .int .i64 nn, .str s, .int .i64 o, kv] (Ex.mk k nn s o es).cells := by
  rw [Ex.cells_eq]
  exact .cons (.int _ _) (.cons (.int _ _) (.cons (.str _) (.cons (.int _ _) (.cons h .nil))))
theorem ex_leaf {S : Nat → Prop} {n : Nat} {H : Hp} (k nn o : Int) (s : List UInt8) : CellsW S (n + 1) H [.int .i64 k, .int .i64 nn, .str s, .int .i64 o, .nilS] (Ex.mk k nn s o []).cells := ex_node k nn o s .nilS
def nextG : List Int → Int × List Int
  | [] => (0, [])
  | a :: l => (a, l)
/-- The slice v reads L; its block is below lo, and not r. -/
def SeedV (lo : Nat) (H : Hp) (r : Nat) (v : AV) (L : List Int) : Prop := (v = .lst [] ∧ L = []) ∨ ∃ b off cs imm, v = .sl b off L.length 1 ∧ H.get b = some (.cells cs imm true) ∧ cs.drop off = L.map (fun n => AV.int .i64 n) ∧ b ≠ r ∧ b < lo
/-- The reader at r: seeds L, c loops; all its blocks are below lo. -/
def RdOk (lo : Nat) (H : Hp) (r : Nat) (L : List Int) (c : Int) : Prop := r < lo ∧ lo ≤ H.next ∧ ∃ v, H.get r = some (.cells [v, .int .i64 c] 0 true) ∧ SeedV lo H r v L
theorem RdOk.keep {lo : Nat} {H H' : Hp} {r : Nat} {L : List Int} {c : Int} (h : RdOk lo H r L c) (hn : H.next ≤ H'.next) (hg : ∀ k, k < lo → H'.get k = H.get k) : RdOk lo H' r L c := by
  obtain ⟨h0, h00, v, h1, h2⟩ := h
  refine ⟨h0, by omega, v, by rw [hg _ h0]; exact h1, ?_⟩
  rcases h2 with h2 | ⟨b, off, cs, imm, e1, e2, e3, e4, e5⟩
  · exact .inl h2
  · exact .inr ⟨b, off, cs, imm, e1, by rw [hg _ e5]; exact e2, e3, e4, e5⟩
noncomputable def code31 : { c : SC // slim 25 (Try.f31.body.getD .skip) = c } := by
  refine ⟨?_, ?_⟩
  rotate_left
  · simp only [Try.f31, Option.getD_some, slim, slimR, slimL, slimD, slimG, Nat.blt, Nat.ble]
    rfl
set_option maxHeartbeats 4000000 in
theorem next_wp {cfg : Cfg} (hw : Plain cfg 31) {lo : Nat} {H : Hp} {r : Nat} {L : List Int} {c : Int} (h : RdOk lo H r L c) (hL : L.length < 2 ^ 60) :
    WpCall Try.prog cfg 31 [.ptr r 0] H fun v H' => v = .int .i64 (nextG L).1 ∧ RdOk lo H' r (nextG L).2 c ∧ H'.next = H.next ∧ ∀ k, k ≠ r → H'.get k = H.get k := by
  obtain ⟨h0, h00, v, h1, h2⟩ := h
  rcases h2 with ⟨rfl, rfl⟩ | ⟨b, off, cs, imm, rfl, e2, e3, e4, e5⟩
  · refine WpCall.slim (M := 25) (rs := [.tmp 2]) (hw.call _) hw.ice hw.froz Try.func31 rfl rfl code31.2 rfl ?_; dsimp only [code31, envOf, Nat.reduceAdd]
    repeat' (first
       | (apply Rx.nl ?_; clear hK K) | apply Rx.o ?_ | apply Rx.on ?_ | (apply Rx.cd (fun hb hbp => ?_) (fun hb hbp => ?_) <;> try (cases hb; done)) | apply Wp.seq ?_ | (apply Wp.ops' fun K hK => ?_) | apply Rx.sk ?_ | apply Rx.rt ?_)
    all_goals (refine ⟨eI, _, eR, ?_⟩; try simp only [oneOr])
    exact ⟨by first | rfl | trivial, ⟨h0, h00, _, h1, .inl ⟨rfl, rfl⟩⟩, by first | rfl | trivial, fun _ _ => by first | rfl | trivial⟩
  · cases L with
    | nil =>
      refine WpCall.slim (M := 25) (rs := [.tmp 2]) (hw.call _) hw.ice hw.froz Try.func31 rfl rfl code31.2 rfl ?_; dsimp only [code31, envOf, Nat.reduceAdd]
      repeat' (first
         | (apply Rx.nl ?_; clear hK K) | apply Rx.o ?_ | apply Rx.on ?_ | (apply Rx.cd (fun hb hbp => ?_) (fun hb hbp => ?_) <;> try (cases hb; done)) | apply Wp.seq ?_ | (apply Wp.ops' fun K hK => ?_) | apply Rx.sk ?_ | apply Rx.rt ?_)
      all_goals (refine ⟨eI, _, eR, ?_⟩; try simp only [oneOr])
      exact ⟨by first | rfl | trivial, ⟨h0, h00, _, h1, .inr ⟨b, off, cs, imm, rfl, e2, e3, e4, e5⟩⟩, by first | rfl | trivial, fun _ _ => by first | rfl | trivial⟩
    | cons a L =>
      have hg : cs[off]? = some (.int .i64 a) := by
        have := congrArg (fun l => l[0]?) e3
        simpa using this
      have hd : cs.drop (off + 1) = L.map (fun n => AV.int .i64 n) := by
        have := congrArg (List.drop 1) e3
        rw [List.drop_drop] at this
        simpa using this
      have hpos : 0 < L.length + 1 := by omega
      have hsl : sliceA Try.prog 26 (.sl b off (L.length + 1) 1) (some (.int .i64 1)) none = if L = [] then some (.lst []) else some (.sl b (off + 1) L.length 1) := by
        simp only [sliceA, Try.underlying26, sz3, boundA]
        by_cases hn : L = []
        · subst hn; rfl
        · have : 0 < L.length := List.length_pos_iff.2 hn
          rw [if_neg hn, if_pos ⟨by omega, Nat.le_refl _, trivial⟩, if_neg (by omega)]
          rfl
      have hne : ¬ (((L.length + 1 : Nat) : Int) = 0) := by omega
      have hrb : (b == r) = false := ne_beq e4
      refine WpCall.slim (M := 25) (rs := [.tmp 2]) (hw.call _) hw.ice hw.froz Try.func31 rfl rfl code31.2 rfl ?_; dsimp only [code31, envOf, Nat.reduceAdd]
      by_cases hn : L = []
      · subst hn
        have hsl' : sliceA Try.prog 26 (.sl b off 1 1) (some (.int .i64 1)) none = some (.lst []) := hsl
        have hne' : ¬ (((1 : Nat) : Int) = 0) := by decide
        have hp' : 0 < 1 := by decide
        clear hsl hne hpos
        repeat' (first
           | (apply Rx.nl ?_; clear hK K) | apply Ry.o ?_ | apply Ry.on ?_ | (apply Ry.cd (fun hb hbp => ?_) (fun hb hbp => ?_) <;> try (cases hb; done)) | apply Wp.seq ?_ | (apply Wp.ops' fun K hK => ?_) | apply Rx.sk ?_ | apply Rx.rt ?_)
        all_goals (refine ⟨eI, _, eR, ?_⟩; try simp only [oneOr])
        refine ⟨by first | rfl | trivial, ⟨h0, h00, _, by rw [Hp.get_set, if_pos rfl], .inl ⟨rfl, rfl⟩⟩, by first | rfl | trivial, fun k hk => by rw [Hp.get_set, if_neg hk]⟩
      · rw [if_neg hn] at hsl
        repeat' (first
           | (apply Rx.nl ?_; clear hK K) | apply Ry.o ?_ | apply Ry.on ?_ | (apply Ry.cd (fun hb hbp => ?_) (fun hb hbp => ?_) <;> try (cases hb; done)) | apply Wp.seq ?_ | (apply Wp.ops' fun K hK => ?_) | apply Rx.sk ?_ | apply Rx.rt ?_)
        all_goals (refine ⟨eI, _, eR, ?_⟩; try simp only [oneOr])
        refine ⟨by first | rfl | trivial, ⟨h0, h00, _, by rw [Hp.get_set, if_pos rfl]; rfl, .inr ⟨b, off + 1, cs, imm, rfl, by rw [Hp.get_set, if_neg e4]; exact e2, hd, e4, e5⟩⟩, by first | rfl | trivial, fun k hk => by rw [Hp.get_set, if_neg hk]⟩
end Go.Proofs.Ytackdnelcpbfjaa
