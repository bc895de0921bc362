/- What the checker's functions compute, on plain data. -/
import Derived.Test.YtlanljjbcpepjaaTree
namespace Go.Ab
set_option linter.unusedSimpArgs false
set_option linter.unusedVariables false
set_option linter.unusedSectionVars false
open Go

abbrev w64 (n : Int) : Int := IntKind.wrap .i64 n

section
variable (q : Ex → Int → Bool)
mutual
def walkE : Ex → Int → Bool
  | .mk k n s o ks, d => q (.mk k n s o ks) d && walkEs ks (w64 (d + 1))
def walkEs : List Ex → Int → Bool
  | [], _ => true
  | e :: es, d => walkE e d && walkEs es d
end
theorem walkE_eq (e : Ex) (d : Int) : walkE q e d = (q e d && walkEs q e.kids (w64 (d + 1))) := by
  cases e; simp only [walkE, Ex.kids]
theorem walkEs_drop {l : List Ex} {i : Nat} (h : i < l.length) (d : Int) : walkEs q (l.drop i) d = (walkE q l[i] d && walkEs q (l.drop (i + 1)) d) := by
  rw [List.drop_eq_getElem_cons h, walkEs]
end

section
variable {σ : Type} (q : St → Int → σ → Bool × σ)
mutual
def walk1 : St → Int → σ → Bool × σ
  | .mk k nm to n a v args th el, d, s => match q (.mk k nm to n a v args th el) d s with
    | (false, s) => (false, s)
    | (true, s) => match walkS th (w64 (d + 1)) s with
      | (false, s) => (false, s)
      | (true, s) => walkS el (w64 (d + 1)) s
def walkS : List St → Int → σ → Bool × σ
  | [], _, s => (true, s)
  | x :: l, d, s => match walk1 x d s with
    | (false, s) => (false, s)
    | (true, s) => walkS l d s
end
theorem walk1_eq (x : St) (d : Int) (s : σ) : walk1 q x d s = match q x d s with
    | (false, s) => (false, s)
    | (true, s) => match walkS q x.thn (w64 (d + 1)) s with
      | (false, s) => (false, s)
      | (true, s) => walkS q x.els (w64 (d + 1)) s := by
  cases x; simp only [walk1, St.thn, St.els]
theorem walkS_drop {l : List St} {i : Nat} (h : i < l.length) (d : Int) (s : σ) : walkS q (l.drop i) d s = match walk1 q l[i] d s with
    | (false, s) => (false, s)
    | (true, s) => walkS q (l.drop (i + 1)) d s := by
  rw [List.drop_eq_getElem_cons h, walkS]
end

/-! How large a tree is: each list in it is no longer. -/
mutual
def Ex.sz : Ex → Nat
  | .mk _ _ s _ ks => 1 + s.length + exprsSz ks
def exprsSz : List Ex → Nat
  | [] => 0
  | e :: es => 1 + e.sz + exprsSz es
end
mutual
def St.sz : St → Nat
  | .mk _ nm to _ a v args th el => 1 + nm.length + to.length + a.sz + v.sz + exprsSz args + stmtsSz th + stmtsSz el
def stmtsSz : List St → Nat
  | [] => 0
  | x :: l => 1 + x.sz + stmtsSz l
end
def strsSz : List (List UInt8) → Nat
  | [] => 0
  | s :: l => 1 + s.length + strsSz l
def Fu.sz (f : Fu) : Nat := 1 + f.name.length + strsSz f.params + strsSz f.locals + stmtsSz f.body + f.value.sz
def fnsSz : List Fu → Nat
  | [] => 0
  | f :: l => 1 + f.sz + fnsSz l
def arrsSz : List Ar → Nat
  | [] => 0
  | a :: l => 1 + a.name.length + arrsSz l
def Pr.sz (p : Pr) : Nat := 1 + arrsSz p.arrays + fnsSz p.funcs

theorem exprsSz_len : ∀ l : List Ex, l.length ≤ exprsSz l
  | [] => Nat.le_refl _
  | e :: es => by have := exprsSz_len es; simp only [List.length_cons, exprsSz]; omega
theorem stmtsSz_len : ∀ l : List St, l.length ≤ stmtsSz l
  | [] => Nat.le_refl _
  | e :: es => by have := stmtsSz_len es; simp only [List.length_cons, stmtsSz]; omega
theorem strsSz_len : ∀ l : List (List UInt8), l.length ≤ strsSz l
  | [] => Nat.le_refl _
  | e :: es => by have := strsSz_len es; simp only [List.length_cons, strsSz]; omega
theorem fnsSz_len : ∀ l : List Fu, l.length ≤ fnsSz l
  | [] => Nat.le_refl _
  | e :: es => by have := fnsSz_len es; simp only [List.length_cons, fnsSz]; omega
theorem arrsSz_len : ∀ l : List Ar, l.length ≤ arrsSz l
  | [] => Nat.le_refl _
  | e :: es => by have := arrsSz_len es; simp only [List.length_cons, arrsSz]; omega
theorem exprsSz_mem : ∀ {l : List Ex} {x : Ex}, x ∈ l → x.sz < exprsSz l
  | [], _, h => by simp at h
  | e :: es, x, h => by
    rcases List.mem_cons.1 h with rfl | h
    · simp only [exprsSz]; omega
    · have := exprsSz_mem h; simp only [exprsSz]; omega
theorem stmtsSz_mem : ∀ {l : List St} {x : St}, x ∈ l → x.sz < stmtsSz l
  | [], _, h => by simp at h
  | e :: es, x, h => by
    rcases List.mem_cons.1 h with rfl | h
    · simp only [stmtsSz]; omega
    · have := stmtsSz_mem h; simp only [stmtsSz]; omega
theorem strsSz_mem : ∀ {l : List (List UInt8)} {x : List UInt8}, x ∈ l → x.length < strsSz l
  | [], _, h => by simp at h
  | e :: es, x, h => by
    rcases List.mem_cons.1 h with rfl | h
    · simp only [strsSz]; omega
    · have := strsSz_mem h; simp only [strsSz]; omega
theorem fnsSz_mem : ∀ {l : List Fu} {x : Fu}, x ∈ l → x.sz < fnsSz l
  | [], _, h => by simp at h
  | e :: es, x, h => by
    rcases List.mem_cons.1 h with rfl | h
    · simp only [fnsSz]; omega
    · have := fnsSz_mem h; simp only [fnsSz]; omega
theorem Ex.sz_eq (e : Ex) : e.sz = 1 + e.name.length + exprsSz e.kids := by cases e; simp only [Ex.sz, Ex.name, Ex.kids]
theorem St.sz_eq (x : St) : x.sz = 1 + x.name.length + x.to.length + x.at_.sz + x.value.sz + exprsSz x.args + stmtsSz x.thn + stmtsSz x.els := by cases x; simp only [St.sz, St.name, St.to, St.at_, St.value, St.args, St.thn, St.els]

/-- What a call leaves alone: all blocks from 'base' on. -/
structure FrB (base : Nat) (H H' : Hp) : Prop where
  next : H.next ≤ H'.next
  get : ∀ r, base ≤ r → r < H.next → H'.get r = H.get r
theorem FrB.refl (base : Nat) (H : Hp) : FrB base H H := ⟨Nat.le_refl _, fun _ _ _ => rfl⟩
theorem FrB.trans {base : Nat} {a b c : Hp} (h : FrB base a b) (k : FrB base b c) : FrB base a c := ⟨Nat.le_trans h.next k.next, fun r h1 h2 => (k.get r h1 (Nat.lt_of_lt_of_le h2 h.next)).trans (h.get r h1 h2)⟩
theorem FrB.alloc {base : Nat} {a b : Hp} (h : FrB base a b) (x : HB) : FrB base a (b.alloc x) := ⟨Nat.le_trans h.next (Nat.le_succ _), fun r h1 h2 => by
  have := h.next
  rw [Hp.get_alloc, if_neg (by omega)]; exact h.get r h1 h2⟩
theorem FrB.set {base r : Nat} {a b : Hp} (h : FrB base a b) (hr : a.next ≤ r ∨ r < base) (x : HB) : FrB base a (b.set r x) := ⟨h.next, fun k h1 h2 => by
  rw [Hp.get_set, if_neg (by omega)]; exact h.get k h1 h2⟩
/-- The blocks below 'base' are as they were. -/
def Low (base : Nat) (H H' : Hp) : Prop := ∀ r, r < base → H'.get r = H.get r
theorem Low.refl (base : Nat) (H : Hp) : Low base H H := fun _ _ => rfl
theorem Low.trans {base : Nat} {a b c : Hp} (h : Low base a b) (k : Low base b c) : Low base a c := fun r hr => (k r hr).trans (h r hr)
theorem Low.alloc {base : Nat} {a b : Hp} (h : Low base a b) (hb : base ≤ b.next) (x : HB) : Low base a (b.alloc x) := fun r hr => by rw [Hp.get_alloc, if_neg (by omega)]; exact h r hr
theorem Low.set {base r : Nat} {a b : Hp} (h : Low base a b) (hr : base ≤ r) (x : HB) : Low base a (b.set r x) := fun k hk => by rw [Hp.get_set, if_neg (by omega)]; exact h k hk
end Go.Ab
namespace Go.Ab
open Go
theorem FrB.weak {base base' : Nat} (h : base ≤ base') {a b : Hp} (k : FrB base a b) : FrB base' a b := ⟨k.next, fun r h1 h2 => k.get r (Nat.le_trans h h1) h2⟩
theorem Low.weak {base base' : Nat} (h : base ≤ base') {a b : Hp} (k : Low base' a b) : Low base a b := fun r hr => k r (Nat.lt_of_lt_of_le hr h)

/-! The limits. -/
def limS (x : St) (d : Int) (s : Int × Int) : Bool × (Int × Int) :=
  let n := w64 (s.1 + 1)
  let l := if x.kind = 4 then w64 (s.2 + 1) else s.2
  (decide (d ≤ 20) && decide (n ≤ 200) && decide (l ≤ 16), (n, l))
def limE (_ : Ex) (d : Int) : Bool := decide (d ≤ 20)
/-- A visit of the expressions of a statement. -/
def inSt (q : Ex → Int → Bool) (x : St) (_ : Int) (s : Unit) : Bool × Unit := (walkE q x.at_ 0 && walkE q x.value 0 && walkEs q x.args 0, s)
def walkFn (q : Ex → Int → Bool) (f : Fu) : Bool := walkE q f.value 0 && (walkS (inSt q) f.body 0 ()).1
def limFn (f : Fu) : Bool := decide ((f.params.length : Int) ≤ 6) && decide ((f.locals.length : Int) ≤ 8) && (walkS limS f.body 0 (0, 0)).1 && walkFn limE f
def limP (p : Pr) : Bool := !decide (4 < (p.arrays.length : Int)) && !decide (8 < (p.funcs.length : Int)) && p.arrays.all (fun a => !decide (a.len < 1) && !decide (16 < a.len)) && p.funcs.all limFn
end Go.Ab
