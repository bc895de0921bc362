/- What a program does: the interpreter on plain data, in steps (n: a bound on the depth). -/
import Derived.Test.YtlanljjbcpepjaaSpec6
namespace Go.Ab
set_option linter.unusedVariables false
open Go

abbrev Nm := List UInt8
structure MS where
  fuel : Int
  fin : Int
  code : Int
  cells : List (Nm × List Int)
  out : List Int

def lkV : List (Nm × Int) → Nm → Int
  | [], _ => 0
  | p :: l, nm => if nm = p.1 then p.2 else lkV l nm
def setV : List (Nm × Int) → Nm → Int → List (Nm × Int)
  | [], nm, x => [(nm, x)]
  | p :: l, nm, x => if nm = p.1 then (nm, x) :: l else p :: setV l nm x
def lkC : List (Nm × List Int) → Nm → List Int
  | [], _ => []
  | p :: l, nm => if nm = p.1 then p.2 else lkC l nm
def setC : List (Nm × List Int) → Nm → Nat → Int → List (Nm × List Int)
  | [], _, _, _ => []
  | p :: l, nm, i, x => if nm = p.1 then (p.1, p.2.set i x) :: l else p :: setC l nm i x

def trapM (c : Int) (s : MS) : MS := if s.fin = 0 then { s with fin := 2, code := c } else s
def tickM (s : MS) : MS := if s.fin ≠ 0 then s else if s.fuel = 0 then { s with fin := 3 } else { s with fuel := w64 (s.fuel - 1) }
def outM (v : Int) (s : MS) : MS := if s.fin = 0 then { s with out := s.out ++ [v] } else s
def badAt (a : Int) (l : List Int) : Bool := decide (a < 0) || decide ((l.length : Int) ≤ a)
def storeM (nm : Nm) (a v : Int) (s : MS) : MS :=
  let s1 := if badAt a (lkC s.cells nm) = true then trapM 2 s else s
  if s1.fin = 0 then { s1 with cells := setC s1.cells nm a.toNat v } else s1

def exprM : Nat → Ex → List (Nm × Int) → MS → Option (Int × MS)
  | 0, _, _, _ => none
  | n + 1, x, vs, s =>
    if s.fin ≠ 0 then some (0, s)
    else if x.kind = 1 then some (x.n, s)
    else if x.kind = 2 then some (lkV vs x.name, s)
    else if x.kind = 3 then
      (x.kids[0]?).bind fun k => (exprM n k vs s).bind fun r =>
        if badAt r.1 (lkC r.2.cells x.name) = true then some (0, trapM 2 r.2) else some ((lkC r.2.cells x.name).getD r.1.toNat 0, r.2)
    else if x.kind = 5 then
      (x.kids[0]?).bind fun k => (exprM n k vs s).bind fun r =>
        if r.1 ≠ 0 then (x.kids[1]?).bind fun k => exprM n k vs r.2 else (x.kids[2]?).bind fun k => exprM n k vs r.2
    else
      (x.kids[0]?).bind fun k => (exprM n k vs s).bind fun r =>
        if x.kids.length = 1 then some (unI x.op r.1, r.2)
        else (x.kids[1]?).bind fun k => (exprM n k vs r.2).bind fun r2 =>
          if r2.1 = 0 ∧ (x.op = 7 ∨ x.op = 8) then some (0, trapM 1 r2.2) else some (binI x.op r.1 r2.1, r2.2)

def argsM (n : Nat) : List Ex → List (Nm × Int) → MS → Option (List Int × MS)
  | [], _, s => some ([], s)
  | x :: l, vs, s => (exprM n x vs s).bind fun r => (argsM n l vs r.2).bind fun r2 => some (r.1 :: r2.1, r2.2)

def bindV : List Nm → List Int → List (Nm × Int) → Option (List (Nm × Int))
  | [], _, vs => some vs
  | _ :: _, [], _ => none
  | nm :: l, a :: as, vs => bindV l as (setV vs nm a)

section
variable (p : Pr) (fi : List (Nm × Int))
mutual
def stmtM : Nat → St → List (Nm × Int) → MS → Option (List (Nm × Int) × MS)
  | 0, _, _, _ => none
  | n + 1, x, vs, s =>
    if x.kind = 1 then (exprM n x.value vs s).bind fun r => some (setV vs x.name r.1, r.2)
    else if x.kind = 2 then (exprM n x.at_ vs s).bind fun r => (exprM n x.value vs r.2).bind fun r2 => some (vs, storeM x.name r.1 r2.1 r2.2)
    else if x.kind = 3 then (exprM n x.value vs s).bind fun r => if r.1 ≠ 0 then stmtsM n x.thn vs r.2 else stmtsM n x.els vs r.2
    else if x.kind = 4 then whileM n x vs s
    else if x.kind = 5 then (exprM n x.value vs s).bind fun r => some (vs, outM r.1 r.2)
    else if x.kind = 6 then (argsM n x.args vs s).bind fun r =>
      if (tickM r.2).fin = 0 then (callM n (lkV fi x.to) r.1 (tickM r.2)).bind fun r2 => some (setV vs x.name r2.1, r2.2) else some (vs, tickM r.2)
    else if x.kind = 7 then some (vs, trapM (w64 (16 + x.n)) s)
    else some (vs, s)
def stmtsM : Nat → List St → List (Nm × Int) → MS → Option (List (Nm × Int) × MS)
  | 0, _, _, _ => none
  | n + 1, l, vs, s => match l with
    | [] => some (vs, s)
    | x :: l => if s.fin ≠ 0 then some (vs, s) else (stmtM n x vs s).bind fun r => stmtsM n l r.1 r.2
def whileM : Nat → St → List (Nm × Int) → MS → Option (List (Nm × Int) × MS)
  | 0, _, _, _ => none
  | n + 1, x, vs, s => (exprM n x.value vs s).bind fun r =>
    if r.1 ≠ 0 ∧ r.2.fin = 0 then
      if (tickM r.2).fin = 0 then (stmtsM n x.thn vs (tickM r.2)).bind fun r2 => whileM n x r2.1 r2.2 else whileM n x vs (tickM r.2)
    else some (vs, r.2)
def callM : Nat → Int → List Int → MS → Option (Int × MS)
  | 0, _, _, _ => none
  | n + 1, k, as, s => if k < 0 then none else (p.funcs[k.toNat]?).bind fun f => (bindV f.params as []).bind fun vs => (stmtsM n f.body vs s).bind fun r => exprM n f.value r.1 r.2
end
end

/-- The entries of a map of numbers. -/
def vEs (vs : List (Nm × Int)) : List (AV × AV) := vs.map fun p => (.str p.1, .int .i64 p.2)
/-- A row of numbers. -/
def ints (l : List Int) : List AV := l.map fun n => .int .i64 n
def cEs : List (Nm × List Int) → List Nat → List (AV × AV)
  | p :: l, r :: rs => (.str p.1, .sl r 0 p.2.length 1) :: cEs l rs
  | _, _ => []
theorem ints_len (l : List Int) : (ints l).length = l.length := by simp [ints]

theorem find_vEs (nm : Nm) : ∀ (vs : List (Nm × Int)) (i : Nat), (findA .string (.str nm) (vEs vs) i = some none ∧ lkV vs nm = 0 ∧ ∀ x, vEs (setV vs nm x) = vEs vs ++ [(.str nm, .int .i64 x)]) ∨
    ∃ j, j < vs.length ∧ findA .string (.str nm) (vEs vs) i = some (some (i + j, .int .i64 (lkV vs nm))) ∧ ∀ x, vEs (setV vs nm x) = (vEs vs).set j (.str nm, .int .i64 x)
  | [], i => .inl ⟨rfl, rfl, fun _ => rfl⟩
  | p :: l, i => by
    by_cases h : nm = p.1
    · refine .inr ⟨0, by simp, ?_, fun x => ?_⟩
      · simp [vEs, findA, keyA, lkV, h]
      · simp [vEs, setV, h]
    · have hf : findA .string (.str nm) (vEs (p :: l)) i = findA .string (.str nm) (vEs l) (i + 1) := by
        show findA .string (.str nm) ((.str p.1, .int .i64 p.2) :: vEs l) i = _
        have : (nm == p.1) = false := by simpa using h
        simp [findA, keyA, this]
      have hl : lkV (p :: l) nm = lkV l nm := by simp [lkV, h]
      have hs : ∀ x, vEs (setV (p :: l) nm x) = (.str p.1, .int .i64 p.2) :: vEs (setV l nm x) := fun x => by simp [setV, h, vEs]
      rw [hf, hl]
      rcases find_vEs nm l (i + 1) with ⟨h1, h2, h3⟩ | ⟨j, hj, h1, h3⟩
      · refine .inl ⟨h1, h2, fun x => ?_⟩
        rw [hs, h3]; simp [vEs]
      · refine .inr ⟨j + 1, by simp; omega, ?_, fun x => ?_⟩
        · rw [h1, show i + 1 + j = i + (j + 1) by omega]
        · rw [hs, h3]; simp [vEs]

theorem find_cEs (nm : Nm) : ∀ (cs : List (Nm × List Int)) (rs : List Nat) (i : Nat), rs.length = cs.length → (findA .string (.str nm) (cEs cs rs) i = some none ∧ lkC cs nm = [] ∧ ∀ k x, setC cs nm k x = cs) ∨
    ∃ j r nm', rs[j]? = some r ∧ cs[j]? = some (nm', lkC cs nm) ∧ findA .string (.str nm) (cEs cs rs) i = some (some (i + j, .sl r 0 (lkC cs nm).length 1)) ∧ ∀ k x, setC cs nm k x = cs.set j (nm', (lkC cs nm).set k x)
  | [], [], i, _ => .inl ⟨rfl, rfl, fun _ _ => rfl⟩
  | [], _ :: _, i, h => by simp at h
  | _ :: _, [], i, h => by simp at h
  | p :: l, r :: rs, i, hlen => by
    by_cases h : nm = p.1
    · refine .inr ⟨0, r, p.1, rfl, ?_, ?_, fun k x => ?_⟩
      · simp [lkC, h]
      · simp [cEs, findA, keyA, lkC, h]
      · simp [setC, lkC, h]
    · have hf : findA .string (.str nm) (cEs (p :: l) (r :: rs)) i = findA .string (.str nm) (cEs l rs) (i + 1) := by
        show findA .string (.str nm) ((.str p.1, .sl r 0 p.2.length 1) :: cEs l rs) i = _
        have : (nm == p.1) = false := by simpa using h
        simp [findA, keyA, this]
      have hl : lkC (p :: l) nm = lkC l nm := by simp [lkC, h]
      have hs : ∀ k x, setC (p :: l) nm k x = p :: setC l nm k x := fun k x => by simp [setC, h]
      rw [hf, hl]
      rcases find_cEs nm l rs (i + 1) (by simpa using hlen) with ⟨h1, h2, h3⟩ | ⟨j, r', nm', hj, hc, h1, h3⟩
      · exact .inl ⟨h1, h2, fun k x => by rw [hs, h3]⟩
      · refine .inr ⟨j + 1, r', nm', by simpa using hj, by simpa using hc, ?_, fun k x => ?_⟩
        · rw [h1, show i + 1 + j = i + (j + 1) by omega]
        · rw [hs, h3]; simp
theorem cEs_set : ∀ (cs : List (Nm × List Int)) (rs : List Nat) (j : Nat) (nm : Nm) (l l' : List Int), cs[j]? = some (nm, l) → l'.length = l.length → cEs (cs.set j (nm, l')) rs = cEs cs rs
  | [], _, _, _, _, _, h, _ => by simp at h
  | p :: cs, [], j, nm, l, l', h, hl => by cases j <;> rfl
  | p :: cs, r :: rs, 0, nm, l, l', h, hl => by
    simp only [List.getElem?_cons_zero, Option.some.injEq] at h
    subst h
    simp [cEs, hl]
  | p :: cs, r :: rs, j + 1, nm, l, l', h, hl => by
    simp only [List.set_cons_succ, cEs]
    rw [cEs_set cs rs j nm l l' (by simpa using h) hl]
end Go.Ab
