/- What the program of InterpCalls does, on plain data. -/
import Derived.Test.YtlanljjbcpepjaaRep6c
import Derived.Test.YtlanljjbcpepjaaPgCalls
import Derived.IntWalk
import Derived.KernelRfl
namespace Go.Proofs.Ytlanljjbcpepjaa
set_option linter.unusedVariables false
set_option linter.unusedSimpArgs false
open Go Go.Ab

def valI (s : Int) : Nat → Int
  | 0 => 0
  | k + 1 => w64 (valI s k + s)
def downL (k : Int) : Nat → List Int
  | 0 => []
  | n + 1 => k :: downL (k - 1) n
abbrev pC : Pr := pgCalls.pr
def fiC : List (Nm × Int) := fnIx pC.funcs 0 []

set_option maxRecDepth 10000 in
theorem call0 (m : Nat) (s : Int) (st : MS) (h0 : st.fin = 0) : callM pC fiC (m + 20) 0 [0, s] st = some (0, { st with out := st.out ++ [0] }) := by
  obtain ⟨fu, fin, code, cells, out⟩ := st
  simp only [] at h0
  subst h0
  kernel_rfl

abbrev thnC : List St := (pgCalls.f0.body.getD 1 (.mk 0 [] [] 0 (.mk 0 0 [] 0 []) (.mk 0 0 [] 0 []) [] [] [])).thn
abbrev vC (k s : Int) : List (Nm × Int) := [([110], k), ([115], s)]
abbrev condC : Ex := (pgCalls.f0.body.getD 1 (.mk 0 [] [] 0 (.mk 0 0 [] 0 []) (.mk 0 0 [] 0 []) [] [] [])).value
set_option maxRecDepth 10000 in
theorem callR (m : Nat) (k s fu code : Int) (cells : List (Nm × List Int)) (out : List Int) : callM pC fiC (m + 26) 0 [k, s] ⟨fu, 0, code, cells, out⟩ =
    (((exprM (m + 22) condC (vC k s) ⟨fu, 0, code, cells, out ++ [k]⟩).bind fun r => if r.1 ≠ 0 then stmtsM pC fiC (m + 22) thnC (vC k s) r.2 else stmtsM pC fiC (m + 22) [] (vC k s) r.2).bind fun r => stmtsM pC fiC (m + 23) [] r.1 r.2).bind fun r => exprM (m + 25) pgCalls.f0.value r.1 r.2 := by
  kernel_rfl
theorem condR (m : Nat) (k s fu code : Int) (cells : List (Nm × List Int)) (out : List Int) : exprM (m + 22) condC (vC k s) ⟨fu, 0, code, cells, out⟩ = some (truI (decide (0 < k)), ⟨fu, 0, code, cells, out⟩) := by
  have h : exprM (m + 22) condC (vC k s) ⟨fu, 0, code, cells, out⟩ = if k = 0 ∧ ((17 : Int) = 7 ∨ (17 : Int) = 8) then some (0, trapM 1 ⟨fu, 0, code, cells, out⟩) else some (binI 17 0 k, ⟨fu, 0, code, cells, out⟩) := by kernel_rfl
  rw [h, if_neg (by omega)]
  rfl

abbrev asgC : St := thnC.getD 1 (.mk 0 [] [] 0 (.mk 0 0 [] 0 []) (.mk 0 0 [] 0 []) [] [] [])
theorem thnR (m : Nat) (k s fu code : Int) (cells : List (Nm × List Int)) (out : List Int) : stmtsM pC fiC (m + 22) thnC (vC k s) ⟨fu, 0, code, cells, out⟩ =
    (if (tickM ⟨fu, 0, code, cells, out⟩).fin = 0 then (callM pC fiC (m + 20) 0 [w64 (k - 1), s] (tickM ⟨fu, 0, code, cells, out⟩)).bind fun r2 => some (setV (vC k s) [114] r2.1, r2.2) else some (vC k s, tickM ⟨fu, 0, code, cells, out⟩)).bind fun r => stmtsM pC fiC (m + 21) [asgC] r.1 r.2 := by kernel_rfl

theorem asgR (m : Nat) (k s v fu code : Int) (cells : List (Nm × List Int)) (out : List Int) : stmtsM pC fiC (m + 21) [asgC] (setV (vC k s) [114] v) ⟨fu, 0, code, cells, out⟩ = some (setV (vC k s) [114] (w64 (v + s)), ⟨fu, 0, code, cells, out⟩) := by
  have h : stmtsM pC fiC (m + 21) [asgC] (setV (vC k s) [114] v) ⟨fu, 0, code, cells, out⟩ = ((if s = 0 ∧ ((4 : Int) = 7 ∨ (4 : Int) = 8) then some (0, trapM 1 ⟨fu, 0, code, cells, out⟩) else some (binI 4 v s, ⟨fu, 0, code, cells, out⟩)).bind fun r => some (setV (setV (vC k s) [114] v) [114] r.1, r.2)).bind fun r => stmtsM pC fiC (m + 20) [] r.1 r.2 := by kernel_rfl
  rw [h, if_neg (by omega)]
  rfl
theorem valR (m : Nat) (k s v fu code : Int) (cells : List (Nm × List Int)) (out : List Int) : exprM (m + 25) pgCalls.f0.value (setV (vC k s) [114] v) ⟨fu, 0, code, cells, out⟩ = some (v, ⟨fu, 0, code, cells, out⟩) := by kernel_rfl
theorem stopR (m : Nat) (x : Ex) (vs : List (Nm × Int)) (fu code : Int) (cells : List (Nm × List Int)) (out : List Int) : exprM (m + 25) x vs ⟨fu, 3, code, cells, out⟩ = some (0, ⟨fu, 3, code, cells, out⟩) := by
  unfold exprM; rfl
theorem stopS (m : Nat) (l : List St) (vs : List (Nm × Int)) (fu code : Int) (cells : List (Nm × List Int)) (out : List Int) : stmtsM pC fiC (m + 1) l vs ⟨fu, 3, code, cells, out⟩ = some (vs, ⟨fu, 3, code, cells, out⟩) := by
  cases l <;> rfl
theorem nilS (m : Nat) (vs : List (Nm × Int)) (st : MS) : stmtsM pC fiC (m + 1) [] vs st = some (vs, st) := rfl

theorem down_cons (k : Nat) (n : Nat) : downL ((k + 1 : Nat) : Int) (n + 1) = ((k + 1 : Nat) : Int) :: downL (k : Int) n := by
  rw [downL, show ((k + 1 : Nat) : Int) - 1 = (k : Int) by omega]
theorem calls (s : Int) : ∀ (k fu : Nat) (code : Int) (cells : List (Nm × List Int)) (out : List Int), k < 2 ^ 20 → fu < 2 ^ 20 → callM pC fiC (6 * k + 20) 0 [(k : Int), s] ⟨(fu : Int), 0, code, cells, out⟩ =
    some (if k ≤ fu then (valI s k, ⟨((fu - k : Nat) : Int), 0, code, cells, out ++ downL k (k + 1)⟩) else (0, ⟨0, 3, code, cells, out ++ downL k (fu + 1)⟩))
  | 0, fu, code, cells, out, _, _ => by
    rw [if_pos (Nat.zero_le _)]
    exact call0 0 s ⟨fu, 0, code, cells, out⟩ rfl
  | k + 1, fu, code, cells, out, hk, hf => by
    rw [show 6 * (k + 1) + 20 = 6 * k + 26 by omega, callR, condR]
    have ht : truI (decide (0 < ((k + 1 : Nat) : Int))) = 1 := by rw [decide_eq_true (by omega)]; rfl
    have hw : w64 (((k + 1 : Nat) : Int) - 1) = (k : Int) := by rw [show ((k + 1 : Nat) : Int) - 1 = (k : Int) by omega]; exact IntWalk.i64_in _ (by omega)
    rw [Option.bind_some, ht]
    simp only [ne_eq, Int.one_ne_zero, not_false_eq_true, if_true]
    rw [thnR, hw]
    cases fu with
    | zero =>
      have htk : tickM ⟨((0 : Nat) : Int), 0, code, cells, out ++ [((k + 1 : Nat) : Int)]⟩ = ⟨0, 3, code, cells, out ++ [((k + 1 : Nat) : Int)]⟩ := rfl
      rw [htk]
      simp only [Int.reduceEq, if_false, Option.bind_some]
      rw [stopS, Option.bind_some, stopS, Option.bind_some, stopR, if_neg (by omega)]
      rfl
    | succ fu =>
      have htk : tickM ⟨((fu + 1 : Nat) : Int), 0, code, cells, out ++ [((k + 1 : Nat) : Int)]⟩ = ⟨(fu : Int), 0, code, cells, out ++ [((k + 1 : Nat) : Int)]⟩ := by
        unfold tickM
        rw [if_neg (by simp), if_neg (by simp only []; omega)]
        congr 1
        show w64 _ = _
        rw [show ((fu + 1 : Nat) : Int) - 1 = (fu : Int) by omega]
        exact IntWalk.i64_in _ (by omega)
      rw [htk]
      simp only [if_true]
      rw [calls s k fu code cells _ (by omega) (by omega)]
      by_cases hc : k ≤ fu
      · rw [if_pos hc, if_pos (by omega)]
        simp only [Option.bind_some]
        rw [asgR, Option.bind_some, nilS, Option.bind_some]
        simp only []
        rw [valR, show fu + 1 - (k + 1) = fu - k by omega, down_cons, List.append_assoc]
        rfl
      · rw [if_neg hc, if_neg (by omega)]
        simp only [Option.bind_some]
        rw [stopS, Option.bind_some, stopS, Option.bind_some, stopR, down_cons, List.append_assoc]
        rfl

theorem w64_emod (n : Int) : (w64 n) % (2 ^ 64) = n % (2 ^ 64) := by
  unfold w64 IntKind.wrap
  simp only [IntKind.signed, IntKind.bits, Bool.true_and]
  split <;> omega
theorem w64_congr {a b : Int} (h : a % (2 ^ 64) = b % (2 ^ 64)) : w64 a = w64 b := by
  unfold w64
  rw [IntKind.wrap_i64, IntKind.wrap_i64]
  omega
theorem w64_add (a b : Int) : w64 (w64 a + b) = w64 (a + b) := w64_congr (by rw [Int.add_emod, w64_emod, ← Int.add_emod])
theorem valI_eq (s : Int) : ∀ k : Nat, valI s k = w64 ((k : Int) * s)
  | 0 => by simp [valI]; rfl
  | k + 1 => by
    rw [valI, valI_eq s k, w64_add]
    congr 1
    rw [show ((k + 1 : Nat) : Int) = (k : Int) + 1 by omega, Int.add_mul, Int.one_mul]
theorem down_len : ∀ (n : Nat) (k : Int), (downL k n).length = n
  | 0, _ => rfl
  | n + 1, k => by simp [downL, down_len n]
theorem down_get : ∀ (n : Nat) (k : Int) (i : Nat), i < n → (downL k n).getD i 0 = k - (i : Int)
  | 0, _, _, h => by omega
  | n + 1, k, 0, _ => by simp [downL]
  | n + 1, k, i + 1, h => by
    have := down_get n (k - 1) i (by omega)
    simp only [downL, List.getD_cons_succ]
    rw [this]; omega
end Go.Proofs.Ytlanljjbcpepjaa
