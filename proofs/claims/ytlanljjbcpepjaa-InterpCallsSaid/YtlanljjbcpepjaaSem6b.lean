/- The interpreter on plain data: what steps keep. -/
import Derived.Test.YtlanljjbcpepjaaSem6
namespace Go.Ab
set_option linter.unusedVariables false
open Go

theorem trapM_keep (c : Int) (s : MS) : (trapM c s).out = s.out ∧ (trapM c s).cells = s.cells ∧ (trapM c s).fuel = s.fuel := by unfold trapM; split <;> simp
theorem tickM_out (s : MS) : (tickM s).out = s.out := by unfold tickM; split <;> (try split) <;> rfl
theorem storeM_out (nm : Nm) (a v : Int) (s : MS) : (storeM nm a v s).out = s.out := by
  unfold storeM
  simp only []
  split <;> split <;> simp [trapM_keep]

theorem exprM_keep : ∀ (n : Nat) (x : Ex) (vs : List (Nm × Int)) (s : MS) (r : Int × MS), exprM n x vs s = some r → r.2.out = s.out ∧ r.2.cells = s.cells ∧ r.2.fuel = s.fuel
  | 0, x, vs, s, r, h => by simp [exprM] at h
  | n + 1, x, vs, s, r, h => by
    have IH := exprM_keep n
    unfold exprM at h
    split at h
    · simp only [Option.some.injEq] at h; subst h; exact ⟨rfl, rfl, rfl⟩
    split at h
    · simp only [Option.some.injEq] at h; subst h; exact ⟨rfl, rfl, rfl⟩
    split at h
    · simp only [Option.some.injEq] at h; subst h; exact ⟨rfl, rfl, rfl⟩
    split at h
    · simp only [Option.bind_eq_some_iff] at h
      obtain ⟨k, hk, r1, he, h⟩ := h
      have h1 := IH _ _ _ _ he
      split at h <;> simp only [Option.some.injEq] at h <;> subst h
      · have := trapM_keep 2 r1.2; simp only []; rw [this.1, this.2.1, this.2.2]; exact h1
      · exact h1
    split at h
    · simp only [Option.bind_eq_some_iff] at h
      obtain ⟨k, hk, r1, he, h⟩ := h
      have h1 := IH _ _ _ _ he
      split at h <;> simp only [Option.bind_eq_some_iff] at h <;> obtain ⟨k2, hk2, he2⟩ := h <;> have h2 := IH _ _ _ _ he2 <;> exact ⟨h2.1.trans h1.1, h2.2.1.trans h1.2.1, h2.2.2.trans h1.2.2⟩
    · simp only [Option.bind_eq_some_iff] at h
      obtain ⟨k, hk, r1, he, h⟩ := h
      have h1 := IH _ _ _ _ he
      split at h
      · simp only [Option.some.injEq] at h; subst h; exact h1
      · simp only [Option.bind_eq_some_iff] at h
        obtain ⟨k2, hk2, r2, he2, h⟩ := h
        have h2 := IH _ _ _ _ he2
        split at h <;> simp only [Option.some.injEq] at h <;> subst h
        · have := trapM_keep 1 r2.2; simp only []; rw [this.1, this.2.1, this.2.2]; exact ⟨h2.1.trans h1.1, h2.2.1.trans h1.2.1, h2.2.2.trans h1.2.2⟩
        · exact ⟨h2.1.trans h1.1, h2.2.1.trans h1.2.1, h2.2.2.trans h1.2.2⟩

theorem argsM_keep {n : Nat} : ∀ (l : List Ex) (vs : List (Nm × Int)) (s : MS) (r : List Int × MS), argsM n l vs s = some r → r.2.out = s.out ∧ r.2.cells = s.cells ∧ r.2.fuel = s.fuel ∧ r.1.length = l.length
  | [], vs, s, r, h => by simp only [argsM, Option.some.injEq] at h; subst h; exact ⟨rfl, rfl, rfl, rfl⟩
  | x :: l, vs, s, r, h => by
    simp only [argsM, Option.bind_eq_some_iff, Option.some.injEq] at h
    obtain ⟨r1, he, r2, ha, rfl⟩ := h
    have h1 := exprM_keep _ _ _ _ _ he
    have h2 := argsM_keep l vs _ _ ha
    exact ⟨h2.1.trans h1.1, h2.2.1.trans h1.2.1, h2.2.2.1.trans h1.2.2, by simp [h2.2.2.2]⟩

theorem outM_len (v : Int) (s : MS) : s.out.length ≤ (outM v s).out.length := by unfold outM; split <;> simp

theorem stepM_out (p : Pr) (fi : List (Nm × Int)) : ∀ n : Nat,
    (∀ x vs s r, stmtM p fi n x vs s = some r → s.out.length ≤ r.2.out.length) ∧ (∀ l vs s r, stmtsM p fi n l vs s = some r → s.out.length ≤ r.2.out.length) ∧
    (∀ x vs s r, whileM p fi n x vs s = some r → s.out.length ≤ r.2.out.length) ∧ (∀ k as s r, callM p fi n k as s = some r → s.out.length ≤ r.2.out.length)
  | 0 => ⟨fun x vs s r h => by simp [stmtM] at h, fun l vs s r h => by simp [stmtsM] at h, fun x vs s r h => by simp [whileM] at h, fun k as s r h => by simp [callM] at h⟩
  | n + 1 => by
    obtain ⟨I1, I2, I3, I4⟩ := stepM_out p fi n
    refine ⟨fun x vs s r h => ?_, fun l vs s r h => ?_, fun x vs s r h => ?_, fun k as s r h => ?_⟩
    · unfold stmtM at h
      split at h
      · simp only [Option.bind_eq_some_iff, Option.some.injEq] at h
        obtain ⟨r1, he, rfl⟩ := h
        rw [(exprM_keep _ _ _ _ _ he).1]; exact Nat.le_refl _
      split at h
      · simp only [Option.bind_eq_some_iff, Option.some.injEq] at h
        obtain ⟨r1, he, r2, he2, rfl⟩ := h
        simp only [storeM_out]
        rw [(exprM_keep _ _ _ _ _ he2).1, (exprM_keep _ _ _ _ _ he).1]; exact Nat.le_refl _
      split at h
      · simp only [Option.bind_eq_some_iff] at h
        obtain ⟨r1, he, h⟩ := h
        rw [← (exprM_keep _ _ _ _ _ he).1]
        split at h
        · exact I2 _ _ _ _ h
        · exact I2 _ _ _ _ h
      split at h
      · exact I3 _ _ _ _ h
      split at h
      · simp only [Option.bind_eq_some_iff, Option.some.injEq] at h
        obtain ⟨r1, he, rfl⟩ := h
        rw [← (exprM_keep _ _ _ _ _ he).1]; exact outM_len _ _
      split at h
      · simp only [Option.bind_eq_some_iff] at h
        obtain ⟨r1, he, h⟩ := h
        rw [← (argsM_keep _ _ _ _ he).1, ← tickM_out r1.2]
        split at h
        · simp only [Option.bind_eq_some_iff, Option.some.injEq] at h
          obtain ⟨r2, hc, rfl⟩ := h
          exact I4 _ _ _ _ hc
        · simp only [Option.some.injEq] at h; subst h; exact Nat.le_refl _
      split at h
      · simp only [Option.some.injEq] at h; subst h
        rw [(trapM_keep _ _).1]; exact Nat.le_refl _
      · simp only [Option.some.injEq] at h; subst h; exact Nat.le_refl _
    · unfold stmtsM at h
      split at h
      · simp only [Option.some.injEq] at h; subst h; exact Nat.le_refl _
      · split at h
        · simp only [Option.some.injEq] at h; subst h; exact Nat.le_refl _
        · simp only [Option.bind_eq_some_iff] at h
          obtain ⟨r1, he, h⟩ := h
          exact Nat.le_trans (I1 _ _ _ _ he) (I2 _ _ _ _ h)
    · unfold whileM at h
      simp only [Option.bind_eq_some_iff] at h
      obtain ⟨r1, he, h⟩ := h
      rw [← (exprM_keep _ _ _ _ _ he).1]
      split at h
      · rw [← tickM_out r1.2]
        split at h
        · simp only [Option.bind_eq_some_iff] at h
          obtain ⟨r2, hc, h⟩ := h
          exact Nat.le_trans (I2 _ _ _ _ hc) (I3 _ _ _ _ h)
        · exact I3 _ _ _ _ h
      · simp only [Option.some.injEq] at h; subst h; exact Nat.le_refl _
    · unfold callM at h
      split at h
      · simp at h
      · simp only [Option.bind_eq_some_iff] at h
        obtain ⟨f, hf, vs, hv, r1, hs, he⟩ := h
        rw [(exprM_keep _ _ _ _ _ he).1]
        exact I2 _ _ _ _ hs
end Go.Ab
