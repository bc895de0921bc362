/- Environments in canonical form: the live slots by name, all else unknown. -/
import Derived.Test.YtlanljjbcpepjaaAbFuel
namespace Go.Ab
noncomputable section
set_option linter.unusedSimpArgs false
set_option linter.unusedVariables false
set_option linter.unusedSectionVars false
open Go

def env : Nat → (Nat → AV) → Env
  | 0, _ => .e
  | d + 1, s => .n (some (s 0)) (env d (fun j => s (2 * j + 1))) (env d (fun j => s (2 * j + 2)))

/-- The slots of L, over d. -/
def ov (L : List (Nat × AV)) (d : Nat → AV) : Nat → AV :=
  List.rec (motive := fun _ => Nat → AV) d (fun p _ go k => bsel (Nat.beq p.1 k) p.2 (go k)) L

/-- A trie with all slots of depth d. -/
def shapeB : Nat → Env → Bool
  | 0, .e => true
  | d + 1, .n (some _) l r => shapeB d l && shapeB d r
  | _, _ => false

theorem T.get_left (v : Option AV) (l r : Env) (j : Nat) : T.get (.n v l r) (2 * j + 1) = T.get l j := by
  rw [T.get_n]
  have h1 : Nat.beq (2 * j + 1) 0 = false := rfl
  have h2 : Nat.beq (Nat.mod (2 * j + 1) 2) 1 = true := by
    have : Nat.mod (2 * j + 1) 2 = 1 := by show (2 * j + 1) % 2 = 1; omega
    rw [this]; rfl
  have h3 : Nat.div (2 * j + 1) 2 = j := by show (2 * j + 1) / 2 = j; omega
  rw [h1, h2, h3]; rfl

theorem T.get_right (v : Option AV) (l r : Env) (j : Nat) : T.get (.n v l r) (2 * j + 2) = T.get r j := by
  rw [T.get_n]
  have h1 : Nat.beq (2 * j + 2) 0 = false := rfl
  have h2 : Nat.beq (Nat.mod (2 * j + 2) 2) 1 = false := by
    have : Nat.mod (2 * j + 2) 2 = 0 := by show (2 * j + 2) % 2 = 0; omega
    rw [this]; rfl
  have h3 : Nat.sub (Nat.div (2 * j + 2) 2) 1 = j := by show (2 * j + 2) / 2 - 1 = j; omega
  rw [h1, h2, h3]; rfl

theorem env_eq : ∀ (d : Nat) (E : Env), shapeB d E = true → E = env d (fun k => E.at k)
  | 0, .e, _ => rfl
  | 0, .n v l r, h => by cases v <;> simp [shapeB] at h
  | d + 1, .e, h => by simp [shapeB] at h
  | d + 1, .n none l r, h => by simp [shapeB] at h
  | d + 1, .n (some v) l r, h => by
    simp only [shapeB, Bool.and_eq_true] at h
    simp only [env]
    have h1 := env_eq d l h.1
    have h2 := env_eq d r h.2
    have e1 : (fun j => Env.at (.n (some v) l r) (2 * j + 1)) = fun j => Env.at l j := funext fun j => by unfold Env.at; rw [T.get_left]
    have e2 : (fun j => Env.at (.n (some v) l r) (2 * j + 2)) = fun j => Env.at r j := funext fun j => by unfold Env.at; rw [T.get_right]
    rw [e1, e2, ← h1, ← h2]
    rfl

theorem ov_nil (d : Nat → AV) : ov [] d = d := rfl
theorem ov_cons (p : Nat × AV) (L : List (Nat × AV)) (d : Nat → AV) (k : Nat) : ov (p :: L) d k = bsel (Nat.beq p.1 k) p.2 (ov L d k) := rfl

/-- Facts on slots, as an overlay. -/
theorem ov_eq {d : Nat → AV} : ∀ {L : List (Nat × AV)}, (∀ p ∈ L, d p.1 = p.2) → ov L d = d
  | [], _ => rfl
  | p :: L, h => funext fun k => by
    rw [ov_cons, ov_eq (fun q hq => h q (List.mem_cons_of_mem _ hq))]
    cases hb : Nat.beq p.1 k with
    | false => rfl
    | true =>
      rw [← Nat.eq_of_beq_eq_true hb, h p List.mem_cons_self]
      rfl

/-- What holds of an environment behind a piece: its shape, and its live slots. -/
theorem env_ov {n : Nat} {E : Env} {L : List (Nat × AV)} (hs : shapeB n E = true) (hL : ∀ p ∈ L, E.at p.1 = p.2) : ∃ d, E = env n (ov L d) := by
  refine ⟨fun k => E.at k, ?_⟩
  rw [ov_eq (d := fun k => E.at k) hL]
  exact env_eq n E hs
end
end Go.Ab
