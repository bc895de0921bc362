/- The configuration that all contracts share. -/
import Derived.Test.YtlanljjbcpepjaaRules
import Derived.Test.YtlanljjbcpepjaaAbWt
import Derived.Test.YtlanljjbcpepjaaAbSym
namespace Go.Proofs.Ytlanljjbcpepjaa
set_option linter.unusedVariables false
open Go Go.Ab

/-- The functions that may be known at some arguments. -/
def kn (f : FuncId) : Bool := f == 26 || f == 25 || f == 18 || f == 16
structure Std (cfg : Cfg) : Prop where
  plain : ∀ f, kn f = false → Plain cfg f
  keep : ∀ f, cfg.keep f = false
  plan : cfg.plan = planK pls
theorem std_of {l : List (FuncId × List AV × AV)} (h : (l.all fun p => kn p.1) = true) : Std (cfgF [] pls l) where
  plain f hf := by
    have hne : ∀ p ∈ l, Nat.beq p.1 f = false := fun p hp => by
      have := List.all_eq_true.1 h p hp
      cases hb : Nat.beq p.1 f with
      | false => rfl
      | true => rw [Nat.eq_of_beq_eq_true hb, hf] at this; simp at this
    refine ⟨fun args => ?_, ?_, rfl⟩
    · show lookK l f args = none
      clear h
      induction l with
      | nil => rfl
      | cons p l ih =>
        simp only [lookK, hne p List.mem_cons_self]
        exact ih fun q hq => hne q (List.mem_cons_of_mem _ hq)
    · show (l.any fun p => Nat.beq p.1 f) = false
      rw [List.any_eq_false]
      intro p hp
      simp [hne p hp]
  keep _ := rfl
  plan := rfl
end Go.Proofs.Ytlanljjbcpepjaa
