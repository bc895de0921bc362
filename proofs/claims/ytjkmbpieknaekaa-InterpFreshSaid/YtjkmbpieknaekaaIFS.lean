/- Parts: FreshZ. -/
import Derived.Test.YtjkmbpieknaekaaIFR
set_option linter.unusedSimpArgs false
set_option linter.unusedVariables false
set_option linter.unusedSectionVars false
set_option linter.defProp false
namespace Go.Proofs.Ytjkmbpieknaekaa
set_option maxRecDepth 20000
set_option linter.unusedSimpArgs false
set_option linter.unusedVariables false
set_option linter.unusedSectionVars false
set_option linter.defProp false
open Go Go.Ab
theorem fresh_valid : Valid pgFresh.pr := ⟨by kernel_rfl, by kernel_rfl, by kernel_rfl, by kernel_rfl, by kernel_rfl⟩
theorem fresh_ok : RunA.ok ⟨pgFresh.pr, [102], [2], 0⟩ where
  v := fresh_valid
  sz := by show pgFresh.pr.sz < 2 ^ 36; rw [show pgFresh.pr.sz = (pgFresh.pr.sz) from rfl]; decide +kernel
  f0 := by decide
  f1 := by decide
  has := by kernel_rfl
  k0 := by show (0 : Int) ≤ lkV (fixOf pgFresh.pr) [102]; decide +kernel
  fn := ⟨pgFresh.f0, by kernel_rfl, rfl⟩
  al := by simp
theorem fresh_run : runG ⟨pgFresh.pr, [102], [2], 0⟩ = ⟨1, 0, [], 1⟩ := by
  rw [runG_eq fresh_ok (n := 60) (r := (1, ⟨0, 0, 0, [([97], [0, 0, 1])], []⟩)) (by kernel_rfl)]; rfl
end Go.Proofs.Ytjkmbpieknaekaa
