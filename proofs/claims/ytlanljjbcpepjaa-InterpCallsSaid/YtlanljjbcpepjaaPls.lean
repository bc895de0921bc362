/- The orders of the regions that draw them. Made by program. -/
import Derived.Test.YtlanljjbcpepjaaRows
import Derived.Test.YtlanljjbcpepjaaAbLaw
import Derived.KernelRfl
namespace Go.Proofs.Ytlanljjbcpepjaa
open Go Go.Ab
theorem fit : Fit Try.prog := Fit.of (by kernel_rfl)
def pls : List (Nat × Nat × Plan) := [(4, 26, (.split 9 12 .text (.perm [0, 1, 2, 3, 4, 5, 6, 7, 8, 10, 11, 12, 9]))),
  (4, 29, (.split 12 15 .text (.perm [0, 1, 2, 3, 4, 5, 6, 7, 8, 9, 10, 11, 13, 14, 15, 12]))),
  (4, 38, (.split 11 14 .text (.perm [0, 1, 2, 3, 4, 5, 6, 7, 8, 9, 10, 12, 13, 14, 11]))),
  (4, 41, (.split 9 12 .text (.perm [0, 1, 2, 3, 4, 5, 6, 7, 8, 10, 11, 12, 9]))),
  (4, 44, (.split 9 12 .text (.perm [0, 1, 2, 3, 4, 5, 6, 7, 8, 10, 11, 12, 9]))),
  (7, 5, (.perm [0, 1, 2, 3, 7, 4, 5, 6, 8])),
  (10, 3, (.perm [0, 1, 3, 4, 6, 7, 2, 5, 8, 9])),
  (12, 3, (.perm [0, 1, 2, 5, 3, 4, 6])),
  (12, 5, (.perm [0, 1, 2, 5, 3, 4, 6])),
  (15, 36, (.split 10 13 .text (.perm [0, 1, 2, 3, 4, 5, 6, 7, 8, 9, 11, 12, 13, 10]))),
  (15, 41, (.split 11 14 .text (.perm [0, 1, 2, 3, 4, 5, 6, 7, 8, 9, 10, 12, 13, 14, 11]))),
  (17, 14, (.perm [0, 1, 2, 4, 5, 7, 9, 3, 6, 8, 10]))]
end Go.Proofs.Ytlanljjbcpepjaa
