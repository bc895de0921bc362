/- Parts: KnSTraps. -/
import Derived.KernelRfl
import Derived.Test.YtjkmbpieknaekaaIC3A
import Derived.Test.YtjkmbpieknaekaaRows
set_option linter.unusedSimpArgs false
set_option linter.unusedVariables false
set_option linter.unusedSectionVars false
set_option linter.defProp false
namespace Go.Proofs.Ytjkmbpieknaekaa.knSTraps
set_option maxRecDepth 20000
open Go Go.Ab
def l0 : List (FuncId × List AV × AV) := []
theorem k0 (ρ : Nat → Int) : KOk Try.prog ρ l0 := trivial
def a0 : List AV := [(.str [102, 117, 110, 99, 32, 102, 40, 110, 44, 32, 109, 41, 32, 118, 97, 114, 32, 105, 32, 123, 32, 119, 104, 105, 108, 101, 32, 40, 105, 32, 60, 32, 110, 41, 32, 123, 32, 105, 102, 32, 40, 105, 32, 61, 61, 32, 109, 41, 32, 123, 
    32, 116, 114, 97, 112, 32, 48, 59, 32, 125, 32, 111, 117, 116, 32, 105, 59, 32, 105, 32, 61, 32, 105, 32, 43, 32, 49, 59, 32, 125, 32, 114, 101, 116, 117, 114, 110, 32, 53, 59, 32, 125])]
def r0 : AV := (.tup [(.lst [[(.int .i64 1), (.str [102, 117, 110, 99]), (.int .i64 0)], [(.int .i64 1), (.str [102]), (.int .i64 5)], [(.int .i64 3), (.str [40]), (.int .i64 6)], [(.int .i64 1), (.str [110]), (.int .i64 7)], [(.int .i64 3), 
    (.str [44]), (.int .i64 8)], [(.int .i64 1), (.str [109]), (.int .i64 10)], [(.int .i64 3), (.str [41]), (.int .i64 11)], [(.int .i64 1), (.str [118, 97, 114]), (.int .i64 13)], [(.int .i64 1), (.str [105]), (.int .i64 17)], 
    [(.int .i64 3), (.str [123]), (.int .i64 19)], [(.int .i64 1), (.str [119, 104, 105, 108, 101]), (.int .i64 21)], [(.int .i64 3), (.str [40]), (.int .i64 27)], [(.int .i64 1), (.str [105]), (.int .i64 28)], [(.int .i64 3), 
    (.str [60]), (.int .i64 30)], [(.int .i64 1), (.str [110]), (.int .i64 32)], [(.int .i64 3), (.str [41]), (.int .i64 33)], [(.int .i64 3), (.str [123]), (.int .i64 35)], [(.int .i64 1), (.str [105, 102]), (.int .i64 37)], 
    [(.int .i64 3), (.str [40]), (.int .i64 40)], [(.int .i64 1), (.str [105]), (.int .i64 41)], [(.int .i64 3), (.str [61, 61]), (.int .i64 43)], [(.int .i64 1), (.str [109]), (.int .i64 46)], [(.int .i64 3), (.str [41]), 
    (.int .i64 47)], [(.int .i64 3), (.str [123]), (.int .i64 49)], [(.int .i64 1), (.str [116, 114, 97, 112]), (.int .i64 51)], [(.int .i64 2), (.str [48]), (.int .i64 56)], [(.int .i64 3), (.str [59]), (.int .i64 57)], 
    [(.int .i64 3), (.str [125]), (.int .i64 59)], [(.int .i64 1), (.str [111, 117, 116]), (.int .i64 61)], [(.int .i64 1), (.str [105]), (.int .i64 65)], [(.int .i64 3), (.str [59]), (.int .i64 66)], [(.int .i64 1), (.str [105]), 
    (.int .i64 68)], [(.int .i64 3), (.str [61]), (.int .i64 70)], [(.int .i64 1), (.str [105]), (.int .i64 72)], [(.int .i64 3), (.str [43]), (.int .i64 74)], [(.int .i64 2), (.str [49]), (.int .i64 76)], [(.int .i64 3), (.str [59]), 
    (.int .i64 77)], [(.int .i64 3), (.str [125]), (.int .i64 79)], [(.int .i64 1), (.str [114, 101, 116, 117, 114, 110]), (.int .i64 81)], [(.int .i64 2), (.str [53]), (.int .i64 88)], [(.int .i64 3), (.str [59]), (.int .i64 89)], 
    [(.int .i64 3), (.str [125]), (.int .i64 91)]]), (.agg [(.int .i64 0), (.int .i64 0)])])
theorem c0 (ρ : Nat → Int) : Con Try.prog ρ 42 a0 r0 := Con.knownP fit (pls := pls) (k0 ρ) (n := 100000) (m := 100) (k := 100) (by kernel_rfl) (by kernel_rfl)
def l1 : List (FuncId × List AV × AV) := (42, a0, r0) :: l0
theorem k1 (ρ : Nat → Int) : KOk Try.prog ρ l1 := ⟨c0 ρ, k0 ρ⟩
def list : List (FuncId × List AV × AV) := [(42, a0, r0)]
theorem ok (ρ : Nat → Int) : KOk Try.prog ρ list := ⟨c0 ρ, trivial⟩
end Go.Proofs.Ytjkmbpieknaekaa.knSTraps
