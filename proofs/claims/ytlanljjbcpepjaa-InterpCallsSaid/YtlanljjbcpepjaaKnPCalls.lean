/- Calls at given arguments, by the kernel's run of the abstract machine. Made by program (mkkn.py). -/
import Derived.Test.YtlanljjbcpepjaaRows
import Derived.Test.YtlanljjbcpepjaaAbLaw
import Derived.Test.YtlanljjbcpepjaaPls
import Derived.KernelRfl
namespace Go.Proofs.Ytlanljjbcpepjaa.knPCalls
open Go Go.Ab
def l0 : List (FuncId × List AV × AV) := []
theorem k0 (ρ : Nat → Int) : KOk Try.prog ρ l0 := trivial
def a0 : List AV := [(.str [102, 117, 110, 99, 32, 102, 40, 110, 44, 32, 115, 41, 32, 118, 97, 114, 32, 114, 32, 123, 32, 111, 117, 116, 32, 110, 59, 32, 105, 102, 32, 40, 110, 32, 62, 32, 48, 41, 32, 123, 32, 114, 32, 61, 32, 102, 40, 110, 32, 45, 
    32, 49, 44, 32, 115, 41, 59, 32, 114, 32, 61, 32, 114, 32, 43, 32, 115, 59, 32, 125, 32, 114, 101, 116, 117, 114, 110, 32, 114, 59, 32, 125])]
def r0 : AV := (.tup [(.lst [[(.int .i64 1), (.str [102, 117, 110, 99]), (.int .i64 0)], [(.int .i64 1), (.str [102]), (.int .i64 5)], [(.int .i64 3), (.str [40]), (.int .i64 6)], [(.int .i64 1), (.str [110]), (.int .i64 7)], [(.int .i64 3), 
    (.str [44]), (.int .i64 8)], [(.int .i64 1), (.str [115]), (.int .i64 10)], [(.int .i64 3), (.str [41]), (.int .i64 11)], [(.int .i64 1), (.str [118, 97, 114]), (.int .i64 13)], [(.int .i64 1), (.str [114]), (.int .i64 17)], 
    [(.int .i64 3), (.str [123]), (.int .i64 19)], [(.int .i64 1), (.str [111, 117, 116]), (.int .i64 21)], [(.int .i64 1), (.str [110]), (.int .i64 25)], [(.int .i64 3), (.str [59]), (.int .i64 26)], [(.int .i64 1), (.str [105, 102]), 
    (.int .i64 28)], [(.int .i64 3), (.str [40]), (.int .i64 31)], [(.int .i64 1), (.str [110]), (.int .i64 32)], [(.int .i64 3), (.str [62]), (.int .i64 34)], [(.int .i64 2), (.str [48]), (.int .i64 36)], [(.int .i64 3), (.str [41]), 
    (.int .i64 37)], [(.int .i64 3), (.str [123]), (.int .i64 39)], [(.int .i64 1), (.str [114]), (.int .i64 41)], [(.int .i64 3), (.str [61]), (.int .i64 43)], [(.int .i64 1), (.str [102]), (.int .i64 45)], [(.int .i64 3), 
    (.str [40]), (.int .i64 46)], [(.int .i64 1), (.str [110]), (.int .i64 47)], [(.int .i64 3), (.str [45]), (.int .i64 49)], [(.int .i64 2), (.str [49]), (.int .i64 51)], [(.int .i64 3), (.str [44]), (.int .i64 52)], [(.int .i64 1), 
    (.str [115]), (.int .i64 54)], [(.int .i64 3), (.str [41]), (.int .i64 55)], [(.int .i64 3), (.str [59]), (.int .i64 56)], [(.int .i64 1), (.str [114]), (.int .i64 58)], [(.int .i64 3), (.str [61]), (.int .i64 60)], [(.int .i64 1), 
    (.str [114]), (.int .i64 62)], [(.int .i64 3), (.str [43]), (.int .i64 64)], [(.int .i64 1), (.str [115]), (.int .i64 66)], [(.int .i64 3), (.str [59]), (.int .i64 67)], [(.int .i64 3), (.str [125]), (.int .i64 69)], 
    [(.int .i64 1), (.str [114, 101, 116, 117, 114, 110]), (.int .i64 71)], [(.int .i64 1), (.str [114]), (.int .i64 78)], [(.int .i64 3), (.str [59]), (.int .i64 79)], [(.int .i64 3), (.str [125]), (.int .i64 81)]]), 
    (.agg [(.int .i64 0), (.int .i64 0)])])
theorem c0 (ρ : Nat → Int) : Con Try.prog ρ 44 a0 r0 := Con.knownP fit (pls := pls) (k0 ρ) (n := 100000) (m := 100) (k := 100) (by kernel_rfl) (by kernel_rfl)
def l1 : List (FuncId × List AV × AV) := (44, a0, r0) :: l0
theorem k1 (ρ : Nat → Int) : KOk Try.prog ρ l1 := ⟨c0 ρ, k0 ρ⟩
def a1 : List AV := [(.str [102, 117, 110, 99, 32, 102, 40, 110, 44, 32, 115, 41, 32, 118, 97, 114, 32, 114, 32, 123, 32, 111, 117, 116, 32, 110, 59, 32, 105, 102, 32, 40, 110, 32, 62, 32, 48, 41, 32, 123, 32, 114, 32, 61, 32, 102, 40, 110, 32, 45, 
    32, 49, 44, 32, 115, 41, 59, 32, 114, 32, 61, 32, 114, 32, 43, 32, 115, 59, 32, 125, 32, 114, 101, 116, 117, 114, 110, 32, 114, 59, 32, 125])]
def r1 : AV := (.tup [(.agg [.nilS, (.lst [[(.str [102]), (.lst [[(.str [110])], [(.str [115])]]), (.lst [[(.str [114])]]), (.lst [[(.int .i64 5), (.str []), (.str []), (.int .i64 0), (.int .i64 0), (.int .i64 0), (.str []), (.int .i64 0), .nilS, 
    (.int .i64 2), (.int .i64 0), (.str [110]), (.int .i64 0), .nilS, .nilS, .nilS, .nilS], [(.int .i64 3), (.str []), (.str []), (.int .i64 0), (.int .i64 0), (.int .i64 0), (.str []), (.int .i64 0), .nilS, (.int .i64 4), 
    (.int .i64 0), (.str []), (.int .i64 17), (.lst [[(.int .i64 1), (.int .i64 0), (.str []), (.int .i64 0), .nilS], [(.int .i64 2), (.int .i64 0), (.str [110]), (.int .i64 0), .nilS]]), .nilS, (.lst [[(.int .i64 6), (.str [114]), 
    (.str [102]), (.int .i64 0), (.int .i64 0), (.int .i64 0), (.str []), (.int .i64 0), .nilS, (.int .i64 0), (.int .i64 0), (.str []), (.int .i64 0), .nilS, (.lst [[(.int .i64 4), (.int .i64 0), (.str []), (.int .i64 5), 
    (.lst [[(.int .i64 2), (.int .i64 0), (.str [110]), (.int .i64 0), .nilS], [(.int .i64 1), (.int .i64 1), (.str []), (.int .i64 0), .nilS]])], [(.int .i64 2), (.int .i64 0), (.str [115]), (.int .i64 0), .nilS]]), .nilS, .nilS], 
    [(.int .i64 1), (.str [114]), (.str []), (.int .i64 0), (.int .i64 0), (.int .i64 0), (.str []), (.int .i64 0), .nilS, (.int .i64 4), (.int .i64 0), (.str []), (.int .i64 4), (.lst [[(.int .i64 2), (.int .i64 0), (.str [114]), 
    (.int .i64 0), .nilS], [(.int .i64 2), (.int .i64 0), (.str [115]), (.int .i64 0), .nilS]]), .nilS, .nilS, .nilS]]), .nilS]]), (.int .i64 2), (.int .i64 0), (.str [114]), (.int .i64 0), .nilS]])]), (.agg [(.int .i64 0), 
    (.int .i64 0)])])
theorem c1 (ρ : Nat → Int) : Con Try.prog ρ 26 a1 r1 := Con.knownP fit (pls := pls) (k1 ρ) (n := 100000) (m := 100) (k := 100) (by kernel_rfl) (by kernel_rfl)
def l2 : List (FuncId × List AV × AV) := (26, a1, r1) :: l1
theorem k2 (ρ : Nat → Int) : KOk Try.prog ρ l2 := ⟨c1 ρ, k1 ρ⟩
def list : List (FuncId × List AV × AV) := [(26, a1, r1)]
theorem ok (ρ : Nat → Int) : KOk Try.prog ρ list := ⟨c1 ρ, trivial⟩
end Go.Proofs.Ytlanljjbcpepjaa.knPCalls
