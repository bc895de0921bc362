/- Calls at given arguments, by the kernel's run of the abstract machine. Made by program (mkkn.py). -/
import Derived.Test.YtlanljjbcpepjaaRows
import Derived.Test.YtlanljjbcpepjaaAbLaw
import Derived.Test.YtlanljjbcpepjaaPls
import Derived.KernelRfl
namespace Go.Proofs.Ytlanljjbcpepjaa.knLaz
open Go Go.Ab
def l0 : List (FuncId × List AV × AV) := []
theorem k0 (ρ : Nat → Int) : KOk Try.prog ρ l0 := trivial
def a0 : List AV := [(.str [97, 114, 114, 97, 121, 32, 97, 32, 49, 59, 32, 102, 117, 110, 99, 32, 102, 40, 99, 44, 32, 120, 41, 32, 123, 32, 114, 101, 116, 117, 114, 110, 32, 99, 32, 63, 32, 120, 32, 58, 32, 120, 32, 47, 32, 48, 59, 32, 125, 32, 102, 
    117, 110, 99, 32, 103, 40, 99, 44, 32, 120, 41, 32, 123, 32, 114, 101, 116, 117, 114, 110, 32, 99, 32, 63, 32, 97, 91, 55, 93, 32, 58, 32, 120, 59, 32, 125, 32, 102, 117, 110, 99, 32, 104, 40, 99, 44, 32, 120, 41, 32, 123, 32, 114, 
    101, 116, 117, 114, 110, 32, 97, 91, 53, 93, 32, 43, 32, 120, 32, 47, 32, 48, 59, 32, 125, 32, 102, 117, 110, 99, 32, 107, 40, 99, 44, 32, 120, 41, 32, 123, 32, 114, 101, 116, 117, 114, 110, 32, 120, 32, 47, 32, 48, 32, 43, 32, 97, 
    91, 53, 93, 59, 32, 125])]
def r0 : AV := (.tup [(.lst [[(.int .i64 1), (.str [97, 114, 114, 97, 121]), (.int .i64 0)], [(.int .i64 1), (.str [97]), (.int .i64 6)], [(.int .i64 2), (.str [49]), (.int .i64 8)], [(.int .i64 3), (.str [59]), (.int .i64 9)], [(.int .i64 1), 
    (.str [102, 117, 110, 99]), (.int .i64 11)], [(.int .i64 1), (.str [102]), (.int .i64 16)], [(.int .i64 3), (.str [40]), (.int .i64 17)], [(.int .i64 1), (.str [99]), (.int .i64 18)], [(.int .i64 3), (.str [44]), (.int .i64 19)], 
    [(.int .i64 1), (.str [120]), (.int .i64 21)], [(.int .i64 3), (.str [41]), (.int .i64 22)], [(.int .i64 3), (.str [123]), (.int .i64 24)], [(.int .i64 1), (.str [114, 101, 116, 117, 114, 110]), (.int .i64 26)], [(.int .i64 1), 
    (.str [99]), (.int .i64 33)], [(.int .i64 3), (.str [63]), (.int .i64 35)], [(.int .i64 1), (.str [120]), (.int .i64 37)], [(.int .i64 3), (.str [58]), (.int .i64 39)], [(.int .i64 1), (.str [120]), (.int .i64 41)], [(.int .i64 3), 
    (.str [47]), (.int .i64 43)], [(.int .i64 2), (.str [48]), (.int .i64 45)], [(.int .i64 3), (.str [59]), (.int .i64 46)], [(.int .i64 3), (.str [125]), (.int .i64 48)], [(.int .i64 1), (.str [102, 117, 110, 99]), (.int .i64 50)], 
    [(.int .i64 1), (.str [103]), (.int .i64 55)], [(.int .i64 3), (.str [40]), (.int .i64 56)], [(.int .i64 1), (.str [99]), (.int .i64 57)], [(.int .i64 3), (.str [44]), (.int .i64 58)], [(.int .i64 1), (.str [120]), (.int .i64 60)], 
    [(.int .i64 3), (.str [41]), (.int .i64 61)], [(.int .i64 3), (.str [123]), (.int .i64 63)], [(.int .i64 1), (.str [114, 101, 116, 117, 114, 110]), (.int .i64 65)], [(.int .i64 1), (.str [99]), (.int .i64 72)], [(.int .i64 3), 
    (.str [63]), (.int .i64 74)], [(.int .i64 1), (.str [97]), (.int .i64 76)], [(.int .i64 3), (.str [91]), (.int .i64 77)], [(.int .i64 2), (.str [55]), (.int .i64 78)], [(.int .i64 3), (.str [93]), (.int .i64 79)], [(.int .i64 3), 
    (.str [58]), (.int .i64 81)], [(.int .i64 1), (.str [120]), (.int .i64 83)], [(.int .i64 3), (.str [59]), (.int .i64 84)], [(.int .i64 3), (.str [125]), (.int .i64 86)], [(.int .i64 1), (.str [102, 117, 110, 99]), (.int .i64 88)], 
    [(.int .i64 1), (.str [104]), (.int .i64 93)], [(.int .i64 3), (.str [40]), (.int .i64 94)], [(.int .i64 1), (.str [99]), (.int .i64 95)], [(.int .i64 3), (.str [44]), (.int .i64 96)], [(.int .i64 1), (.str [120]), (.int .i64 98)], 
    [(.int .i64 3), (.str [41]), (.int .i64 99)], [(.int .i64 3), (.str [123]), (.int .i64 101)], [(.int .i64 1), (.str [114, 101, 116, 117, 114, 110]), (.int .i64 103)], [(.int .i64 1), (.str [97]), (.int .i64 110)], [(.int .i64 3), 
    (.str [91]), (.int .i64 111)], [(.int .i64 2), (.str [53]), (.int .i64 112)], [(.int .i64 3), (.str [93]), (.int .i64 113)], [(.int .i64 3), (.str [43]), (.int .i64 115)], [(.int .i64 1), (.str [120]), (.int .i64 117)], 
    [(.int .i64 3), (.str [47]), (.int .i64 119)], [(.int .i64 2), (.str [48]), (.int .i64 121)], [(.int .i64 3), (.str [59]), (.int .i64 122)], [(.int .i64 3), (.str [125]), (.int .i64 124)], [(.int .i64 1), (.str [102, 117, 110, 
    99]), (.int .i64 126)], [(.int .i64 1), (.str [107]), (.int .i64 131)], [(.int .i64 3), (.str [40]), (.int .i64 132)], [(.int .i64 1), (.str [99]), (.int .i64 133)], [(.int .i64 3), (.str [44]), (.int .i64 134)], [(.int .i64 1), 
    (.str [120]), (.int .i64 136)], [(.int .i64 3), (.str [41]), (.int .i64 137)], [(.int .i64 3), (.str [123]), (.int .i64 139)], [(.int .i64 1), (.str [114, 101, 116, 117, 114, 110]), (.int .i64 141)], [(.int .i64 1), (.str [120]), 
    (.int .i64 148)], [(.int .i64 3), (.str [47]), (.int .i64 150)], [(.int .i64 2), (.str [48]), (.int .i64 152)], [(.int .i64 3), (.str [43]), (.int .i64 154)], [(.int .i64 1), (.str [97]), (.int .i64 156)], [(.int .i64 3), 
    (.str [91]), (.int .i64 157)], [(.int .i64 2), (.str [53]), (.int .i64 158)], [(.int .i64 3), (.str [93]), (.int .i64 159)], [(.int .i64 3), (.str [59]), (.int .i64 160)], [(.int .i64 3), (.str [125]), (.int .i64 162)]]), 
    (.agg [(.int .i64 0), (.int .i64 0)])])
theorem c0 (ρ : Nat → Int) : Con Try.prog ρ 44 a0 r0 := Con.knownP fit (pls := pls) (k0 ρ) (n := 100000) (m := 100) (k := 100) (by kernel_rfl) (by kernel_rfl)
def l1 : List (FuncId × List AV × AV) := (44, a0, r0) :: l0
theorem k1 (ρ : Nat → Int) : KOk Try.prog ρ l1 := ⟨c0 ρ, k0 ρ⟩
def a1 : List AV := [(.str [97, 114, 114, 97, 121, 32, 97, 32, 49, 59, 32, 102, 117, 110, 99, 32, 102, 40, 99, 44, 32, 120, 41, 32, 123, 32, 114, 101, 116, 117, 114, 110, 32, 99, 32, 63, 32, 120, 32, 58, 32, 120, 32, 47, 32, 48, 59, 32, 125, 32, 102, 
    117, 110, 99, 32, 103, 40, 99, 44, 32, 120, 41, 32, 123, 32, 114, 101, 116, 117, 114, 110, 32, 99, 32, 63, 32, 97, 91, 55, 93, 32, 58, 32, 120, 59, 32, 125, 32, 102, 117, 110, 99, 32, 104, 40, 99, 44, 32, 120, 41, 32, 123, 32, 114, 
    101, 116, 117, 114, 110, 32, 97, 91, 53, 93, 32, 43, 32, 120, 32, 47, 32, 48, 59, 32, 125, 32, 102, 117, 110, 99, 32, 107, 40, 99, 44, 32, 120, 41, 32, 123, 32, 114, 101, 116, 117, 114, 110, 32, 120, 32, 47, 32, 48, 32, 43, 32, 97, 
    91, 53, 93, 59, 32, 125])]
def r1 : AV := (.tup [(.agg [(.lst [[(.str [97]), (.int .i64 1)]]), (.lst [[(.str [102]), (.lst [[(.str [99])], [(.str [120])]]), .nilS, .nilS, (.int .i64 5), (.int .i64 0), (.str []), (.int .i64 0), (.lst [[(.int .i64 2), (.int .i64 0), 
    (.str [99]), (.int .i64 0), .nilS], [(.int .i64 2), (.int .i64 0), (.str [120]), (.int .i64 0), .nilS], [(.int .i64 4), (.int .i64 0), (.str []), (.int .i64 7), (.lst [[(.int .i64 2), (.int .i64 0), (.str [120]), (.int .i64 0), 
    .nilS], [(.int .i64 1), (.int .i64 0), (.str []), (.int .i64 0), .nilS]])]])], [(.str [103]), (.lst [[(.str [99])], [(.str [120])]]), .nilS, .nilS, (.int .i64 5), (.int .i64 0), (.str []), (.int .i64 0), (.lst [[(.int .i64 2), 
    (.int .i64 0), (.str [99]), (.int .i64 0), .nilS], [(.int .i64 3), (.int .i64 0), (.str [97]), (.int .i64 0), (.lst [[(.int .i64 1), (.int .i64 7), (.str []), (.int .i64 0), .nilS]])], [(.int .i64 2), (.int .i64 0), (.str [120]), 
    (.int .i64 0), .nilS]])], [(.str [104]), (.lst [[(.str [99])], [(.str [120])]]), .nilS, .nilS, (.int .i64 4), (.int .i64 0), (.str []), (.int .i64 4), (.lst [[(.int .i64 3), (.int .i64 0), (.str [97]), (.int .i64 0), 
    (.lst [[(.int .i64 1), (.int .i64 5), (.str []), (.int .i64 0), .nilS]])], [(.int .i64 4), (.int .i64 0), (.str []), (.int .i64 7), (.lst [[(.int .i64 2), (.int .i64 0), (.str [120]), (.int .i64 0), .nilS], [(.int .i64 1), 
    (.int .i64 0), (.str []), (.int .i64 0), .nilS]])]])], [(.str [107]), (.lst [[(.str [99])], [(.str [120])]]), .nilS, .nilS, (.int .i64 4), (.int .i64 0), (.str []), (.int .i64 4), (.lst [[(.int .i64 4), (.int .i64 0), (.str []), 
    (.int .i64 7), (.lst [[(.int .i64 2), (.int .i64 0), (.str [120]), (.int .i64 0), .nilS], [(.int .i64 1), (.int .i64 0), (.str []), (.int .i64 0), .nilS]])], [(.int .i64 3), (.int .i64 0), (.str [97]), (.int .i64 0), 
    (.lst [[(.int .i64 1), (.int .i64 5), (.str []), (.int .i64 0), .nilS]])]])]])]), (.agg [(.int .i64 0), (.int .i64 0)])])
theorem c1 (ρ : Nat → Int) : Con Try.prog ρ 26 a1 r1 := Con.knownP fit (pls := pls) (k1 ρ) (n := 100000) (m := 100) (k := 100) (by kernel_rfl) (by kernel_rfl)
def l2 : List (FuncId × List AV × AV) := (26, a1, r1) :: l1
theorem k2 (ρ : Nat → Int) : KOk Try.prog ρ l2 := ⟨c1 ρ, k1 ρ⟩
def a2 : List AV := [(.agg [(.lst [[(.str [97]), (.int .i64 1)]]), (.lst [[(.str [102]), (.lst [[(.str [99])], [(.str [120])]]), .nilS, .nilS, (.int .i64 5), (.int .i64 0), (.str []), (.int .i64 0), (.lst [[(.int .i64 2), (.int .i64 0), (.str [99]), 
    (.int .i64 0), .nilS], [(.int .i64 2), (.int .i64 0), (.str [120]), (.int .i64 0), .nilS], [(.int .i64 4), (.int .i64 0), (.str []), (.int .i64 7), (.lst [[(.int .i64 2), (.int .i64 0), (.str [120]), (.int .i64 0), .nilS], 
    [(.int .i64 1), (.int .i64 0), (.str []), (.int .i64 0), .nilS]])]])], [(.str [103]), (.lst [[(.str [99])], [(.str [120])]]), .nilS, .nilS, (.int .i64 5), (.int .i64 0), (.str []), (.int .i64 0), (.lst [[(.int .i64 2), 
    (.int .i64 0), (.str [99]), (.int .i64 0), .nilS], [(.int .i64 3), (.int .i64 0), (.str [97]), (.int .i64 0), (.lst [[(.int .i64 1), (.int .i64 7), (.str []), (.int .i64 0), .nilS]])], [(.int .i64 2), (.int .i64 0), (.str [120]), 
    (.int .i64 0), .nilS]])], [(.str [104]), (.lst [[(.str [99])], [(.str [120])]]), .nilS, .nilS, (.int .i64 4), (.int .i64 0), (.str []), (.int .i64 4), (.lst [[(.int .i64 3), (.int .i64 0), (.str [97]), (.int .i64 0), 
    (.lst [[(.int .i64 1), (.int .i64 5), (.str []), (.int .i64 0), .nilS]])], [(.int .i64 4), (.int .i64 0), (.str []), (.int .i64 7), (.lst [[(.int .i64 2), (.int .i64 0), (.str [120]), (.int .i64 0), .nilS], [(.int .i64 1), 
    (.int .i64 0), (.str []), (.int .i64 0), .nilS]])]])], [(.str [107]), (.lst [[(.str [99])], [(.str [120])]]), .nilS, .nilS, (.int .i64 4), (.int .i64 0), (.str []), (.int .i64 4), (.lst [[(.int .i64 4), (.int .i64 0), (.str []), 
    (.int .i64 7), (.lst [[(.int .i64 2), (.int .i64 0), (.str [120]), (.int .i64 0), .nilS], [(.int .i64 1), (.int .i64 0), (.str []), (.int .i64 0), .nilS]])], [(.int .i64 3), (.int .i64 0), (.str [97]), (.int .i64 0), 
    (.lst [[(.int .i64 1), (.int .i64 5), (.str []), (.int .i64 0), .nilS]])]])]])])]
def r2 : AV := (.int .i64 0)
theorem c2 (ρ : Nat → Int) : Con Try.prog ρ 16 a2 r2 := Con.knownP fit (pls := pls) (k2 ρ) (n := 100000) (m := 100) (k := 100) (by kernel_rfl) (by kernel_rfl)
def l3 : List (FuncId × List AV × AV) := (16, a2, r2) :: l2
theorem k3 (ρ : Nat → Int) : KOk Try.prog ρ l3 := ⟨c2 ρ, k2 ρ⟩
def list : List (FuncId × List AV × AV) := [(26, a1, r1), (16, a2, r2)]
theorem ok (ρ : Nat → Int) : KOk Try.prog ρ list := ⟨c1 ρ, ⟨c2 ρ, trivial⟩⟩
end Go.Proofs.Ytlanljjbcpepjaa.knLaz
