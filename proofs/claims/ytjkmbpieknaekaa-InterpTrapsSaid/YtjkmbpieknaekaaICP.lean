/- Parts: KnEx. -/
import Derived.KernelRfl
import Derived.Test.YtjkmbpieknaekaaICO
import Derived.Test.YtjkmbpieknaekaaRows
set_option linter.unusedSimpArgs false
set_option linter.unusedVariables false
set_option linter.unusedSectionVars false
set_option linter.defProp false
namespace Go.Proofs.Ytjkmbpieknaekaa.knEx
set_option maxRecDepth 20000
open Go Go.Ab
def l0 : List (FuncId × List AV × AV) := []
theorem k0 (ρ : Nat → Int) : KOk Try.prog ρ l0 := trivial
def a0 : List AV := [(.str [97, 114, 114, 97, 121, 32, 97, 32, 50, 59, 32, 102, 117, 110, 99, 32, 102, 40, 41, 32, 123, 32, 119, 104, 105, 108, 101, 32, 40, 49, 41, 32, 123, 32, 111, 117, 116, 32, 55, 59, 32, 125, 32, 114, 101, 116, 117, 114, 110, 32, 
    48, 59, 32, 125, 32, 102, 117, 110, 99, 32, 103, 40, 110, 41, 32, 123, 32, 97, 91, 110, 93, 32, 61, 32, 53, 59, 32, 114, 101, 116, 117, 114, 110, 32, 97, 91, 110, 93, 32, 47, 32, 40, 110, 32, 45, 32, 49, 41, 59, 32, 125, 32, 102, 
    117, 110, 99, 32, 104, 40, 110, 41, 32, 123, 32, 110, 32, 61, 32, 103, 40, 110, 41, 59, 32, 111, 117, 116, 32, 110, 59, 32, 114, 101, 116, 117, 114, 110, 32, 110, 32, 43, 32, 49, 59, 32, 125])]
def r0 : AV := (.tup [(.lst [[(.int .i64 1), (.str [97, 114, 114, 97, 121]), (.int .i64 0)], [(.int .i64 1), (.str [97]), (.int .i64 6)], [(.int .i64 2), (.str [50]), (.int .i64 8)], [(.int .i64 3), (.str [59]), (.int .i64 9)], [(.int .i64 1), 
    (.str [102, 117, 110, 99]), (.int .i64 11)], [(.int .i64 1), (.str [102]), (.int .i64 16)], [(.int .i64 3), (.str [40]), (.int .i64 17)], [(.int .i64 3), (.str [41]), (.int .i64 18)], [(.int .i64 3), (.str [123]), (.int .i64 20)], 
    [(.int .i64 1), (.str [119, 104, 105, 108, 101]), (.int .i64 22)], [(.int .i64 3), (.str [40]), (.int .i64 28)], [(.int .i64 2), (.str [49]), (.int .i64 29)], [(.int .i64 3), (.str [41]), (.int .i64 30)], [(.int .i64 3), 
    (.str [123]), (.int .i64 32)], [(.int .i64 1), (.str [111, 117, 116]), (.int .i64 34)], [(.int .i64 2), (.str [55]), (.int .i64 38)], [(.int .i64 3), (.str [59]), (.int .i64 39)], [(.int .i64 3), (.str [125]), (.int .i64 41)], 
    [(.int .i64 1), (.str [114, 101, 116, 117, 114, 110]), (.int .i64 43)], [(.int .i64 2), (.str [48]), (.int .i64 50)], [(.int .i64 3), (.str [59]), (.int .i64 51)], [(.int .i64 3), (.str [125]), (.int .i64 53)], [(.int .i64 1), 
    (.str [102, 117, 110, 99]), (.int .i64 55)], [(.int .i64 1), (.str [103]), (.int .i64 60)], [(.int .i64 3), (.str [40]), (.int .i64 61)], [(.int .i64 1), (.str [110]), (.int .i64 62)], [(.int .i64 3), (.str [41]), (.int .i64 63)], 
    [(.int .i64 3), (.str [123]), (.int .i64 65)], [(.int .i64 1), (.str [97]), (.int .i64 67)], [(.int .i64 3), (.str [91]), (.int .i64 68)], [(.int .i64 1), (.str [110]), (.int .i64 69)], [(.int .i64 3), (.str [93]), (.int .i64 70)], 
    [(.int .i64 3), (.str [61]), (.int .i64 72)], [(.int .i64 2), (.str [53]), (.int .i64 74)], [(.int .i64 3), (.str [59]), (.int .i64 75)], [(.int .i64 1), (.str [114, 101, 116, 117, 114, 110]), (.int .i64 77)], [(.int .i64 1), 
    (.str [97]), (.int .i64 84)], [(.int .i64 3), (.str [91]), (.int .i64 85)], [(.int .i64 1), (.str [110]), (.int .i64 86)], [(.int .i64 3), (.str [93]), (.int .i64 87)], [(.int .i64 3), (.str [47]), (.int .i64 89)], [(.int .i64 3), 
    (.str [40]), (.int .i64 91)], [(.int .i64 1), (.str [110]), (.int .i64 92)], [(.int .i64 3), (.str [45]), (.int .i64 94)], [(.int .i64 2), (.str [49]), (.int .i64 96)], [(.int .i64 3), (.str [41]), (.int .i64 97)], [(.int .i64 3), 
    (.str [59]), (.int .i64 98)], [(.int .i64 3), (.str [125]), (.int .i64 100)], [(.int .i64 1), (.str [102, 117, 110, 99]), (.int .i64 102)], [(.int .i64 1), (.str [104]), (.int .i64 107)], [(.int .i64 3), (.str [40]), 
    (.int .i64 108)], [(.int .i64 1), (.str [110]), (.int .i64 109)], [(.int .i64 3), (.str [41]), (.int .i64 110)], [(.int .i64 3), (.str [123]), (.int .i64 112)], [(.int .i64 1), (.str [110]), (.int .i64 114)], [(.int .i64 3), 
    (.str [61]), (.int .i64 116)], [(.int .i64 1), (.str [103]), (.int .i64 118)], [(.int .i64 3), (.str [40]), (.int .i64 119)], [(.int .i64 1), (.str [110]), (.int .i64 120)], [(.int .i64 3), (.str [41]), (.int .i64 121)], 
    [(.int .i64 3), (.str [59]), (.int .i64 122)], [(.int .i64 1), (.str [111, 117, 116]), (.int .i64 124)], [(.int .i64 1), (.str [110]), (.int .i64 128)], [(.int .i64 3), (.str [59]), (.int .i64 129)], [(.int .i64 1), (.str [114, 
    101, 116, 117, 114, 110]), (.int .i64 131)], [(.int .i64 1), (.str [110]), (.int .i64 138)], [(.int .i64 3), (.str [43]), (.int .i64 140)], [(.int .i64 2), (.str [49]), (.int .i64 142)], [(.int .i64 3), (.str [59]), 
    (.int .i64 143)], [(.int .i64 3), (.str [125]), (.int .i64 145)]]), (.agg [(.int .i64 0), (.int .i64 0)])])
theorem c0 (ρ : Nat → Int) : Con Try.prog ρ 42 a0 r0 := Con.knownP fit (pls := pls) (k0 ρ) (n := 100000) (m := 100) (k := 100) (by kernel_rfl) (by kernel_rfl)
def l1 : List (FuncId × List AV × AV) := (42, a0, r0) :: l0
theorem k1 (ρ : Nat → Int) : KOk Try.prog ρ l1 := ⟨c0 ρ, k0 ρ⟩
def a1 : List AV := [(.str [97, 114, 114, 97, 121, 32, 97, 32, 50, 59, 32, 102, 117, 110, 99, 32, 102, 40, 41, 32, 123, 32, 119, 104, 105, 108, 101, 32, 40, 49, 41, 32, 123, 32, 111, 117, 116, 32, 55, 59, 32, 125, 32, 114, 101, 116, 117, 114, 110, 32, 
    48, 59, 32, 125, 32, 102, 117, 110, 99, 32, 103, 40, 110, 41, 32, 123, 32, 97, 91, 110, 93, 32, 61, 32, 53, 59, 32, 114, 101, 116, 117, 114, 110, 32, 97, 91, 110, 93, 32, 47, 32, 40, 110, 32, 45, 32, 49, 41, 59, 32, 125, 32, 102, 
    117, 110, 99, 32, 104, 40, 110, 41, 32, 123, 32, 110, 32, 61, 32, 103, 40, 110, 41, 59, 32, 111, 117, 116, 32, 110, 59, 32, 114, 101, 116, 117, 114, 110, 32, 110, 32, 43, 32, 49, 59, 32, 125])]
def r1 : AV := (.tup [(.agg [(.lst [[(.str [97]), (.int .i64 2)]]), (.lst [[(.str [102]), .nilS, .nilS, (.lst [[(.int .i64 4), (.str []), (.str []), (.int .i64 0), (.int .i64 0), (.int .i64 0), (.str []), (.int .i64 0), .nilS, (.int .i64 1), 
    (.int .i64 1), (.str []), (.int .i64 0), .nilS, .nilS, (.lst [[(.int .i64 5), (.str []), (.str []), (.int .i64 0), (.int .i64 0), (.int .i64 0), (.str []), (.int .i64 0), .nilS, (.int .i64 1), (.int .i64 7), (.str []), 
    (.int .i64 0), .nilS, .nilS, .nilS, .nilS]]), .nilS]]), (.int .i64 1), (.int .i64 0), (.str []), (.int .i64 0), .nilS], [(.str [103]), (.lst [[(.str [110])]]), .nilS, (.lst [[(.int .i64 2), (.str [97]), (.str []), (.int .i64 0), 
    (.int .i64 2), (.int .i64 0), (.str [110]), (.int .i64 0), .nilS, (.int .i64 1), (.int .i64 5), (.str []), (.int .i64 0), .nilS, .nilS, .nilS, .nilS]]), (.int .i64 4), (.int .i64 0), (.str []), (.int .i64 7), (.lst [[(.int .i64 3), 
    (.int .i64 0), (.str [97]), (.int .i64 0), (.lst [[(.int .i64 2), (.int .i64 0), (.str [110]), (.int .i64 0), .nilS]])], [(.int .i64 4), (.int .i64 0), (.str []), (.int .i64 5), (.lst [[(.int .i64 2), (.int .i64 0), (.str [110]), 
    (.int .i64 0), .nilS], [(.int .i64 1), (.int .i64 1), (.str []), (.int .i64 0), .nilS]])]])], [(.str [104]), (.lst [[(.str [110])]]), .nilS, (.lst [[(.int .i64 6), (.str [110]), (.str [103]), (.int .i64 0), (.int .i64 0), 
    (.int .i64 0), (.str []), (.int .i64 0), .nilS, (.int .i64 0), (.int .i64 0), (.str []), (.int .i64 0), .nilS, (.lst [[(.int .i64 2), (.int .i64 0), (.str [110]), (.int .i64 0), .nilS]]), .nilS, .nilS], [(.int .i64 5), (.str []), 
    (.str []), (.int .i64 0), (.int .i64 0), (.int .i64 0), (.str []), (.int .i64 0), .nilS, (.int .i64 2), (.int .i64 0), (.str [110]), (.int .i64 0), .nilS, .nilS, .nilS, .nilS]]), (.int .i64 4), (.int .i64 0), (.str []), 
    (.int .i64 4), (.lst [[(.int .i64 2), (.int .i64 0), (.str [110]), (.int .i64 0), .nilS], [(.int .i64 1), (.int .i64 1), (.str []), (.int .i64 0), .nilS]])]])]), (.agg [(.int .i64 0), (.int .i64 0)])])
theorem c1 (ρ : Nat → Int) : Con Try.prog ρ 24 a1 r1 := Con.knownP fit (pls := pls) (k1 ρ) (n := 100000) (m := 100) (k := 100) (by kernel_rfl) (by kernel_rfl)
def l2 : List (FuncId × List AV × AV) := (24, a1, r1) :: l1
theorem k2 (ρ : Nat → Int) : KOk Try.prog ρ l2 := ⟨c1 ρ, k1 ρ⟩
def a2 : List AV := [(.agg [(.lst [[(.str [97]), (.int .i64 2)]]), (.lst [[(.str [102]), .nilS, .nilS, (.lst [[(.int .i64 4), (.str []), (.str []), (.int .i64 0), (.int .i64 0), (.int .i64 0), (.str []), (.int .i64 0), .nilS, (.int .i64 1), 
    (.int .i64 1), (.str []), (.int .i64 0), .nilS, .nilS, (.lst [[(.int .i64 5), (.str []), (.str []), (.int .i64 0), (.int .i64 0), (.int .i64 0), (.str []), (.int .i64 0), .nilS, (.int .i64 1), (.int .i64 7), (.str []), 
    (.int .i64 0), .nilS, .nilS, .nilS, .nilS]]), .nilS]]), (.int .i64 1), (.int .i64 0), (.str []), (.int .i64 0), .nilS], [(.str [103]), (.lst [[(.str [110])]]), .nilS, (.lst [[(.int .i64 2), (.str [97]), (.str []), (.int .i64 0), 
    (.int .i64 2), (.int .i64 0), (.str [110]), (.int .i64 0), .nilS, (.int .i64 1), (.int .i64 5), (.str []), (.int .i64 0), .nilS, .nilS, .nilS, .nilS]]), (.int .i64 4), (.int .i64 0), (.str []), (.int .i64 7), (.lst [[(.int .i64 3), 
    (.int .i64 0), (.str [97]), (.int .i64 0), (.lst [[(.int .i64 2), (.int .i64 0), (.str [110]), (.int .i64 0), .nilS]])], [(.int .i64 4), (.int .i64 0), (.str []), (.int .i64 5), (.lst [[(.int .i64 2), (.int .i64 0), (.str [110]), 
    (.int .i64 0), .nilS], [(.int .i64 1), (.int .i64 1), (.str []), (.int .i64 0), .nilS]])]])], [(.str [104]), (.lst [[(.str [110])]]), .nilS, (.lst [[(.int .i64 6), (.str [110]), (.str [103]), (.int .i64 0), (.int .i64 0), 
    (.int .i64 0), (.str []), (.int .i64 0), .nilS, (.int .i64 0), (.int .i64 0), (.str []), (.int .i64 0), .nilS, (.lst [[(.int .i64 2), (.int .i64 0), (.str [110]), (.int .i64 0), .nilS]]), .nilS, .nilS], [(.int .i64 5), (.str []), 
    (.str []), (.int .i64 0), (.int .i64 0), (.int .i64 0), (.str []), (.int .i64 0), .nilS, (.int .i64 2), (.int .i64 0), (.str [110]), (.int .i64 0), .nilS, .nilS, .nilS, .nilS]]), (.int .i64 4), (.int .i64 0), (.str []), 
    (.int .i64 4), (.lst [[(.int .i64 2), (.int .i64 0), (.str [110]), (.int .i64 0), .nilS], [(.int .i64 1), (.int .i64 1), (.str []), (.int .i64 0), .nilS]])]])])]
def r2 : AV := (.int .i64 0)
theorem c2 (ρ : Nat → Int) : Con Try.prog ρ 14 a2 r2 := Con.knownP fit (pls := pls) (k2 ρ) (n := 100000) (m := 100) (k := 100) (by kernel_rfl) (by kernel_rfl)
def l3 : List (FuncId × List AV × AV) := (14, a2, r2) :: l2
theorem k3 (ρ : Nat → Int) : KOk Try.prog ρ l3 := ⟨c2 ρ, k2 ρ⟩
def a3 : List AV := [(.agg [(.lst [[(.str [97]), (.int .i64 2)]]), (.lst [[(.str [102]), .nilS, .nilS, (.lst [[(.int .i64 4), (.str []), (.str []), (.int .i64 0), (.int .i64 0), (.int .i64 0), (.str []), (.int .i64 0), .nilS, (.int .i64 1), 
    (.int .i64 1), (.str []), (.int .i64 0), .nilS, .nilS, (.lst [[(.int .i64 5), (.str []), (.str []), (.int .i64 0), (.int .i64 0), (.int .i64 0), (.str []), (.int .i64 0), .nilS, (.int .i64 1), (.int .i64 7), (.str []), 
    (.int .i64 0), .nilS, .nilS, .nilS, .nilS]]), .nilS]]), (.int .i64 1), (.int .i64 0), (.str []), (.int .i64 0), .nilS], [(.str [103]), (.lst [[(.str [110])]]), .nilS, (.lst [[(.int .i64 2), (.str [97]), (.str []), (.int .i64 0), 
    (.int .i64 2), (.int .i64 0), (.str [110]), (.int .i64 0), .nilS, (.int .i64 1), (.int .i64 5), (.str []), (.int .i64 0), .nilS, .nilS, .nilS, .nilS]]), (.int .i64 4), (.int .i64 0), (.str []), (.int .i64 7), (.lst [[(.int .i64 3), 
    (.int .i64 0), (.str [97]), (.int .i64 0), (.lst [[(.int .i64 2), (.int .i64 0), (.str [110]), (.int .i64 0), .nilS]])], [(.int .i64 4), (.int .i64 0), (.str []), (.int .i64 5), (.lst [[(.int .i64 2), (.int .i64 0), (.str [110]), 
    (.int .i64 0), .nilS], [(.int .i64 1), (.int .i64 1), (.str []), (.int .i64 0), .nilS]])]])], [(.str [104]), (.lst [[(.str [110])]]), .nilS, (.lst [[(.int .i64 6), (.str [110]), (.str [103]), (.int .i64 0), (.int .i64 0), 
    (.int .i64 0), (.str []), (.int .i64 0), .nilS, (.int .i64 0), (.int .i64 0), (.str []), (.int .i64 0), .nilS, (.lst [[(.int .i64 2), (.int .i64 0), (.str [110]), (.int .i64 0), .nilS]]), .nilS, .nilS], [(.int .i64 5), (.str []), 
    (.str []), (.int .i64 0), (.int .i64 0), (.int .i64 0), (.str []), (.int .i64 0), .nilS, (.int .i64 2), (.int .i64 0), (.str [110]), (.int .i64 0), .nilS, .nilS, .nilS, .nilS]]), (.int .i64 4), (.int .i64 0), (.str []), 
    (.int .i64 4), (.lst [[(.int .i64 2), (.int .i64 0), (.str [110]), (.int .i64 0), .nilS], [(.int .i64 1), (.int .i64 1), (.str []), (.int .i64 0), .nilS]])]])]), (.str [102]), .nilS, (.int .i64 2)]
def r3 : AV := (.agg [(.int .i64 3), (.int .i64 0), (.lst [[(.int .i64 7)], [(.int .i64 7)]]), (.int .i64 0)])
theorem c3 (ρ : Nat → Int) : Con Try.prog ρ 21 a3 r3 := Con.knownP fit (pls := pls) (k3 ρ) (n := 100000) (m := 100) (k := 100) (by kernel_rfl) (by kernel_rfl)
def l4 : List (FuncId × List AV × AV) := (21, a3, r3) :: l3
theorem k4 (ρ : Nat → Int) : KOk Try.prog ρ l4 := ⟨c3 ρ, k3 ρ⟩
def a4 : List AV := [(.agg [(.lst [[(.str [97]), (.int .i64 2)]]), (.lst [[(.str [102]), .nilS, .nilS, (.lst [[(.int .i64 4), (.str []), (.str []), (.int .i64 0), (.int .i64 0), (.int .i64 0), (.str []), (.int .i64 0), .nilS, (.int .i64 1), 
    (.int .i64 1), (.str []), (.int .i64 0), .nilS, .nilS, (.lst [[(.int .i64 5), (.str []), (.str []), (.int .i64 0), (.int .i64 0), (.int .i64 0), (.str []), (.int .i64 0), .nilS, (.int .i64 1), (.int .i64 7), (.str []), 
    (.int .i64 0), .nilS, .nilS, .nilS, .nilS]]), .nilS]]), (.int .i64 1), (.int .i64 0), (.str []), (.int .i64 0), .nilS], [(.str [103]), (.lst [[(.str [110])]]), .nilS, (.lst [[(.int .i64 2), (.str [97]), (.str []), (.int .i64 0), 
    (.int .i64 2), (.int .i64 0), (.str [110]), (.int .i64 0), .nilS, (.int .i64 1), (.int .i64 5), (.str []), (.int .i64 0), .nilS, .nilS, .nilS, .nilS]]), (.int .i64 4), (.int .i64 0), (.str []), (.int .i64 7), (.lst [[(.int .i64 3), 
    (.int .i64 0), (.str [97]), (.int .i64 0), (.lst [[(.int .i64 2), (.int .i64 0), (.str [110]), (.int .i64 0), .nilS]])], [(.int .i64 4), (.int .i64 0), (.str []), (.int .i64 5), (.lst [[(.int .i64 2), (.int .i64 0), (.str [110]), 
    (.int .i64 0), .nilS], [(.int .i64 1), (.int .i64 1), (.str []), (.int .i64 0), .nilS]])]])], [(.str [104]), (.lst [[(.str [110])]]), .nilS, (.lst [[(.int .i64 6), (.str [110]), (.str [103]), (.int .i64 0), (.int .i64 0), 
    (.int .i64 0), (.str []), (.int .i64 0), .nilS, (.int .i64 0), (.int .i64 0), (.str []), (.int .i64 0), .nilS, (.lst [[(.int .i64 2), (.int .i64 0), (.str [110]), (.int .i64 0), .nilS]]), .nilS, .nilS], [(.int .i64 5), (.str []), 
    (.str []), (.int .i64 0), (.int .i64 0), (.int .i64 0), (.str []), (.int .i64 0), .nilS, (.int .i64 2), (.int .i64 0), (.str [110]), (.int .i64 0), .nilS, .nilS, .nilS, .nilS]]), (.int .i64 4), (.int .i64 0), (.str []), 
    (.int .i64 4), (.lst [[(.int .i64 2), (.int .i64 0), (.str [110]), (.int .i64 0), .nilS], [(.int .i64 1), (.int .i64 1), (.str []), (.int .i64 0), .nilS]])]])]), (.str [103]), (.lst [[(.int .i64 1)]]), (.int .i64 0)]
def r4 : AV := (.agg [(.int .i64 2), (.int .i64 1), .nilS, (.int .i64 0)])
theorem c4 (ρ : Nat → Int) : Con Try.prog ρ 21 a4 r4 := Con.knownP fit (pls := pls) (k4 ρ) (n := 100000) (m := 100) (k := 100) (by kernel_rfl) (by kernel_rfl)
def l5 : List (FuncId × List AV × AV) := (21, a4, r4) :: l4
theorem k5 (ρ : Nat → Int) : KOk Try.prog ρ l5 := ⟨c4 ρ, k4 ρ⟩
def a5 : List AV := [(.agg [(.lst [[(.str [97]), (.int .i64 2)]]), (.lst [[(.str [102]), .nilS, .nilS, (.lst [[(.int .i64 4), (.str []), (.str []), (.int .i64 0), (.int .i64 0), (.int .i64 0), (.str []), (.int .i64 0), .nilS, (.int .i64 1), 
    (.int .i64 1), (.str []), (.int .i64 0), .nilS, .nilS, (.lst [[(.int .i64 5), (.str []), (.str []), (.int .i64 0), (.int .i64 0), (.int .i64 0), (.str []), (.int .i64 0), .nilS, (.int .i64 1), (.int .i64 7), (.str []), 
    (.int .i64 0), .nilS, .nilS, .nilS, .nilS]]), .nilS]]), (.int .i64 1), (.int .i64 0), (.str []), (.int .i64 0), .nilS], [(.str [103]), (.lst [[(.str [110])]]), .nilS, (.lst [[(.int .i64 2), (.str [97]), (.str []), (.int .i64 0), 
    (.int .i64 2), (.int .i64 0), (.str [110]), (.int .i64 0), .nilS, (.int .i64 1), (.int .i64 5), (.str []), (.int .i64 0), .nilS, .nilS, .nilS, .nilS]]), (.int .i64 4), (.int .i64 0), (.str []), (.int .i64 7), (.lst [[(.int .i64 3), 
    (.int .i64 0), (.str [97]), (.int .i64 0), (.lst [[(.int .i64 2), (.int .i64 0), (.str [110]), (.int .i64 0), .nilS]])], [(.int .i64 4), (.int .i64 0), (.str []), (.int .i64 5), (.lst [[(.int .i64 2), (.int .i64 0), (.str [110]), 
    (.int .i64 0), .nilS], [(.int .i64 1), (.int .i64 1), (.str []), (.int .i64 0), .nilS]])]])], [(.str [104]), (.lst [[(.str [110])]]), .nilS, (.lst [[(.int .i64 6), (.str [110]), (.str [103]), (.int .i64 0), (.int .i64 0), 
    (.int .i64 0), (.str []), (.int .i64 0), .nilS, (.int .i64 0), (.int .i64 0), (.str []), (.int .i64 0), .nilS, (.lst [[(.int .i64 2), (.int .i64 0), (.str [110]), (.int .i64 0), .nilS]]), .nilS, .nilS], [(.int .i64 5), (.str []), 
    (.str []), (.int .i64 0), (.int .i64 0), (.int .i64 0), (.str []), (.int .i64 0), .nilS, (.int .i64 2), (.int .i64 0), (.str [110]), (.int .i64 0), .nilS, .nilS, .nilS, .nilS]]), (.int .i64 4), (.int .i64 0), (.str []), 
    (.int .i64 4), (.lst [[(.int .i64 2), (.int .i64 0), (.str [110]), (.int .i64 0), .nilS], [(.int .i64 1), (.int .i64 1), (.str []), (.int .i64 0), .nilS]])]])]), (.str [103]), (.lst [[(.int .i64 2)]]), (.int .i64 0)]
def r5 : AV := (.agg [(.int .i64 2), (.int .i64 2), .nilS, (.int .i64 0)])
theorem c5 (ρ : Nat → Int) : Con Try.prog ρ 21 a5 r5 := Con.knownP fit (pls := pls) (k5 ρ) (n := 100000) (m := 100) (k := 100) (by kernel_rfl) (by kernel_rfl)
def l6 : List (FuncId × List AV × AV) := (21, a5, r5) :: l5
theorem k6 (ρ : Nat → Int) : KOk Try.prog ρ l6 := ⟨c5 ρ, k5 ρ⟩
def a6 : List AV := [(.agg [(.lst [[(.str [97]), (.int .i64 2)]]), (.lst [[(.str [102]), .nilS, .nilS, (.lst [[(.int .i64 4), (.str []), (.str []), (.int .i64 0), (.int .i64 0), (.int .i64 0), (.str []), (.int .i64 0), .nilS, (.int .i64 1), 
    (.int .i64 1), (.str []), (.int .i64 0), .nilS, .nilS, (.lst [[(.int .i64 5), (.str []), (.str []), (.int .i64 0), (.int .i64 0), (.int .i64 0), (.str []), (.int .i64 0), .nilS, (.int .i64 1), (.int .i64 7), (.str []), 
    (.int .i64 0), .nilS, .nilS, .nilS, .nilS]]), .nilS]]), (.int .i64 1), (.int .i64 0), (.str []), (.int .i64 0), .nilS], [(.str [103]), (.lst [[(.str [110])]]), .nilS, (.lst [[(.int .i64 2), (.str [97]), (.str []), (.int .i64 0), 
    (.int .i64 2), (.int .i64 0), (.str [110]), (.int .i64 0), .nilS, (.int .i64 1), (.int .i64 5), (.str []), (.int .i64 0), .nilS, .nilS, .nilS, .nilS]]), (.int .i64 4), (.int .i64 0), (.str []), (.int .i64 7), (.lst [[(.int .i64 3), 
    (.int .i64 0), (.str [97]), (.int .i64 0), (.lst [[(.int .i64 2), (.int .i64 0), (.str [110]), (.int .i64 0), .nilS]])], [(.int .i64 4), (.int .i64 0), (.str []), (.int .i64 5), (.lst [[(.int .i64 2), (.int .i64 0), (.str [110]), 
    (.int .i64 0), .nilS], [(.int .i64 1), (.int .i64 1), (.str []), (.int .i64 0), .nilS]])]])], [(.str [104]), (.lst [[(.str [110])]]), .nilS, (.lst [[(.int .i64 6), (.str [110]), (.str [103]), (.int .i64 0), (.int .i64 0), 
    (.int .i64 0), (.str []), (.int .i64 0), .nilS, (.int .i64 0), (.int .i64 0), (.str []), (.int .i64 0), .nilS, (.lst [[(.int .i64 2), (.int .i64 0), (.str [110]), (.int .i64 0), .nilS]]), .nilS, .nilS], [(.int .i64 5), (.str []), 
    (.str []), (.int .i64 0), (.int .i64 0), (.int .i64 0), (.str []), (.int .i64 0), .nilS, (.int .i64 2), (.int .i64 0), (.str [110]), (.int .i64 0), .nilS, .nilS, .nilS, .nilS]]), (.int .i64 4), (.int .i64 0), (.str []), 
    (.int .i64 4), (.lst [[(.int .i64 2), (.int .i64 0), (.str [110]), (.int .i64 0), .nilS], [(.int .i64 1), (.int .i64 1), (.str []), (.int .i64 0), .nilS]])]])]), (.str [104]), (.lst [[(.int .i64 0)]]), (.int .i64 1)]
def r6 : AV := (.agg [(.int .i64 1), (.int .i64 0), (.lst [[(.int .i64 (-5))]]), (.int .i64 (-4))])
theorem c6 (ρ : Nat → Int) : Con Try.prog ρ 21 a6 r6 := Con.knownP fit (pls := pls) (k6 ρ) (n := 100000) (m := 100) (k := 100) (by kernel_rfl) (by kernel_rfl)
def l7 : List (FuncId × List AV × AV) := (21, a6, r6) :: l6
theorem k7 (ρ : Nat → Int) : KOk Try.prog ρ l7 := ⟨c6 ρ, k6 ρ⟩
def a7 : List AV := []
def r7 : AV := (.bool true)
theorem c7 (ρ : Nat → Int) : Con Try.prog ρ 23 a7 r7 := Con.knownP fit (pls := pls) (k7 ρ) (n := 100000) (m := 100) (k := 100) (by kernel_rfl) (by kernel_rfl)
def l8 : List (FuncId × List AV × AV) := (23, a7, r7) :: l7
theorem k8 (ρ : Nat → Int) : KOk Try.prog ρ l8 := ⟨c7 ρ, k7 ρ⟩
def list : List (FuncId × List AV × AV) := [(23, a7, r7)]
theorem ok (ρ : Nat → Int) : KOk Try.prog ρ list := ⟨c7 ρ, trivial⟩
end Go.Proofs.Ytjkmbpieknaekaa.knEx
