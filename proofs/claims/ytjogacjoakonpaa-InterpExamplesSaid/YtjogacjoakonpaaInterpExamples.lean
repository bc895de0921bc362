/-
  The Go function fullinglaw6.InterpExamples returns true whenever it is called, and leaves all memory that was there as it was. Conditions: none.
-/
import Derived.Test.YtjogacjoakonpaaRows
import Derived.Test.YtjogacjoakonpaaAbLaw
import Derived.WalkKit
import Derived.ProofKit
import Derived.OpenShut
namespace Go.Proofs.Ytjogacjoakonpaa.interpExamples
open Go Go.Ab Go.ChangeShapes Go.WideShapes Go.ChangeAt Go.RowKit
set_option linter.unusedVariables false

theorem own : ownKnob Try.prog.godebug = none := by kernel_rfl

/-! ### THE WALK -/
theorem fit : Fit Try.prog := Fit.of (by kernel_rfl)
def ρ0 : Nat → Int := fun _ => 0
def l0 : List (FuncId × List AV × AV) := []
theorem k0 : KOk Try.prog ρ0 l0 := trivial
def a0 : List AV := [(.str [97, 114, 114, 97, 121, 32, 97, 32, 50, 59, 32, 102, 117, 110, 99, 32, 102, 40, 41, 32, 123, 32, 119, 104, 105, 108, 101, 32, 40, 49, 41, 32, 123, 32, 111, 117, 116, 32, 55, 59, 32, 125, 32, 114, 101, 116, 117, 114, 110, 32, 
    48, 59, 32, 125, 32, 102, 117, 110, 99, 32, 103, 40, 110, 41, 32, 123, 32, 97, 91, 110, 93, 32, 61, 32, 53, 59, 32, 114, 101, 116, 117, 114, 110, 32, 97, 91, 110, 93, 32, 47, 32, 40, 110, 32, 45, 32, 49, 41, 59, 32, 125, 32, 102, 
    117, 110, 99, 32, 104, 40, 110, 41, 32, 123, 32, 110, 32, 61, 32, 103, 40, 110, 41, 59, 32, 111, 117, 116, 32, 110, 59, 32, 114, 101, 116, 117, 114, 110, 32, 110, 32, 43, 32, 49, 59, 32, 125])]
def r0 : AV := (.tup [(.lst [[(.int .i64 1), (.str [97, 114, 114, 97, 121]), (.int .i64 0)], [(.int .i64 1), (.str [97]), (.int .i64 6)], [(.int .i64 2), (.str [50]), (.int .i64 8)], [(.int .i64 3), (.str [59]), (.int .i64 9)], [(.int .i64 1), 
    (.str [102, 117, 110, 99]), (.int .i64 11)], [(.int .i64 1), (.str [102]), (.int .i64 16)], [(.int .i64 3), (.str [40]), (.int .i64 17)], [(.int .i64 3), (.str [41]), (.int .i64 18)], [(.int .i64 3), (.str [123]), (.int .i64 20)], 
    [(.int .i64 1), (.str [119, 104, 105, 108, 101]), (.int .i64 22)], [(.int .i64 3), (.str [40]), (.int .i64 28)], [(.int .i64 2), (.str [49]), (.int .i64 29)], [(.int .i64 3), (.str [41]), (.int .i64 30)], [(.int .i64 3), 
    (.str [123]), (.int .i64 32)], [(.int .i64 1), (.str [111, 117, 116]), (.int .i64 34)], [(.int .i64 2), (.str [55]), (.int .i64 38)], [(.int .i64 3), (.str [59]), (.int .i64 39)], [(.int .i64 3), (.str [125]), (.int .i64 41)], 
    [(.int .i64 1), (.str [114, 101, 116, 117, 114, 110]), (.int .i64 43)], [(.int .i64 2), (.str [48]), (.int .i64 50)], [(.int .i64 3), (.str [59]), (.int .i64 51)], [(.int .i64 3), (.str [125]), (.int .i64 53)], [(.int .i64 1), 
    (.str [102, 117, 110, 99]), (.int .i64 55)], [(.int .i64 1), (.str [103]), (.int .i64 60)], [(.int .i64 3), (.str [40]), (.int .i64 61)], [(.int .i64 1), (.str [110]), (.int .i64 62)], [(.int .i64 3), (.str [41]), (.int .i64 63)], 
    [(.int .i64 3), (.str [123]), (.int .i64 65)], [(.int .i64 1), (.str [97]), (.int .i64 67)], [(.int .i64 3), (.str [91]), (.int .i64 68)], [(.int .i64 1), (.str [110]), (.int .i64 69)], [(.int .i64 3), (.str [93]), (.int .i64 70)], 
    [(.int .i64 3), (.str [61]), (.int .i64 72)], [(.int .i64 2), (.str [53]), (.int .i64 74)], [(.int .i64 3), (.str [59]), (.int .i64 75)], [(.int .i64 1), (.str [114, 101, 116, 117, 114, 110]), (.int .i64 77)], [(.int .i64 1), 
    (.str [97]), (.int .i64 84)], [(.int .i64 3), (.str [91]), (.int .i64 85)], [(.int .i64 1), (.str [110]), (.int .i64 86)], [(.int .i64 3), (.str [93]), (.int .i64 87)], [(.int .i64 3), (.str [47]), (.int .i64 89)], [(.int .i64 3), 
    (.str [40]), (.int .i64 91)], [(.int .i64 1), (.str [110]), (.int .i64 92)], [(.int .i64 3), (.str [45]), (.int .i64 94)], [(.int .i64 2), (.str [49]), (.int .i64 96)], [(.int .i64 3), (.str [41]), (.int .i64 97)], [(.int .i64 3), 
    (.str [59]), (.int .i64 98)], [(.int .i64 3), (.str [125]), (.int .i64 100)], [(.int .i64 1), (.str [102, 117, 110, 99]), (.int .i64 102)], [(.int .i64 1), (.str [104]), (.int .i64 107)], [(.int .i64 3), (.str [40]), 
    (.int .i64 108)], [(.int .i64 1), (.str [110]), (.int .i64 109)], [(.int .i64 3), (.str [41]), (.int .i64 110)], [(.int .i64 3), (.str [123]), (.int .i64 112)], [(.int .i64 1), (.str [110]), (.int .i64 114)], [(.int .i64 3), 
    (.str [61]), (.int .i64 116)], [(.int .i64 1), (.str [103]), (.int .i64 118)], [(.int .i64 3), (.str [40]), (.int .i64 119)], [(.int .i64 1), (.str [110]), (.int .i64 120)], [(.int .i64 3), (.str [41]), (.int .i64 121)], 
    [(.int .i64 3), (.str [59]), (.int .i64 122)], [(.int .i64 1), (.str [111, 117, 116]), (.int .i64 124)], [(.int .i64 1), (.str [110]), (.int .i64 128)], [(.int .i64 3), (.str [59]), (.int .i64 129)], [(.int .i64 1), (.str [114, 
    101, 116, 117, 114, 110]), (.int .i64 131)], [(.int .i64 1), (.str [110]), (.int .i64 138)], [(.int .i64 3), (.str [43]), (.int .i64 140)], [(.int .i64 2), (.str [49]), (.int .i64 142)], [(.int .i64 3), (.str [59]), 
    (.int .i64 143)], [(.int .i64 3), (.str [125]), (.int .i64 145)]]), (.agg [(.int .i64 0), (.int .i64 0)])])
theorem c0 : Con Try.prog ρ0 24 a0 r0 := Con.known fit k0 (n := 100000) (m := 100) (k := 100) (by kernel_rfl) (by kernel_rfl)
def l1 : List (FuncId × List AV × AV) := (24, a0, r0) :: l0
theorem k1 : KOk Try.prog ρ0 l1 := ⟨c0, k0⟩
def a1 : List AV := [(.str [97, 114, 114, 97, 121, 32, 97, 32, 50, 59, 32, 102, 117, 110, 99, 32, 102, 40, 41, 32, 123, 32, 119, 104, 105, 108, 101, 32, 40, 49, 41, 32, 123, 32, 111, 117, 116, 32, 55, 59, 32, 125, 32, 114, 101, 116, 117, 114, 110, 32, 
    48, 59, 32, 125, 32, 102, 117, 110, 99, 32, 103, 40, 110, 41, 32, 123, 32, 97, 91, 110, 93, 32, 61, 32, 53, 59, 32, 114, 101, 116, 117, 114, 110, 32, 97, 91, 110, 93, 32, 47, 32, 40, 110, 32, 45, 32, 49, 41, 59, 32, 125, 32, 102, 
    117, 110, 99, 32, 104, 40, 110, 41, 32, 123, 32, 110, 32, 61, 32, 103, 40, 110, 41, 59, 32, 111, 117, 116, 32, 110, 59, 32, 114, 101, 116, 117, 114, 110, 32, 110, 32, 43, 32, 49, 59, 32, 125])]
def r1 : AV := (.tup [(.agg [(.lst [[(.str [97]), (.int .i64 2)]]), (.lst [[(.str [102]), .nilS, .nilS, (.lst [[(.int .i64 4), (.str []), (.str []), (.int .i64 0), (.int .i64 0), (.int .i64 0), (.str []), (.int .i64 0), .nilS, (.int .i64 1), 
    (.int .i64 1), (.str []), (.int .i64 0), .nilS, .nilS, (.lst [[(.int .i64 5), (.str []), (.str []), (.int .i64 0), (.int .i64 0), (.int .i64 0), (.str []), (.int .i64 0), .nilS, (.int .i64 1), (.int .i64 7), (.str []), 
    (.int .i64 0), .nilS, .nilS, .nilS, .nilS]]), .nilS]]), (.int .i64 1), (.int .i64 0), (.str []), (.int .i64 0), .nilS], [(.str [103]), (.lst [[(.str [110])]]), .nilS, (.lst [[(.int .i64 2), (.str [97]), (.str []), (.int .i64 0), 
    (.int .i64 2), (.int .i64 0), (.str [110]), (.int .i64 0), .nilS, (.int .i64 1), (.int .i64 5), (.str []), (.int .i64 0), .nilS, .nilS, .nilS, .nilS]]), (.int .i64 4), (.int .i64 0), (.str []), (.int .i64 7), (.lst [[(.int .i64 3), 
    (.int .i64 0), (.str [97]), (.int .i64 0), (.lst [[(.int .i64 2), (.int .i64 0), (.str [110]), (.int .i64 0), .nilS]])], [(.int .i64 4), (.int .i64 0), (.str []), (.int .i64 5), (.lst [[(.int .i64 2), (.int .i64 0), (.str [110]), 
    (.int .i64 0), .nilS], [(.int .i64 1), (.int .i64 1), (.str []), (.int .i64 0), .nilS]])]])], [(.str [104]), (.lst [[(.str [110])]]), .nilS, (.lst [[(.int .i64 6), (.str [110]), (.str [103]), (.int .i64 0), (.int .i64 0), 
    (.int .i64 0), (.str []), (.int .i64 0), .nilS, (.int .i64 0), (.int .i64 0), (.str []), (.int .i64 0), .nilS, (.lst [[(.int .i64 2), (.int .i64 0), (.str [110]), (.int .i64 0), .nilS]]), .nilS, .nilS], [(.int .i64 5), (.str []), 
    (.str []), (.int .i64 0), (.int .i64 0), (.int .i64 0), (.str []), (.int .i64 0), .nilS, (.int .i64 2), (.int .i64 0), (.str [110]), (.int .i64 0), .nilS, .nilS, .nilS, .nilS]]), (.int .i64 4), (.int .i64 0), (.str []), 
    (.int .i64 4), (.lst [[(.int .i64 2), (.int .i64 0), (.str [110]), (.int .i64 0), .nilS], [(.int .i64 1), (.int .i64 1), (.str []), (.int .i64 0), .nilS]])]])]), (.agg [(.int .i64 0), (.int .i64 0)])])
theorem c1 : Con Try.prog ρ0 13 a1 r1 := Con.known fit k1 (n := 100000) (m := 100) (k := 100) (by kernel_rfl) (by kernel_rfl)
def l2 : List (FuncId × List AV × AV) := (13, a1, r1) :: l1
theorem k2 : KOk Try.prog ρ0 l2 := ⟨c1, k1⟩
def a2 : List AV := [(.agg [(.lst [[(.str [97]), (.int .i64 2)]]), (.lst [[(.str [102]), .nilS, .nilS, (.lst [[(.int .i64 4), (.str []), (.str []), (.int .i64 0), (.int .i64 0), (.int .i64 0), (.str []), (.int .i64 0), .nilS, (.int .i64 1), 
    (.int .i64 1), (.str []), (.int .i64 0), .nilS, .nilS, (.lst [[(.int .i64 5), (.str []), (.str []), (.int .i64 0), (.int .i64 0), (.int .i64 0), (.str []), (.int .i64 0), .nilS, (.int .i64 1), (.int .i64 7), (.str []), 
    (.int .i64 0), .nilS, .nilS, .nilS, .nilS]]), .nilS]]), (.int .i64 1), (.int .i64 0), (.str []), (.int .i64 0), .nilS], [(.str [103]), (.lst [[(.str [110])]]), .nilS, (.lst [[(.int .i64 2), (.str [97]), (.str []), (.int .i64 0), 
    (.int .i64 2), (.int .i64 0), (.str [110]), (.int .i64 0), .nilS, (.int .i64 1), (.int .i64 5), (.str []), (.int .i64 0), .nilS, .nilS, .nilS, .nilS]]), (.int .i64 4), (.int .i64 0), (.str []), (.int .i64 7), (.lst [[(.int .i64 3), 
    (.int .i64 0), (.str [97]), (.int .i64 0), (.lst [[(.int .i64 2), (.int .i64 0), (.str [110]), (.int .i64 0), .nilS]])], [(.int .i64 4), (.int .i64 0), (.str []), (.int .i64 5), (.lst [[(.int .i64 2), (.int .i64 0), (.str [110]), 
    (.int .i64 0), .nilS], [(.int .i64 1), (.int .i64 1), (.str []), (.int .i64 0), .nilS]])]])], [(.str [104]), (.lst [[(.str [110])]]), .nilS, (.lst [[(.int .i64 6), (.str [110]), (.str [103]), (.int .i64 0), (.int .i64 0), 
    (.int .i64 0), (.str []), (.int .i64 0), .nilS, (.int .i64 0), (.int .i64 0), (.str []), (.int .i64 0), .nilS, (.lst [[(.int .i64 2), (.int .i64 0), (.str [110]), (.int .i64 0), .nilS]]), .nilS, .nilS], [(.int .i64 5), (.str []), 
    (.str []), (.int .i64 0), (.int .i64 0), (.int .i64 0), (.str []), (.int .i64 0), .nilS, (.int .i64 2), (.int .i64 0), (.str [110]), (.int .i64 0), .nilS, .nilS, .nilS, .nilS]]), (.int .i64 4), (.int .i64 0), (.str []), 
    (.int .i64 4), (.lst [[(.int .i64 2), (.int .i64 0), (.str [110]), (.int .i64 0), .nilS], [(.int .i64 1), (.int .i64 1), (.str []), (.int .i64 0), .nilS]])]])])]
def r2 : AV := (.int .i64 0)
theorem c2 : Con Try.prog ρ0 31 a2 r2 := Con.known fit k2 (n := 100000) (m := 100) (k := 100) (by kernel_rfl) (by kernel_rfl)
def l3 : List (FuncId × List AV × AV) := (31, a2, r2) :: l2
theorem k3 : KOk Try.prog ρ0 l3 := ⟨c2, k2⟩
def a3 : List AV := [(.agg [(.lst [[(.str [97]), (.int .i64 2)]]), (.lst [[(.str [102]), .nilS, .nilS, (.lst [[(.int .i64 4), (.str []), (.str []), (.int .i64 0), (.int .i64 0), (.int .i64 0), (.str []), (.int .i64 0), .nilS, (.int .i64 1), 
    (.int .i64 1), (.str []), (.int .i64 0), .nilS, .nilS, (.lst [[(.int .i64 5), (.str []), (.str []), (.int .i64 0), (.int .i64 0), (.int .i64 0), (.str []), (.int .i64 0), .nilS, (.int .i64 1), (.int .i64 7), (.str []), 
    (.int .i64 0), .nilS, .nilS, .nilS, .nilS]]), .nilS]]), (.int .i64 1), (.int .i64 0), (.str []), (.int .i64 0), .nilS], [(.str [103]), (.lst [[(.str [110])]]), .nilS, (.lst [[(.int .i64 2), (.str [97]), (.str []), (.int .i64 0), 
    (.int .i64 2), (.int .i64 0), (.str [110]), (.int .i64 0), .nilS, (.int .i64 1), (.int .i64 5), (.str []), (.int .i64 0), .nilS, .nilS, .nilS, .nilS]]), (.int .i64 4), (.int .i64 0), (.str []), (.int .i64 7), (.lst [[(.int .i64 3), 
    (.int .i64 0), (.str [97]), (.int .i64 0), (.lst [[(.int .i64 2), (.int .i64 0), (.str [110]), (.int .i64 0), .nilS]])], [(.int .i64 4), (.int .i64 0), (.str []), (.int .i64 5), (.lst [[(.int .i64 2), (.int .i64 0), (.str [110]), 
    (.int .i64 0), .nilS], [(.int .i64 1), (.int .i64 1), (.str []), (.int .i64 0), .nilS]])]])], [(.str [104]), (.lst [[(.str [110])]]), .nilS, (.lst [[(.int .i64 6), (.str [110]), (.str [103]), (.int .i64 0), (.int .i64 0), 
    (.int .i64 0), (.str []), (.int .i64 0), .nilS, (.int .i64 0), (.int .i64 0), (.str []), (.int .i64 0), .nilS, (.lst [[(.int .i64 2), (.int .i64 0), (.str [110]), (.int .i64 0), .nilS]]), .nilS, .nilS], [(.int .i64 5), (.str []), 
    (.str []), (.int .i64 0), (.int .i64 0), (.int .i64 0), (.str []), (.int .i64 0), .nilS, (.int .i64 2), (.int .i64 0), (.str [110]), (.int .i64 0), .nilS, .nilS, .nilS, .nilS]]), (.int .i64 4), (.int .i64 0), (.str []), 
    (.int .i64 4), (.lst [[(.int .i64 2), (.int .i64 0), (.str [110]), (.int .i64 0), .nilS], [(.int .i64 1), (.int .i64 1), (.str []), (.int .i64 0), .nilS]])]])]), (.str [102]), .nilS, (.int .i64 2)]
def r3 : AV := (.agg [(.int .i64 3), (.int .i64 0), (.lst [[(.int .i64 7)], [(.int .i64 7)]]), (.int .i64 0)])
theorem c3 : Con Try.prog ρ0 18 a3 r3 := Con.known fit k3 (n := 100000) (m := 100) (k := 100) (by kernel_rfl) (by kernel_rfl)
def l4 : List (FuncId × List AV × AV) := (18, a3, r3) :: l3
theorem k4 : KOk Try.prog ρ0 l4 := ⟨c3, k3⟩
def a4 : List AV := [(.agg [(.lst [[(.str [97]), (.int .i64 2)]]), (.lst [[(.str [102]), .nilS, .nilS, (.lst [[(.int .i64 4), (.str []), (.str []), (.int .i64 0), (.int .i64 0), (.int .i64 0), (.str []), (.int .i64 0), .nilS, (.int .i64 1), 
    (.int .i64 1), (.str []), (.int .i64 0), .nilS, .nilS, (.lst [[(.int .i64 5), (.str []), (.str []), (.int .i64 0), (.int .i64 0), (.int .i64 0), (.str []), (.int .i64 0), .nilS, (.int .i64 1), (.int .i64 7), (.str []), 
    (.int .i64 0), .nilS, .nilS, .nilS, .nilS]]), .nilS]]), (.int .i64 1), (.int .i64 0), (.str []), (.int .i64 0), .nilS], [(.str [103]), (.lst [[(.str [110])]]), .nilS, (.lst [[(.int .i64 2), (.str [97]), (.str []), (.int .i64 0), 
    (.int .i64 2), (.int .i64 0), (.str [110]), (.int .i64 0), .nilS, (.int .i64 1), (.int .i64 5), (.str []), (.int .i64 0), .nilS, .nilS, .nilS, .nilS]]), (.int .i64 4), (.int .i64 0), (.str []), (.int .i64 7), (.lst [[(.int .i64 3), 
    (.int .i64 0), (.str [97]), (.int .i64 0), (.lst [[(.int .i64 2), (.int .i64 0), (.str [110]), (.int .i64 0), .nilS]])], [(.int .i64 4), (.int .i64 0), (.str []), (.int .i64 5), (.lst [[(.int .i64 2), (.int .i64 0), (.str [110]), 
    (.int .i64 0), .nilS], [(.int .i64 1), (.int .i64 1), (.str []), (.int .i64 0), .nilS]])]])], [(.str [104]), (.lst [[(.str [110])]]), .nilS, (.lst [[(.int .i64 6), (.str [110]), (.str [103]), (.int .i64 0), (.int .i64 0), 
    (.int .i64 0), (.str []), (.int .i64 0), .nilS, (.int .i64 0), (.int .i64 0), (.str []), (.int .i64 0), .nilS, (.lst [[(.int .i64 2), (.int .i64 0), (.str [110]), (.int .i64 0), .nilS]]), .nilS, .nilS], [(.int .i64 5), (.str []), 
    (.str []), (.int .i64 0), (.int .i64 0), (.int .i64 0), (.str []), (.int .i64 0), .nilS, (.int .i64 2), (.int .i64 0), (.str [110]), (.int .i64 0), .nilS, .nilS, .nilS, .nilS]]), (.int .i64 4), (.int .i64 0), (.str []), 
    (.int .i64 4), (.lst [[(.int .i64 2), (.int .i64 0), (.str [110]), (.int .i64 0), .nilS], [(.int .i64 1), (.int .i64 1), (.str []), (.int .i64 0), .nilS]])]])]), (.str [103]), (.lst [[(.int .i64 1)]]), (.int .i64 0)]
def r4 : AV := (.agg [(.int .i64 2), (.int .i64 1), .nilS, (.int .i64 0)])
theorem c4 : Con Try.prog ρ0 18 a4 r4 := Con.known fit k4 (n := 100000) (m := 100) (k := 100) (by kernel_rfl) (by kernel_rfl)
def l5 : List (FuncId × List AV × AV) := (18, a4, r4) :: l4
theorem k5 : KOk Try.prog ρ0 l5 := ⟨c4, k4⟩
def a5 : List AV := [(.agg [(.lst [[(.str [97]), (.int .i64 2)]]), (.lst [[(.str [102]), .nilS, .nilS, (.lst [[(.int .i64 4), (.str []), (.str []), (.int .i64 0), (.int .i64 0), (.int .i64 0), (.str []), (.int .i64 0), .nilS, (.int .i64 1), 
    (.int .i64 1), (.str []), (.int .i64 0), .nilS, .nilS, (.lst [[(.int .i64 5), (.str []), (.str []), (.int .i64 0), (.int .i64 0), (.int .i64 0), (.str []), (.int .i64 0), .nilS, (.int .i64 1), (.int .i64 7), (.str []), 
    (.int .i64 0), .nilS, .nilS, .nilS, .nilS]]), .nilS]]), (.int .i64 1), (.int .i64 0), (.str []), (.int .i64 0), .nilS], [(.str [103]), (.lst [[(.str [110])]]), .nilS, (.lst [[(.int .i64 2), (.str [97]), (.str []), (.int .i64 0), 
    (.int .i64 2), (.int .i64 0), (.str [110]), (.int .i64 0), .nilS, (.int .i64 1), (.int .i64 5), (.str []), (.int .i64 0), .nilS, .nilS, .nilS, .nilS]]), (.int .i64 4), (.int .i64 0), (.str []), (.int .i64 7), (.lst [[(.int .i64 3), 
    (.int .i64 0), (.str [97]), (.int .i64 0), (.lst [[(.int .i64 2), (.int .i64 0), (.str [110]), (.int .i64 0), .nilS]])], [(.int .i64 4), (.int .i64 0), (.str []), (.int .i64 5), (.lst [[(.int .i64 2), (.int .i64 0), (.str [110]), 
    (.int .i64 0), .nilS], [(.int .i64 1), (.int .i64 1), (.str []), (.int .i64 0), .nilS]])]])], [(.str [104]), (.lst [[(.str [110])]]), .nilS, (.lst [[(.int .i64 6), (.str [110]), (.str [103]), (.int .i64 0), (.int .i64 0), 
    (.int .i64 0), (.str []), (.int .i64 0), .nilS, (.int .i64 0), (.int .i64 0), (.str []), (.int .i64 0), .nilS, (.lst [[(.int .i64 2), (.int .i64 0), (.str [110]), (.int .i64 0), .nilS]]), .nilS, .nilS], [(.int .i64 5), (.str []), 
    (.str []), (.int .i64 0), (.int .i64 0), (.int .i64 0), (.str []), (.int .i64 0), .nilS, (.int .i64 2), (.int .i64 0), (.str [110]), (.int .i64 0), .nilS, .nilS, .nilS, .nilS]]), (.int .i64 4), (.int .i64 0), (.str []), 
    (.int .i64 4), (.lst [[(.int .i64 2), (.int .i64 0), (.str [110]), (.int .i64 0), .nilS], [(.int .i64 1), (.int .i64 1), (.str []), (.int .i64 0), .nilS]])]])]), (.str [103]), (.lst [[(.int .i64 2)]]), (.int .i64 0)]
def r5 : AV := (.agg [(.int .i64 2), (.int .i64 2), .nilS, (.int .i64 0)])
theorem c5 : Con Try.prog ρ0 18 a5 r5 := Con.known fit k5 (n := 100000) (m := 100) (k := 100) (by kernel_rfl) (by kernel_rfl)
def l6 : List (FuncId × List AV × AV) := (18, a5, r5) :: l5
theorem k6 : KOk Try.prog ρ0 l6 := ⟨c5, k5⟩
def a6 : List AV := [(.agg [(.lst [[(.str [97]), (.int .i64 2)]]), (.lst [[(.str [102]), .nilS, .nilS, (.lst [[(.int .i64 4), (.str []), (.str []), (.int .i64 0), (.int .i64 0), (.int .i64 0), (.str []), (.int .i64 0), .nilS, (.int .i64 1), 
    (.int .i64 1), (.str []), (.int .i64 0), .nilS, .nilS, (.lst [[(.int .i64 5), (.str []), (.str []), (.int .i64 0), (.int .i64 0), (.int .i64 0), (.str []), (.int .i64 0), .nilS, (.int .i64 1), (.int .i64 7), (.str []), 
    (.int .i64 0), .nilS, .nilS, .nilS, .nilS]]), .nilS]]), (.int .i64 1), (.int .i64 0), (.str []), (.int .i64 0), .nilS], [(.str [103]), (.lst [[(.str [110])]]), .nilS, (.lst [[(.int .i64 2), (.str [97]), (.str []), (.int .i64 0), 
    (.int .i64 2), (.int .i64 0), (.str [110]), (.int .i64 0), .nilS, (.int .i64 1), (.int .i64 5), (.str []), (.int .i64 0), .nilS, .nilS, .nilS, .nilS]]), (.int .i64 4), (.int .i64 0), (.str []), (.int .i64 7), (.lst [[(.int .i64 3), 
    (.int .i64 0), (.str [97]), (.int .i64 0), (.lst [[(.int .i64 2), (.int .i64 0), (.str [110]), (.int .i64 0), .nilS]])], [(.int .i64 4), (.int .i64 0), (.str []), (.int .i64 5), (.lst [[(.int .i64 2), (.int .i64 0), (.str [110]), 
    (.int .i64 0), .nilS], [(.int .i64 1), (.int .i64 1), (.str []), (.int .i64 0), .nilS]])]])], [(.str [104]), (.lst [[(.str [110])]]), .nilS, (.lst [[(.int .i64 6), (.str [110]), (.str [103]), (.int .i64 0), (.int .i64 0), 
    (.int .i64 0), (.str []), (.int .i64 0), .nilS, (.int .i64 0), (.int .i64 0), (.str []), (.int .i64 0), .nilS, (.lst [[(.int .i64 2), (.int .i64 0), (.str [110]), (.int .i64 0), .nilS]]), .nilS, .nilS], [(.int .i64 5), (.str []), 
    (.str []), (.int .i64 0), (.int .i64 0), (.int .i64 0), (.str []), (.int .i64 0), .nilS, (.int .i64 2), (.int .i64 0), (.str [110]), (.int .i64 0), .nilS, .nilS, .nilS, .nilS]]), (.int .i64 4), (.int .i64 0), (.str []), 
    (.int .i64 4), (.lst [[(.int .i64 2), (.int .i64 0), (.str [110]), (.int .i64 0), .nilS], [(.int .i64 1), (.int .i64 1), (.str []), (.int .i64 0), .nilS]])]])]), (.str [104]), (.lst [[(.int .i64 0)]]), (.int .i64 1)]
def r6 : AV := (.agg [(.int .i64 1), (.int .i64 0), (.lst [[(.int .i64 (-5))]]), (.int .i64 (-4))])
theorem c6 : Con Try.prog ρ0 18 a6 r6 := Con.known fit k6 (n := 100000) (m := 100) (k := 100) (by kernel_rfl) (by kernel_rfl)
def l7 : List (FuncId × List AV × AV) := (18, a6, r6) :: l6
theorem k7 : KOk Try.prog ρ0 l7 := ⟨c6, k6⟩
theorem ev_true : Res.isTrue (ev Try.prog (cfgK l7) 100000 (.call 5 [] H0)) = true := by kernel_rfl
theorem walk (w : World) :
    Calls Try.prog 5 #[] w fun e w' => e = .returned (.bool true) ∧ Below w.heap.size w w' :=
  closedK fit k7 ev_true

/-! ### THE ROW's STEP: WRITTEN OUT: LEAVE IT -/
set_option maxRecDepth 100000 in
theorem lifted (os : Os) (started : os.Started) (H : Type) (enc : TypeId × Value → H) :
    ReturnsInHanded {} Try.checked os 5 .any (Rows.interpExamplesSpec.pre6 enc Try.prog Try.f5 Rows.interpExamplesRow.domain false) (Rows.interpExamplesSpec.post enc Try.prog Try.f5 false true false false) := by
  refine returnsInHanded_of_change (C := Try.checked) own started (by kernel_rfl) Try.func5
    (ChangeSpec.witness6 (enc := enc) (C := Try.checked) false ⟨#[], #[], []⟩ 8 (by kernel_rfl) (by kernel_rfl) (by kernel_rfl) (by kernel_rfl)) ?_
  intro W base args ds gs before hval0 hW hcnd _
  have hval : ∀ (j : Nat) t v, Try.f5.params[j]? = some t → args[j]? = some v → Value.okWide Try.prog W .any base t v := hval0
  have hW' := hW
  obtain ⟨p, q, hA0, hV, rfl, hfz, hnd⟩ := hW
  have hA : DataW.TrodAll enc Try.prog W 0 (fun _ => true) true Try.f5.params.toList args.toList ds p := hA0
  rw [Try.params5] at hA hval
  obtain ⟨rfl, rfl, rfl⟩ := trodAll_none hA
  obtain ⟨rfl, rfl⟩ := trodVars_none hV
  clear hA0 hval0
  simp only [List.append_nil] at hW'
  refine (walk  W).mono fun e W' ⟨he, hg⟩ => ?_
  subst he
  exact ⟨_, rfl, post_of_below (pa := []) (pv := []) hW' (fun _ _ _ => (trodAll_cons_mk (shut_bool Try.underlying4 _) trodAll_mk0)) (fun sp _ => rfl) (fun _ _ => rfl) rfl
    hg (ok_one (by kernel_rfl) rfl (okWide_bool_mk Try.underlying4 _))⟩

theorem over : Rows.interpExamplesRow.holds Try.pinned (OpenSpec.ofChange Rows.interpExamplesSpec) :=
  OpenClaim.holds_of_wide 5 Try.f5 rfl rfl rfl rfl rfl rfl rfl ⟨rfl, rfl, rfl, rfl, rfl⟩ rfl rfl rfl rfl rfl (by kernel_rfl) Try.func5 (by kernel_rfl)
    (of_decide_eq_true (by kernel_rfl)) (by unfold Func.isWrapper; first | (rw [if_pos (by decide +kernel)]; kernel_rfl) | (rw [if_neg (by decide +kernel)]; exact ⟨rfl, rfl⟩))
    (fun os started H enc _ => lifted os started H enc)

/-- ████ THE STATEMENT ████ -/
theorem proved : Rows.InterpExamplesSaid :=
  over
#print axioms proved
end Go.Proofs.Ytjogacjoakonpaa.interpExamples
