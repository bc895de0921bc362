/-
  The Go function fullinglaw9.EvalExamples returns true whenever it is called, and leaves all memory that was there as it was. Conditions: none.
-/
import Derived.Test.YtcmcmilmfkngjaaGreatRows
import Derived.Test.YtcmcmilmfkngjaaGreatAbLaw
import Derived.WalkKit
import Derived.ProofKit
import Derived.OpenShut
namespace Go.Proofs.YtcmcmilmfkngjaaGreat.evalExamples
open Go Go.Ab Go.ChangeShapes Go.WideShapes Go.ChangeAt Go.RowKit
set_option linter.unusedVariables false

theorem own : ownKnob Tryz.prog.godebug = none := by kernel_rfl

/-! ### THE WALK -/
theorem fit : Fit Tryz.prog := Fit.of (by kernel_rfl)
def pls : List (Nat × Nat × Plan) := [(6, 4, (.perm [0, 1, 2, 4, 5, 6, 7, 11, 12, 3, 8, 9, 10, 13, 14])),
  (9, 9, (.perm [0, 1, 2, 4, 5, 8, 10, 3, 6, 7, 9, 11])),
  (9, 10, (.perm [0, 1, 2, 4, 5, 8, 10, 3, 6, 7, 9, 11])),
  (15, 22, (.perm [0, 1, 2, 3, 4, 5, 6, 7, 10, 8, 9, 11])),
  (38, 14, (.perm [0, 1, 2, 4, 5, 7, 9, 3, 6, 8, 10])),
  (82, 23, (.perm [0, 1, 2, 3, 4, 5, 6, 7, 9, 10, 11, 12, 13, 14, 8, 15, 16, 17, 18, 19])),
  (82, 24, (.perm [0, 1, 2, 3, 4, 5, 6, 8, 9, 10, 11, 12, 13, 7, 14, 15, 16])),
  (167, 13, (.perm [0, 1, 2, 3, 4, 5, 6, 8, 9, 7, 10, 11, 12])),
  (181, 23, (.perm [0, 2, 3, 4, 5, 6, 7, 1, 8, 9]))]
def ρ0 : Nat → Int := fun _ => 0
def l0 : List (FuncId × List AV × AV) := []
theorem k0 : KOk Tryz.prog ρ0 l0 := trivial
def a0 : List AV := [(.str [102, 117, 110, 99, 32, 102, 40, 120, 41, 32, 123, 32, 114, 101, 116, 117, 114, 110, 32, 49, 32, 47, 32, 120, 59, 32, 125, 32, 102, 117, 110, 99, 32, 103, 40, 110, 41, 32, 118, 97, 114, 32, 105, 32, 123, 32, 119, 104, 105, 
    108, 101, 32, 40, 105, 32, 60, 32, 110, 41, 32, 123, 32, 111, 117, 116, 32, 105, 59, 32, 105, 32, 61, 32, 105, 32, 43, 32, 49, 59, 32, 125, 32, 114, 101, 116, 117, 114, 110, 32, 105, 59, 32, 125])]
def r0 : AV := (.tup [(.lst [[(.int .i64 1), (.str [102, 117, 110, 99]), (.int .i64 0)], [(.int .i64 1), (.str [102]), (.int .i64 5)], [(.int .i64 3), (.str [40]), (.int .i64 6)], [(.int .i64 1), (.str [120]), (.int .i64 7)], [(.int .i64 3), 
    (.str [41]), (.int .i64 8)], [(.int .i64 3), (.str [123]), (.int .i64 10)], [(.int .i64 1), (.str [114, 101, 116, 117, 114, 110]), (.int .i64 12)], [(.int .i64 2), (.str [49]), (.int .i64 19)], [(.int .i64 3), (.str [47]), 
    (.int .i64 21)], [(.int .i64 1), (.str [120]), (.int .i64 23)], [(.int .i64 3), (.str [59]), (.int .i64 24)], [(.int .i64 3), (.str [125]), (.int .i64 26)], [(.int .i64 1), (.str [102, 117, 110, 99]), (.int .i64 28)], 
    [(.int .i64 1), (.str [103]), (.int .i64 33)], [(.int .i64 3), (.str [40]), (.int .i64 34)], [(.int .i64 1), (.str [110]), (.int .i64 35)], [(.int .i64 3), (.str [41]), (.int .i64 36)], [(.int .i64 1), (.str [118, 97, 114]), 
    (.int .i64 38)], [(.int .i64 1), (.str [105]), (.int .i64 42)], [(.int .i64 3), (.str [123]), (.int .i64 44)], [(.int .i64 1), (.str [119, 104, 105, 108, 101]), (.int .i64 46)], [(.int .i64 3), (.str [40]), (.int .i64 52)], 
    [(.int .i64 1), (.str [105]), (.int .i64 53)], [(.int .i64 3), (.str [60]), (.int .i64 55)], [(.int .i64 1), (.str [110]), (.int .i64 57)], [(.int .i64 3), (.str [41]), (.int .i64 58)], [(.int .i64 3), (.str [123]), 
    (.int .i64 60)], [(.int .i64 1), (.str [111, 117, 116]), (.int .i64 62)], [(.int .i64 1), (.str [105]), (.int .i64 66)], [(.int .i64 3), (.str [59]), (.int .i64 67)], [(.int .i64 1), (.str [105]), (.int .i64 69)], [(.int .i64 3), 
    (.str [61]), (.int .i64 71)], [(.int .i64 1), (.str [105]), (.int .i64 73)], [(.int .i64 3), (.str [43]), (.int .i64 75)], [(.int .i64 2), (.str [49]), (.int .i64 77)], [(.int .i64 3), (.str [59]), (.int .i64 78)], [(.int .i64 3), 
    (.str [125]), (.int .i64 80)], [(.int .i64 1), (.str [114, 101, 116, 117, 114, 110]), (.int .i64 82)], [(.int .i64 1), (.str [105]), (.int .i64 89)], [(.int .i64 3), (.str [59]), (.int .i64 90)], [(.int .i64 3), (.str [125]), 
    (.int .i64 92)]]), (.agg [(.int .i64 0), (.int .i64 0)])])
theorem c0 : Con Tryz.prog ρ0 31 a0 r0 := Con.knownP fit (pls := pls) k0 (n := 100000) (m := 100) (k := 100) (by kernel_rfl) (by kernel_rfl)
def l1 : List (FuncId × List AV × AV) := (31, a0, r0) :: l0
theorem k1 : KOk Tryz.prog ρ0 l1 := ⟨c0, k0⟩
def a1 : List AV := [(.str [102, 117, 110, 99, 32, 102, 40, 120, 41, 32, 123, 32, 114, 101, 116, 117, 114, 110, 32, 49, 32, 47, 32, 120, 59, 32, 125, 32, 102, 117, 110, 99, 32, 103, 40, 110, 41, 32, 118, 97, 114, 32, 105, 32, 123, 32, 119, 104, 105, 
    108, 101, 32, 40, 105, 32, 60, 32, 110, 41, 32, 123, 32, 111, 117, 116, 32, 105, 59, 32, 105, 32, 61, 32, 105, 32, 43, 32, 49, 59, 32, 125, 32, 114, 101, 116, 117, 114, 110, 32, 105, 59, 32, 125])]
def r1 : AV := (.tup [(.agg [.nilS, (.lst [[(.str [102]), (.lst [[(.str [120])]]), .nilS, .nilS, (.int .i64 4), (.int .i64 0), (.str []), (.int .i64 7), (.lst [[(.int .i64 1), (.int .i64 1), (.str []), (.int .i64 0), .nilS], [(.int .i64 2), 
    (.int .i64 0), (.str [120]), (.int .i64 0), .nilS]])], [(.str [103]), (.lst [[(.str [110])]]), (.lst [[(.str [105])]]), (.lst [[(.int .i64 4), (.str []), (.str []), (.int .i64 0), (.int .i64 0), (.int .i64 0), (.str []), 
    (.int .i64 0), .nilS, (.int .i64 4), (.int .i64 0), (.str []), (.int .i64 17), (.lst [[(.int .i64 2), (.int .i64 0), (.str [105]), (.int .i64 0), .nilS], [(.int .i64 2), (.int .i64 0), (.str [110]), (.int .i64 0), .nilS]]), .nilS, 
    (.lst [[(.int .i64 5), (.str []), (.str []), (.int .i64 0), (.int .i64 0), (.int .i64 0), (.str []), (.int .i64 0), .nilS, (.int .i64 2), (.int .i64 0), (.str [105]), (.int .i64 0), .nilS, .nilS, .nilS, .nilS], [(.int .i64 1), 
    (.str [105]), (.str []), (.int .i64 0), (.int .i64 0), (.int .i64 0), (.str []), (.int .i64 0), .nilS, (.int .i64 4), (.int .i64 0), (.str []), (.int .i64 4), (.lst [[(.int .i64 2), (.int .i64 0), (.str [105]), (.int .i64 0), 
    .nilS], [(.int .i64 1), (.int .i64 1), (.str []), (.int .i64 0), .nilS]]), .nilS, .nilS, .nilS]]), .nilS]]), (.int .i64 2), (.int .i64 0), (.str [105]), (.int .i64 0), .nilS]])]), (.agg [(.int .i64 0), (.int .i64 0)])])
theorem c1 : Con Tryz.prog ρ0 12 a1 r1 := Con.knownP fit (pls := pls) k1 (n := 100000) (m := 100) (k := 100) (by kernel_rfl) (by kernel_rfl)
def l2 : List (FuncId × List AV × AV) := (12, a1, r1) :: l1
theorem k2 : KOk Tryz.prog ρ0 l2 := ⟨c1, k1⟩
def a2 : List AV := [(.agg [.nilS, (.lst [[(.str [102]), (.lst [[(.str [120])]]), .nilS, .nilS, (.int .i64 4), (.int .i64 0), (.str []), (.int .i64 7), (.lst [[(.int .i64 1), (.int .i64 1), (.str []), (.int .i64 0), .nilS], [(.int .i64 2), 
    (.int .i64 0), (.str [120]), (.int .i64 0), .nilS]])], [(.str [103]), (.lst [[(.str [110])]]), (.lst [[(.str [105])]]), (.lst [[(.int .i64 4), (.str []), (.str []), (.int .i64 0), (.int .i64 0), (.int .i64 0), (.str []), 
    (.int .i64 0), .nilS, (.int .i64 4), (.int .i64 0), (.str []), (.int .i64 17), (.lst [[(.int .i64 2), (.int .i64 0), (.str [105]), (.int .i64 0), .nilS], [(.int .i64 2), (.int .i64 0), (.str [110]), (.int .i64 0), .nilS]]), .nilS, 
    (.lst [[(.int .i64 5), (.str []), (.str []), (.int .i64 0), (.int .i64 0), (.int .i64 0), (.str []), (.int .i64 0), .nilS, (.int .i64 2), (.int .i64 0), (.str [105]), (.int .i64 0), .nilS, .nilS, .nilS, .nilS], [(.int .i64 1), 
    (.str [105]), (.str []), (.int .i64 0), (.int .i64 0), (.int .i64 0), (.str []), (.int .i64 0), .nilS, (.int .i64 4), (.int .i64 0), (.str []), (.int .i64 4), (.lst [[(.int .i64 2), (.int .i64 0), (.str [105]), (.int .i64 0), 
    .nilS], [(.int .i64 1), (.int .i64 1), (.str []), (.int .i64 0), .nilS]]), .nilS, .nilS, .nilS]]), .nilS]]), (.int .i64 2), (.int .i64 0), (.str [105]), (.int .i64 0), .nilS]])])]
def r2 : AV := (.int .i64 0)
theorem c2 : Con Tryz.prog ρ0 38 a2 r2 := Con.knownP fit (pls := pls) k2 (n := 100000) (m := 100) (k := 100) (by kernel_rfl) (by kernel_rfl)
def l3 : List (FuncId × List AV × AV) := (38, a2, r2) :: l2
theorem k3 : KOk Tryz.prog ρ0 l3 := ⟨c2, k2⟩
def a3 : List AV := [(.agg [.nilS, (.lst [[(.str [102]), (.lst [[(.str [120])]]), .nilS, .nilS, (.int .i64 4), (.int .i64 0), (.str []), (.int .i64 7), (.lst [[(.int .i64 1), (.int .i64 1), (.str []), (.int .i64 0), .nilS], [(.int .i64 2), 
    (.int .i64 0), (.str [120]), (.int .i64 0), .nilS]])], [(.str [103]), (.lst [[(.str [110])]]), (.lst [[(.str [105])]]), (.lst [[(.int .i64 4), (.str []), (.str []), (.int .i64 0), (.int .i64 0), (.int .i64 0), (.str []), 
    (.int .i64 0), .nilS, (.int .i64 4), (.int .i64 0), (.str []), (.int .i64 17), (.lst [[(.int .i64 2), (.int .i64 0), (.str [105]), (.int .i64 0), .nilS], [(.int .i64 2), (.int .i64 0), (.str [110]), (.int .i64 0), .nilS]]), .nilS, 
    (.lst [[(.int .i64 5), (.str []), (.str []), (.int .i64 0), (.int .i64 0), (.int .i64 0), (.str []), (.int .i64 0), .nilS, (.int .i64 2), (.int .i64 0), (.str [105]), (.int .i64 0), .nilS, .nilS, .nilS, .nilS], [(.int .i64 1), 
    (.str [105]), (.str []), (.int .i64 0), (.int .i64 0), (.int .i64 0), (.str []), (.int .i64 0), .nilS, (.int .i64 4), (.int .i64 0), (.str []), (.int .i64 4), (.lst [[(.int .i64 2), (.int .i64 0), (.str [105]), (.int .i64 0), 
    .nilS], [(.int .i64 1), (.int .i64 1), (.str []), (.int .i64 0), .nilS]]), .nilS, .nilS, .nilS]]), .nilS]]), (.int .i64 2), (.int .i64 0), (.str [105]), (.int .i64 0), .nilS]])])]
def r3 : AV := (.tup [(.agg [(.lst []), (.lst [[(.str [102]), (.int .i64 1), (.lst [[(.int .i64 26), (.int .i64 0), (.lst [])], [(.int .i64 2), (.int .i64 0), (.lst [])], [(.int .i64 1), (.int .i64 1), (.lst [])], [(.int .i64 1), (.int .i64 0), 
    (.lst [])], [(.int .i64 16), (.int .i64 0), (.lst [[(.int .i64 1)], [(.int .i64 3)]])], [(.int .i64 27), (.int .i64 1), (.lst [[(.int .i64 0)], [(.int .i64 4)]])], [(.int .i64 7), (.int .i64 0), (.lst [[(.int .i64 2)], 
    [(.int .i64 1)]])]]), (.int .i64 6), (.int .i64 5)], [(.str [103]), (.int .i64 1), (.lst [[(.int .i64 26), (.int .i64 0), (.lst [])], [(.int .i64 2), (.int .i64 0), (.lst [])], [(.int .i64 1), (.int .i64 0), (.lst [])], 
    [(.int .i64 17), (.int .i64 0), (.lst [[(.int .i64 2)], [(.int .i64 1)]])], [(.int .i64 3), (.int .i64 0), (.lst [])], [(.int .i64 3), (.int .i64 1), (.lst [])], [(.int .i64 29), (.int .i64 0), (.lst [[(.int .i64 4)], 
    [(.int .i64 5)]])], [(.int .i64 1), (.int .i64 1), (.lst [])], [(.int .i64 4), (.int .i64 0), (.lst [[(.int .i64 5)], [(.int .i64 7)]])], [(.int .i64 17), (.int .i64 0), (.lst [[(.int .i64 8)], [(.int .i64 1)]])], [(.int .i64 31), 
    (.int .i64 0), (.lst [[(.int .i64 0)], [(.int .i64 2)], [(.int .i64 9)], [(.int .i64 6)], [(.int .i64 8)]])], [(.int .i64 25), (.int .i64 0), (.lst [[(.int .i64 10)]])], [(.int .i64 22), (.int .i64 0), (.lst [[(.int .i64 3)], 
    [(.int .i64 11)], [(.int .i64 0)]])], [(.int .i64 25), (.int .i64 1), (.lst [[(.int .i64 10)]])], [(.int .i64 22), (.int .i64 0), (.lst [[(.int .i64 3)], [(.int .i64 13)], [(.int .i64 2)]])]]), (.int .i64 14), (.int .i64 12)]])]), 
    (.int .i64 0)])
theorem c3 : Con Tryz.prog ρ0 13 a3 r3 := Con.knownP fit (pls := pls) k3 (n := 100000) (m := 100) (k := 100) (by kernel_rfl) (by kernel_rfl)
def l4 : List (FuncId × List AV × AV) := (13, a3, r3) :: l3
theorem k4 : KOk Tryz.prog ρ0 l4 := ⟨c3, k3⟩
def a4 : List AV := [(.agg [(.lst []), (.lst [[(.str [102]), (.int .i64 1), (.lst [[(.int .i64 26), (.int .i64 0), (.lst [])], [(.int .i64 2), (.int .i64 0), (.lst [])], [(.int .i64 1), (.int .i64 1), (.lst [])], [(.int .i64 1), (.int .i64 0), 
    (.lst [])], [(.int .i64 16), (.int .i64 0), (.lst [[(.int .i64 1)], [(.int .i64 3)]])], [(.int .i64 27), (.int .i64 1), (.lst [[(.int .i64 0)], [(.int .i64 4)]])], [(.int .i64 7), (.int .i64 0), (.lst [[(.int .i64 2)], 
    [(.int .i64 1)]])]]), (.int .i64 6), (.int .i64 5)], [(.str [103]), (.int .i64 1), (.lst [[(.int .i64 26), (.int .i64 0), (.lst [])], [(.int .i64 2), (.int .i64 0), (.lst [])], [(.int .i64 1), (.int .i64 0), (.lst [])], 
    [(.int .i64 17), (.int .i64 0), (.lst [[(.int .i64 2)], [(.int .i64 1)]])], [(.int .i64 3), (.int .i64 0), (.lst [])], [(.int .i64 3), (.int .i64 1), (.lst [])], [(.int .i64 29), (.int .i64 0), (.lst [[(.int .i64 4)], 
    [(.int .i64 5)]])], [(.int .i64 1), (.int .i64 1), (.lst [])], [(.int .i64 4), (.int .i64 0), (.lst [[(.int .i64 5)], [(.int .i64 7)]])], [(.int .i64 17), (.int .i64 0), (.lst [[(.int .i64 8)], [(.int .i64 1)]])], [(.int .i64 31), 
    (.int .i64 0), (.lst [[(.int .i64 0)], [(.int .i64 2)], [(.int .i64 9)], [(.int .i64 6)], [(.int .i64 8)]])], [(.int .i64 25), (.int .i64 0), (.lst [[(.int .i64 10)]])], [(.int .i64 22), (.int .i64 0), (.lst [[(.int .i64 3)], 
    [(.int .i64 11)], [(.int .i64 0)]])], [(.int .i64 25), (.int .i64 1), (.lst [[(.int .i64 10)]])], [(.int .i64 22), (.int .i64 0), (.lst [[(.int .i64 3)], [(.int .i64 13)], [(.int .i64 2)]])]]), (.int .i64 14), (.int .i64 12)]])])]
def r4 : AV := (.bool true)
theorem c4 : Con Tryz.prog ρ0 42 a4 r4 := Con.knownP fit (pls := pls) k4 (n := 100000) (m := 100) (k := 100) (by kernel_rfl) (by kernel_rfl)
def l5 : List (FuncId × List AV × AV) := (42, a4, r4) :: l4
theorem k5 : KOk Tryz.prog ρ0 l5 := ⟨c4, k4⟩
def a5 : List AV := [(.agg [(.lst []), (.lst [[(.str [102]), (.int .i64 1), (.lst [[(.int .i64 26), (.int .i64 0), (.lst [])], [(.int .i64 2), (.int .i64 0), (.lst [])], [(.int .i64 1), (.int .i64 1), (.lst [])], [(.int .i64 1), (.int .i64 0), 
    (.lst [])], [(.int .i64 16), (.int .i64 0), (.lst [[(.int .i64 1)], [(.int .i64 3)]])], [(.int .i64 27), (.int .i64 1), (.lst [[(.int .i64 0)], [(.int .i64 4)]])], [(.int .i64 7), (.int .i64 0), (.lst [[(.int .i64 2)], 
    [(.int .i64 1)]])]]), (.int .i64 6), (.int .i64 5)], [(.str [103]), (.int .i64 1), (.lst [[(.int .i64 26), (.int .i64 0), (.lst [])], [(.int .i64 2), (.int .i64 0), (.lst [])], [(.int .i64 1), (.int .i64 0), (.lst [])], 
    [(.int .i64 17), (.int .i64 0), (.lst [[(.int .i64 2)], [(.int .i64 1)]])], [(.int .i64 3), (.int .i64 0), (.lst [])], [(.int .i64 3), (.int .i64 1), (.lst [])], [(.int .i64 29), (.int .i64 0), (.lst [[(.int .i64 4)], 
    [(.int .i64 5)]])], [(.int .i64 1), (.int .i64 1), (.lst [])], [(.int .i64 4), (.int .i64 0), (.lst [[(.int .i64 5)], [(.int .i64 7)]])], [(.int .i64 17), (.int .i64 0), (.lst [[(.int .i64 8)], [(.int .i64 1)]])], [(.int .i64 31), 
    (.int .i64 0), (.lst [[(.int .i64 0)], [(.int .i64 2)], [(.int .i64 9)], [(.int .i64 6)], [(.int .i64 8)]])], [(.int .i64 25), (.int .i64 0), (.lst [[(.int .i64 10)]])], [(.int .i64 22), (.int .i64 0), (.lst [[(.int .i64 3)], 
    [(.int .i64 11)], [(.int .i64 0)]])], [(.int .i64 25), (.int .i64 1), (.lst [[(.int .i64 10)]])], [(.int .i64 22), (.int .i64 0), (.lst [[(.int .i64 3)], [(.int .i64 13)], [(.int .i64 2)]])]]), (.int .i64 14), (.int .i64 12)]])]), 
    (.str [102]), (.lst [[(.int .i64 0)]]), (.int .i64 0)]
def r5 : AV := (.agg [(.int .i64 2), (.int .i64 1), (.lst []), (.int .i64 0)])
theorem c5 : Con Tryz.prog ρ0 15 a5 r5 := Con.knownP fit (pls := pls) k5 (n := 100000) (m := 100) (k := 100) (by kernel_rfl) (by kernel_rfl)
def l6 : List (FuncId × List AV × AV) := (15, a5, r5) :: l5
theorem k6 : KOk Tryz.prog ρ0 l6 := ⟨c5, k5⟩
def a6 : List AV := [(.agg [(.lst []), (.lst [[(.str [102]), (.int .i64 1), (.lst [[(.int .i64 26), (.int .i64 0), (.lst [])], [(.int .i64 2), (.int .i64 0), (.lst [])], [(.int .i64 1), (.int .i64 1), (.lst [])], [(.int .i64 1), (.int .i64 0), 
    (.lst [])], [(.int .i64 16), (.int .i64 0), (.lst [[(.int .i64 1)], [(.int .i64 3)]])], [(.int .i64 27), (.int .i64 1), (.lst [[(.int .i64 0)], [(.int .i64 4)]])], [(.int .i64 7), (.int .i64 0), (.lst [[(.int .i64 2)], 
    [(.int .i64 1)]])]]), (.int .i64 6), (.int .i64 5)], [(.str [103]), (.int .i64 1), (.lst [[(.int .i64 26), (.int .i64 0), (.lst [])], [(.int .i64 2), (.int .i64 0), (.lst [])], [(.int .i64 1), (.int .i64 0), (.lst [])], 
    [(.int .i64 17), (.int .i64 0), (.lst [[(.int .i64 2)], [(.int .i64 1)]])], [(.int .i64 3), (.int .i64 0), (.lst [])], [(.int .i64 3), (.int .i64 1), (.lst [])], [(.int .i64 29), (.int .i64 0), (.lst [[(.int .i64 4)], 
    [(.int .i64 5)]])], [(.int .i64 1), (.int .i64 1), (.lst [])], [(.int .i64 4), (.int .i64 0), (.lst [[(.int .i64 5)], [(.int .i64 7)]])], [(.int .i64 17), (.int .i64 0), (.lst [[(.int .i64 8)], [(.int .i64 1)]])], [(.int .i64 31), 
    (.int .i64 0), (.lst [[(.int .i64 0)], [(.int .i64 2)], [(.int .i64 9)], [(.int .i64 6)], [(.int .i64 8)]])], [(.int .i64 25), (.int .i64 0), (.lst [[(.int .i64 10)]])], [(.int .i64 22), (.int .i64 0), (.lst [[(.int .i64 3)], 
    [(.int .i64 11)], [(.int .i64 0)]])], [(.int .i64 25), (.int .i64 1), (.lst [[(.int .i64 10)]])], [(.int .i64 22), (.int .i64 0), (.lst [[(.int .i64 3)], [(.int .i64 13)], [(.int .i64 2)]])]]), (.int .i64 14), (.int .i64 12)]])]), 
    (.str [103]), (.lst [[(.int .i64 2)]]), (.int .i64 5)]
def r6 : AV := (.agg [(.int .i64 1), (.int .i64 0), (.lst [[(.int .i64 0)], [(.int .i64 1)]]), (.int .i64 2)])
theorem c6 : Con Tryz.prog ρ0 15 a6 r6 := Con.knownP fit (pls := pls) k6 (n := 100000) (m := 100) (k := 100) (by kernel_rfl) (by kernel_rfl)
def l7 : List (FuncId × List AV × AV) := (15, a6, r6) :: l6
theorem k7 : KOk Tryz.prog ρ0 l7 := ⟨c6, k6⟩
def a7 : List AV := [(.agg [(.lst []), (.lst [[(.str [102]), (.int .i64 1), (.lst [[(.int .i64 26), (.int .i64 0), (.lst [])], [(.int .i64 2), (.int .i64 0), (.lst [])], [(.int .i64 1), (.int .i64 1), (.lst [])], [(.int .i64 1), (.int .i64 0), 
    (.lst [])], [(.int .i64 16), (.int .i64 0), (.lst [[(.int .i64 1)], [(.int .i64 3)]])], [(.int .i64 27), (.int .i64 1), (.lst [[(.int .i64 0)], [(.int .i64 4)]])], [(.int .i64 7), (.int .i64 0), (.lst [[(.int .i64 2)], 
    [(.int .i64 1)]])]]), (.int .i64 6), (.int .i64 5)], [(.str [103]), (.int .i64 1), (.lst [[(.int .i64 26), (.int .i64 0), (.lst [])], [(.int .i64 2), (.int .i64 0), (.lst [])], [(.int .i64 1), (.int .i64 0), (.lst [])], 
    [(.int .i64 17), (.int .i64 0), (.lst [[(.int .i64 2)], [(.int .i64 1)]])], [(.int .i64 3), (.int .i64 0), (.lst [])], [(.int .i64 3), (.int .i64 1), (.lst [])], [(.int .i64 29), (.int .i64 0), (.lst [[(.int .i64 4)], 
    [(.int .i64 5)]])], [(.int .i64 1), (.int .i64 1), (.lst [])], [(.int .i64 4), (.int .i64 0), (.lst [[(.int .i64 5)], [(.int .i64 7)]])], [(.int .i64 17), (.int .i64 0), (.lst [[(.int .i64 8)], [(.int .i64 1)]])], [(.int .i64 31), 
    (.int .i64 0), (.lst [[(.int .i64 0)], [(.int .i64 2)], [(.int .i64 9)], [(.int .i64 6)], [(.int .i64 8)]])], [(.int .i64 25), (.int .i64 0), (.lst [[(.int .i64 10)]])], [(.int .i64 22), (.int .i64 0), (.lst [[(.int .i64 3)], 
    [(.int .i64 11)], [(.int .i64 0)]])], [(.int .i64 25), (.int .i64 1), (.lst [[(.int .i64 10)]])], [(.int .i64 22), (.int .i64 0), (.lst [[(.int .i64 3)], [(.int .i64 13)], [(.int .i64 2)]])]]), (.int .i64 14), (.int .i64 12)]])]), 
    (.str [103]), (.lst [[(.int .i64 9)]]), (.int .i64 1)]
def r7 : AV := (.agg [(.int .i64 3), (.int .i64 0), (.lst [[(.int .i64 0)]]), (.int .i64 0)])
theorem c7 : Con Tryz.prog ρ0 15 a7 r7 := Con.knownP fit (pls := pls) k7 (n := 100000) (m := 100) (k := 100) (by kernel_rfl) (by kernel_rfl)
def l8 : List (FuncId × List AV × AV) := (15, a7, r7) :: l7
theorem k8 : KOk Tryz.prog ρ0 l8 := ⟨c7, k7⟩
theorem ev_true : Res.isTrue (ev Tryz.prog (cfgP pls l8) 100000 (.call 3 [] H0)) = true := by kernel_rfl
theorem walk (w : World) :
    Calls Tryz.prog 3 #[] w fun e w' => e = .returned (.bool true) ∧ Below w.heap.size w w' :=
  closedP fit k8 ev_true

/-! ### THE ROW's STEP: WRITTEN OUT: LEAVE IT -/
set_option maxRecDepth 100000 in
theorem lifted (os : Os) (started : os.Started) (H : Type) (enc : TypeId × Value → H) :
    ReturnsInHanded {} Tryz.checked os 3 .any (Rows.evalExamplesSpec.pre6 enc Tryz.prog Tryz.f3 Rows.evalExamplesRow.domain false) (Rows.evalExamplesSpec.post enc Tryz.prog Tryz.f3 false true false false) := by
  refine returnsInHanded_of_change (C := Tryz.checked) own started (by kernel_rfl) Tryz.func3
    (ChangeSpec.witness6 (enc := enc) (C := Tryz.checked) false ⟨#[], #[], []⟩ 8 (by kernel_rfl) (by kernel_rfl) (by kernel_rfl) (by kernel_rfl)) ?_
  intro W base args ds gs before hval0 hW hcnd _
  have hval : ∀ (j : Nat) t v, Tryz.f3.params[j]? = some t → args[j]? = some v → Value.okWide Tryz.prog W .any base t v := hval0
  have hW' := hW
  obtain ⟨p, q, hA0, hV, rfl, hfz, hnd⟩ := hW
  have hA : DataW.TrodAll enc Tryz.prog W 0 (fun _ => true) true Tryz.f3.params.toList args.toList ds p := hA0
  rw [Tryz.params3] at hA hval
  obtain ⟨rfl, rfl, rfl⟩ := trodAll_none hA
  obtain ⟨rfl, rfl⟩ := trodVars_none hV
  clear hA0 hval0
  simp only [List.append_nil] at hW'
  refine (walk  W).mono fun e W' ⟨he, hg⟩ => ?_
  subst he
  exact ⟨_, rfl, post_of_below (pa := []) (pv := []) hW' (fun _ _ _ => (trodAll_cons_mk (shut_bool Tryz.underlying4 _) trodAll_mk0)) (fun sp _ => rfl) (fun _ _ => rfl) rfl
    hg (ok_one (by kernel_rfl) rfl (okWide_bool_mk Tryz.underlying4 _))⟩

theorem over : Rows.evalExamplesRow.holds Tryz.pinned (OpenSpec.ofChange Rows.evalExamplesSpec) :=
  OpenClaim.holds_of_wide 3 Tryz.f3 rfl rfl rfl rfl rfl rfl rfl ⟨rfl, rfl, rfl, rfl, rfl⟩ rfl rfl rfl rfl rfl (by kernel_rfl) Tryz.func3 (by kernel_rfl)
    (of_decide_eq_true (by kernel_rfl)) (by unfold Func.isWrapper; first | (rw [if_pos (by decide +kernel)]; kernel_rfl) | (rw [if_neg (by decide +kernel)]; exact ⟨rfl, rfl⟩))
    (fun os started H enc _ => lifted os started H enc)

/-- ████ THE STATEMENT ████ -/
theorem proved : Rows.EvalExamplesSaid :=
  over
#print axioms proved
end Go.Proofs.YtcmcmilmfkngjaaGreat.evalExamples
