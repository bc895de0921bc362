/-
  Calls of fulling/ScheduleExamples, boxed one by one: each a theorem of its own. Conditions: none.
-/
import Derived.Test.YtnajiakoijdhoaaGreatDoorRows
import Derived.Test.YtnajiakoijdhoaaGreatDoorAbLaw
import Derived.WalkKit
import Derived.ProofKit
import Derived.OpenShut
namespace Go.Proofs.YtnajiakoijdhoaaGreatDoor.scheduleExamplesRun
open Go Go.Ab Go.ChangeShapes Go.WideShapes Go.ChangeAt Go.RowKit
set_option linter.unusedVariables false
theorem fit : Fit Tryz.prog := Fit.of (by kernel_rfl)
def pls : List (Nat × Nat × Plan) := [(24, 7, (.perm [0, 1, 2, 3, 4, 5, 6, 7, 12, 8, 9, 10, 11, 13, 14])),
  (34, 14, (.perm [0, 1, 2, 4, 5, 7, 9, 3, 6, 8, 10])),
  (42, 16, (.perm [0, 1, 2, 3, 4, 5, 6, 8, 9, 7, 10, 11, 12])),
  (42, 28, (.perm [0, 1, 2, 3, 4, 6, 7, 5, 8, 9, 10])),
  (42, 32, (.perm [0, 1, 2, 3, 4, 6, 7, 5, 8, 9, 10])),
  (76, 23, (.perm [0, 1, 2, 3, 4, 5, 6, 7, 9, 10, 11, 12, 13, 14, 8, 15, 16, 17, 18, 19])),
  (76, 24, (.perm [0, 1, 2, 3, 4, 5, 6, 8, 9, 10, 11, 12, 13, 7, 14, 15, 16])),
  (85, 1, (.perm [0, 1, 2, 3, 4, 6, 7, 8, 9, 10, 5, 11, 12, 13, 14]))]
def ρ0 : Nat → Int := fun _ => 0
def l0 : List (FuncId × List AV × AV) := []
theorem k0 : KOk Tryz.prog ρ0 l0 := trivial
def a0 : List AV := [(.str [102, 117, 110, 99, 32, 102, 40, 120, 41, 32, 123, 32, 111, 117, 116, 32, 120, 59, 32, 114, 101, 116, 117, 114, 110, 32, 120, 32, 43, 32, 49, 59, 32, 125, 32, 102, 117, 110, 99, 32, 103, 40, 110, 41, 32, 118, 97, 114, 32, 
    105, 32, 123, 32, 119, 104, 105, 108, 101, 32, 40, 105, 32, 60, 32, 110, 41, 32, 123, 32, 105, 32, 61, 32, 105, 32, 43, 32, 49, 59, 32, 125, 32, 114, 101, 116, 117, 114, 110, 32, 105, 59, 32, 125])]
def r0 : AV := (.tup [(.lst [[(.int .i64 1), (.str [102, 117, 110, 99]), (.int .i64 0)], [(.int .i64 1), (.str [102]), (.int .i64 5)], [(.int .i64 3), (.str [40]), (.int .i64 6)], [(.int .i64 1), (.str [120]), (.int .i64 7)], [(.int .i64 3), 
    (.str [41]), (.int .i64 8)], [(.int .i64 3), (.str [123]), (.int .i64 10)], [(.int .i64 1), (.str [111, 117, 116]), (.int .i64 12)], [(.int .i64 1), (.str [120]), (.int .i64 16)], [(.int .i64 3), (.str [59]), (.int .i64 17)], 
    [(.int .i64 1), (.str [114, 101, 116, 117, 114, 110]), (.int .i64 19)], [(.int .i64 1), (.str [120]), (.int .i64 26)], [(.int .i64 3), (.str [43]), (.int .i64 28)], [(.int .i64 2), (.str [49]), (.int .i64 30)], [(.int .i64 3), 
    (.str [59]), (.int .i64 31)], [(.int .i64 3), (.str [125]), (.int .i64 33)], [(.int .i64 1), (.str [102, 117, 110, 99]), (.int .i64 35)], [(.int .i64 1), (.str [103]), (.int .i64 40)], [(.int .i64 3), (.str [40]), (.int .i64 41)], 
    [(.int .i64 1), (.str [110]), (.int .i64 42)], [(.int .i64 3), (.str [41]), (.int .i64 43)], [(.int .i64 1), (.str [118, 97, 114]), (.int .i64 45)], [(.int .i64 1), (.str [105]), (.int .i64 49)], [(.int .i64 3), (.str [123]), 
    (.int .i64 51)], [(.int .i64 1), (.str [119, 104, 105, 108, 101]), (.int .i64 53)], [(.int .i64 3), (.str [40]), (.int .i64 59)], [(.int .i64 1), (.str [105]), (.int .i64 60)], [(.int .i64 3), (.str [60]), (.int .i64 62)], 
    [(.int .i64 1), (.str [110]), (.int .i64 64)], [(.int .i64 3), (.str [41]), (.int .i64 65)], [(.int .i64 3), (.str [123]), (.int .i64 67)], [(.int .i64 1), (.str [105]), (.int .i64 69)], [(.int .i64 3), (.str [61]), 
    (.int .i64 71)], [(.int .i64 1), (.str [105]), (.int .i64 73)], [(.int .i64 3), (.str [43]), (.int .i64 75)], [(.int .i64 2), (.str [49]), (.int .i64 77)], [(.int .i64 3), (.str [59]), (.int .i64 78)], [(.int .i64 3), (.str [125]), 
    (.int .i64 80)], [(.int .i64 1), (.str [114, 101, 116, 117, 114, 110]), (.int .i64 82)], [(.int .i64 1), (.str [105]), (.int .i64 89)], [(.int .i64 3), (.str [59]), (.int .i64 90)], [(.int .i64 3), (.str [125]), (.int .i64 92)]]), 
    (.agg [(.int .i64 0), (.int .i64 0)])])
theorem c0 : Con Tryz.prog ρ0 27 a0 r0 := Con.knownP fit (pls := pls) k0 (n := 100000) (m := 100) (k := 100) (by kernel_rfl) (by kernel_rfl)
def l1 : List (FuncId × List AV × AV) := (27, a0, r0) :: l0
theorem k1 : KOk Tryz.prog ρ0 l1 := ⟨c0, k0⟩
def a1 : List AV := [(.str [102, 117, 110, 99, 32, 102, 40, 120, 41, 32, 123, 32, 111, 117, 116, 32, 120, 59, 32, 114, 101, 116, 117, 114, 110, 32, 120, 32, 43, 32, 49, 59, 32, 125, 32, 102, 117, 110, 99, 32, 103, 40, 110, 41, 32, 118, 97, 114, 32, 
    105, 32, 123, 32, 119, 104, 105, 108, 101, 32, 40, 105, 32, 60, 32, 110, 41, 32, 123, 32, 105, 32, 61, 32, 105, 32, 43, 32, 49, 59, 32, 125, 32, 114, 101, 116, 117, 114, 110, 32, 105, 59, 32, 125])]
def r1 : AV := (.tup [(.agg [.nilS, (.lst [[(.str [102]), (.lst [[(.str [120])]]), .nilS, (.lst [[(.int .i64 5), (.str []), (.str []), (.int .i64 0), (.int .i64 0), (.int .i64 0), (.str []), (.int .i64 0), .nilS, (.int .i64 2), (.int .i64 0), 
    (.str [120]), (.int .i64 0), .nilS, .nilS, .nilS, .nilS]]), (.int .i64 4), (.int .i64 0), (.str []), (.int .i64 4), (.lst [[(.int .i64 2), (.int .i64 0), (.str [120]), (.int .i64 0), .nilS], [(.int .i64 1), (.int .i64 1), 
    (.str []), (.int .i64 0), .nilS]])], [(.str [103]), (.lst [[(.str [110])]]), (.lst [[(.str [105])]]), (.lst [[(.int .i64 4), (.str []), (.str []), (.int .i64 0), (.int .i64 0), (.int .i64 0), (.str []), (.int .i64 0), .nilS, 
    (.int .i64 4), (.int .i64 0), (.str []), (.int .i64 17), (.lst [[(.int .i64 2), (.int .i64 0), (.str [105]), (.int .i64 0), .nilS], [(.int .i64 2), (.int .i64 0), (.str [110]), (.int .i64 0), .nilS]]), .nilS, (.lst [[(.int .i64 1), 
    (.str [105]), (.str []), (.int .i64 0), (.int .i64 0), (.int .i64 0), (.str []), (.int .i64 0), .nilS, (.int .i64 4), (.int .i64 0), (.str []), (.int .i64 4), (.lst [[(.int .i64 2), (.int .i64 0), (.str [105]), (.int .i64 0), 
    .nilS], [(.int .i64 1), (.int .i64 1), (.str []), (.int .i64 0), .nilS]]), .nilS, .nilS, .nilS]]), .nilS]]), (.int .i64 2), (.int .i64 0), (.str [105]), (.int .i64 0), .nilS]])]), (.agg [(.int .i64 0), (.int .i64 0)])])
theorem c1 : Con Tryz.prog ρ0 13 a1 r1 := Con.knownP fit (pls := pls) k1 (n := 100000) (m := 100) (k := 100) (by kernel_rfl) (by kernel_rfl)
def l2 : List (FuncId × List AV × AV) := (13, a1, r1) :: l1
theorem k2 : KOk Tryz.prog ρ0 l2 := ⟨c1, k1⟩
def a2 : List AV := [(.agg [.nilS, (.lst [[(.str [102]), (.lst [[(.str [120])]]), .nilS, (.lst [[(.int .i64 5), (.str []), (.str []), (.int .i64 0), (.int .i64 0), (.int .i64 0), (.str []), (.int .i64 0), .nilS, (.int .i64 2), (.int .i64 0), 
    (.str [120]), (.int .i64 0), .nilS, .nilS, .nilS, .nilS]]), (.int .i64 4), (.int .i64 0), (.str []), (.int .i64 4), (.lst [[(.int .i64 2), (.int .i64 0), (.str [120]), (.int .i64 0), .nilS], [(.int .i64 1), (.int .i64 1), 
    (.str []), (.int .i64 0), .nilS]])], [(.str [103]), (.lst [[(.str [110])]]), (.lst [[(.str [105])]]), (.lst [[(.int .i64 4), (.str []), (.str []), (.int .i64 0), (.int .i64 0), (.int .i64 0), (.str []), (.int .i64 0), .nilS, 
    (.int .i64 4), (.int .i64 0), (.str []), (.int .i64 17), (.lst [[(.int .i64 2), (.int .i64 0), (.str [105]), (.int .i64 0), .nilS], [(.int .i64 2), (.int .i64 0), (.str [110]), (.int .i64 0), .nilS]]), .nilS, (.lst [[(.int .i64 1), 
    (.str [105]), (.str []), (.int .i64 0), (.int .i64 0), (.int .i64 0), (.str []), (.int .i64 0), .nilS, (.int .i64 4), (.int .i64 0), (.str []), (.int .i64 4), (.lst [[(.int .i64 2), (.int .i64 0), (.str [105]), (.int .i64 0), 
    .nilS], [(.int .i64 1), (.int .i64 1), (.str []), (.int .i64 0), .nilS]]), .nilS, .nilS, .nilS]]), .nilS]]), (.int .i64 2), (.int .i64 0), (.str [105]), (.int .i64 0), .nilS]])])]
def r2 : AV := (.int .i64 0)
theorem c2 : Con Tryz.prog ρ0 34 a2 r2 := Con.knownP fit (pls := pls) k2 (n := 100000) (m := 100) (k := 100) (by kernel_rfl) (by kernel_rfl)
def l3 : List (FuncId × List AV × AV) := (34, a2, r2) :: l2
theorem k3 : KOk Tryz.prog ρ0 l3 := ⟨c2, k2⟩
def a3 : List AV := [(.agg [.nilS, (.lst [[(.str [102]), (.lst [[(.str [120])]]), .nilS, (.lst [[(.int .i64 5), (.str []), (.str []), (.int .i64 0), (.int .i64 0), (.int .i64 0), (.str []), (.int .i64 0), .nilS, (.int .i64 2), (.int .i64 0), 
    (.str [120]), (.int .i64 0), .nilS, .nilS, .nilS, .nilS]]), (.int .i64 4), (.int .i64 0), (.str []), (.int .i64 4), (.lst [[(.int .i64 2), (.int .i64 0), (.str [120]), (.int .i64 0), .nilS], [(.int .i64 1), (.int .i64 1), 
    (.str []), (.int .i64 0), .nilS]])], [(.str [103]), (.lst [[(.str [110])]]), (.lst [[(.str [105])]]), (.lst [[(.int .i64 4), (.str []), (.str []), (.int .i64 0), (.int .i64 0), (.int .i64 0), (.str []), (.int .i64 0), .nilS, 
    (.int .i64 4), (.int .i64 0), (.str []), (.int .i64 17), (.lst [[(.int .i64 2), (.int .i64 0), (.str [105]), (.int .i64 0), .nilS], [(.int .i64 2), (.int .i64 0), (.str [110]), (.int .i64 0), .nilS]]), .nilS, (.lst [[(.int .i64 1), 
    (.str [105]), (.str []), (.int .i64 0), (.int .i64 0), (.int .i64 0), (.str []), (.int .i64 0), .nilS, (.int .i64 4), (.int .i64 0), (.str []), (.int .i64 4), (.lst [[(.int .i64 2), (.int .i64 0), (.str [105]), (.int .i64 0), 
    .nilS], [(.int .i64 1), (.int .i64 1), (.str []), (.int .i64 0), .nilS]]), .nilS, .nilS, .nilS]]), .nilS]]), (.int .i64 2), (.int .i64 0), (.str [105]), (.int .i64 0), .nilS]])])]
def r3 : AV := (.tup [(.agg [(.lst []), (.lst [[(.str [102]), (.int .i64 1), (.lst [[(.int .i64 26), (.int .i64 0), (.lst [])], [(.int .i64 2), (.int .i64 0), (.lst [])], [(.int .i64 29), (.int .i64 0), (.lst [[(.int .i64 0)], [(.int .i64 1)]])], 
    [(.int .i64 1), (.int .i64 1), (.lst [])], [(.int .i64 4), (.int .i64 0), (.lst [[(.int .i64 1)], [(.int .i64 3)]])]]), (.int .i64 4), (.int .i64 2)], [(.str [103]), (.int .i64 1), (.lst [[(.int .i64 26), (.int .i64 0), (.lst [])], 
    [(.int .i64 2), (.int .i64 0), (.lst [])], [(.int .i64 1), (.int .i64 0), (.lst [])], [(.int .i64 17), (.int .i64 0), (.lst [[(.int .i64 2)], [(.int .i64 1)]])], [(.int .i64 3), (.int .i64 0), (.lst [])], [(.int .i64 3), 
    (.int .i64 1), (.lst [])], [(.int .i64 1), (.int .i64 1), (.lst [])], [(.int .i64 4), (.int .i64 0), (.lst [[(.int .i64 5)], [(.int .i64 6)]])], [(.int .i64 17), (.int .i64 0), (.lst [[(.int .i64 7)], [(.int .i64 1)]])], 
    [(.int .i64 31), (.int .i64 0), (.lst [[(.int .i64 0)], [(.int .i64 2)], [(.int .i64 8)], [(.int .i64 4)], [(.int .i64 7)]])], [(.int .i64 25), (.int .i64 0), (.lst [[(.int .i64 9)]])], [(.int .i64 22), (.int .i64 0), 
    (.lst [[(.int .i64 3)], [(.int .i64 10)], [(.int .i64 0)]])], [(.int .i64 25), (.int .i64 1), (.lst [[(.int .i64 9)]])], [(.int .i64 22), (.int .i64 0), (.lst [[(.int .i64 3)], [(.int .i64 12)], [(.int .i64 2)]])]]), 
    (.int .i64 13), (.int .i64 11)]])]), (.int .i64 0)])
theorem c3 : Con Tryz.prog ρ0 14 a3 r3 := Con.knownP fit (pls := pls) k3 (n := 100000) (m := 100) (k := 100) (by kernel_rfl) (by kernel_rfl)
def l4 : List (FuncId × List AV × AV) := (14, a3, r3) :: l3
theorem k4 : KOk Tryz.prog ρ0 l4 := ⟨c3, k3⟩
def a4 : List AV := [(.str [102, 117, 110, 99, 32, 102, 40, 120, 41, 32, 123, 32, 111, 117, 116, 32, 120, 59, 32, 114, 101, 116, 117, 114, 110, 32, 120, 32, 43, 32, 49, 59, 32, 125, 32, 102, 117, 110, 99, 32, 103, 40, 110, 41, 32, 118, 97, 114, 32, 
    105, 32, 123, 32, 119, 104, 105, 108, 101, 32, 40, 105, 32, 60, 32, 110, 41, 32, 123, 32, 105, 32, 61, 32, 105, 32, 43, 32, 49, 59, 32, 125, 32, 114, 101, 116, 117, 114, 110, 32, 105, 59, 32, 125])]
def r4 : AV := (.agg [(.lst []), (.lst [[(.str [102]), (.int .i64 1), (.lst [[(.int .i64 26), (.int .i64 0), (.lst [])], [(.int .i64 2), (.int .i64 0), (.lst [])], [(.int .i64 29), (.int .i64 0), (.lst [[(.int .i64 0)], [(.int .i64 1)]])], 
    [(.int .i64 1), (.int .i64 1), (.lst [])], [(.int .i64 4), (.int .i64 0), (.lst [[(.int .i64 1)], [(.int .i64 3)]])]]), (.int .i64 4), (.int .i64 2)], [(.str [103]), (.int .i64 1), (.lst [[(.int .i64 26), (.int .i64 0), (.lst [])], 
    [(.int .i64 2), (.int .i64 0), (.lst [])], [(.int .i64 1), (.int .i64 0), (.lst [])], [(.int .i64 17), (.int .i64 0), (.lst [[(.int .i64 2)], [(.int .i64 1)]])], [(.int .i64 3), (.int .i64 0), (.lst [])], [(.int .i64 3), 
    (.int .i64 1), (.lst [])], [(.int .i64 1), (.int .i64 1), (.lst [])], [(.int .i64 4), (.int .i64 0), (.lst [[(.int .i64 5)], [(.int .i64 6)]])], [(.int .i64 17), (.int .i64 0), (.lst [[(.int .i64 7)], [(.int .i64 1)]])], 
    [(.int .i64 31), (.int .i64 0), (.lst [[(.int .i64 0)], [(.int .i64 2)], [(.int .i64 8)], [(.int .i64 4)], [(.int .i64 7)]])], [(.int .i64 25), (.int .i64 0), (.lst [[(.int .i64 9)]])], [(.int .i64 22), (.int .i64 0), 
    (.lst [[(.int .i64 3)], [(.int .i64 10)], [(.int .i64 0)]])], [(.int .i64 25), (.int .i64 1), (.lst [[(.int .i64 9)]])], [(.int .i64 22), (.int .i64 0), (.lst [[(.int .i64 3)], [(.int .i64 12)], [(.int .i64 2)]])]]), 
    (.int .i64 13), (.int .i64 11)]])])
theorem c4 : Con Tryz.prog ρ0 5 a4 r4 := Con.knownP fit (pls := pls) k4 (n := 100000) (m := 100) (k := 100) (by kernel_rfl) (by kernel_rfl)
def l5 : List (FuncId × List AV × AV) := (5, a4, r4) :: l4
theorem k5 : KOk Tryz.prog ρ0 l5 := ⟨c4, k4⟩

end Go.Proofs.YtnajiakoijdhoaaGreatDoor.scheduleExamplesRun
