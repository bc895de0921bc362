/-
  Calls of fulling/ScheduleExamples, boxed one by one: each a theorem of its own. Conditions: none.
-/
import Derived.Test.YtnajiakoijdhoaaGreatDoorScheduleExamplesRunB
namespace Go.Proofs.YtnajiakoijdhoaaGreatDoor.scheduleExamplesRun
open Go Go.Ab Go.ChangeShapes Go.WideShapes Go.ChangeAt Go.RowKit
set_option linter.unusedVariables false
def a26 : List AV := [(.agg [(.str [103]), (.int .i64 1), (.lst [[(.int .i64 26), (.int .i64 0), (.lst [])], [(.int .i64 2), (.int .i64 0), (.lst [])], [(.int .i64 1), (.int .i64 0), (.lst [])], [(.int .i64 17), (.int .i64 0), (.lst [[(.int .i64 2)], 
    [(.int .i64 1)]])], [(.int .i64 3), (.int .i64 0), (.lst [])], [(.int .i64 3), (.int .i64 1), (.lst [])], [(.int .i64 1), (.int .i64 1), (.lst [])], [(.int .i64 4), (.int .i64 0), (.lst [[(.int .i64 5)], [(.int .i64 6)]])], 
    [(.int .i64 17), (.int .i64 0), (.lst [[(.int .i64 7)], [(.int .i64 1)]])], [(.int .i64 31), (.int .i64 0), (.lst [[(.int .i64 0)], [(.int .i64 2)], [(.int .i64 8)], [(.int .i64 4)], [(.int .i64 7)]])], [(.int .i64 25), 
    (.int .i64 0), (.lst [[(.int .i64 9)]])], [(.int .i64 22), (.int .i64 0), (.lst [[(.int .i64 3)], [(.int .i64 10)], [(.int .i64 0)]])], [(.int .i64 25), (.int .i64 1), (.lst [[(.int .i64 9)]])], [(.int .i64 22), (.int .i64 0), 
    (.lst [[(.int .i64 3)], [(.int .i64 12)], [(.int .i64 2)]])]]), (.int .i64 13), (.int .i64 11)])]
def r26 : AV := (.bool true)
theorem c26 : Con Tryz.prog ρ0 15 a26 r26 := Con.knownP fit (pls := pls) k26 (n := 100000) (m := 100) (k := 100) (by kernel_rfl) (by kernel_rfl)
def l27 : List (FuncId × List AV × AV) := (15, a26, r26) :: l26
theorem k27 : KOk Tryz.prog ρ0 l27 := ⟨c26, k26⟩
def a27 : List AV := [(.agg [(.str [103]), (.int .i64 1), (.lst [[(.int .i64 26), (.int .i64 0), (.lst [])], [(.int .i64 2), (.int .i64 0), (.lst [])], [(.int .i64 1), (.int .i64 0), (.lst [])], [(.int .i64 17), (.int .i64 0), (.lst [[(.int .i64 2)], 
    [(.int .i64 1)]])], [(.int .i64 3), (.int .i64 0), (.lst [])], [(.int .i64 3), (.int .i64 1), (.lst [])], [(.int .i64 1), (.int .i64 1), (.lst [])], [(.int .i64 4), (.int .i64 0), (.lst [[(.int .i64 5)], [(.int .i64 6)]])], 
    [(.int .i64 17), (.int .i64 0), (.lst [[(.int .i64 7)], [(.int .i64 1)]])], [(.int .i64 31), (.int .i64 0), (.lst [[(.int .i64 0)], [(.int .i64 2)], [(.int .i64 8)], [(.int .i64 4)], [(.int .i64 7)]])], [(.int .i64 25), 
    (.int .i64 0), (.lst [[(.int .i64 9)]])], [(.int .i64 22), (.int .i64 0), (.lst [[(.int .i64 3)], [(.int .i64 10)], [(.int .i64 0)]])], [(.int .i64 25), (.int .i64 1), (.lst [[(.int .i64 9)]])], [(.int .i64 22), (.int .i64 0), 
    (.lst [[(.int .i64 3)], [(.int .i64 12)], [(.int .i64 2)]])]]), (.int .i64 13), (.int .i64 11)]), .nilS]
def r27 : AV := (.tup [(.agg [(.lst [[(.int .i64 3), (.bool false), .nilS, .nilS], [(.int .i64 11), (.bool false), (.lst [[(.lst [[(.int .i64 10), (.bool false), (.lst [[(.lst [[(.int .i64 7), (.bool false), .nilS, .nilS], [(.int .i64 8), 
    (.bool false), .nilS, .nilS]])]]), .nilS]])], [.nilS]]), (.lst [[(.int .i64 13)]])]])]), (.int .i64 0)])
theorem c27 : Con Tryz.prog ρ0 6 a27 r27 := Con.knownP fit (pls := pls) k27 (n := 100000) (m := 100) (k := 100) (by kernel_rfl) (by kernel_rfl)
def l28 : List (FuncId × List AV × AV) := (6, a27, r27) :: l27
theorem k28 : KOk Tryz.prog ρ0 l28 := ⟨c27, k27⟩
def a28 : List AV := [(.agg [(.lst []), (.lst [[(.str [102]), .nilS, .nilS, .nilS, (.int .i64 1), (.int .i64 0), (.str []), (.int .i64 0), .nilS], [(.str [103]), .nilS, .nilS, .nilS, (.int .i64 1), (.int .i64 0), (.str []), (.int .i64 0), .nilS]])])]
def r28 : AV := (.int .i64 0)
theorem c28 : Con Tryz.prog ρ0 50 a28 r28 := Con.knownP fit (pls := pls) k28 (n := 100000) (m := 100) (k := 100) (by kernel_rfl) (by kernel_rfl)
def l29 : List (FuncId × List AV × AV) := (50, a28, r28) :: l28
theorem k29 : KOk Tryz.prog ρ0 l29 := ⟨c28, k28⟩
def a29 : List AV := [(.agg [(.lst []), (.lst [[(.str [102]), (.int .i64 1), (.lst [[(.int .i64 26), (.int .i64 0), (.lst [])], [(.int .i64 2), (.int .i64 0), (.lst [])], [(.int .i64 29), (.int .i64 0), (.lst [[(.int .i64 0)], [(.int .i64 1)]])], 
    [(.int .i64 1), (.int .i64 1), (.lst [])], [(.int .i64 4), (.int .i64 0), (.lst [[(.int .i64 1)], [(.int .i64 3)]])]]), (.int .i64 4), (.int .i64 2)], [(.str [103]), (.int .i64 1), (.lst [[(.int .i64 26), (.int .i64 0), (.lst [])], 
    [(.int .i64 2), (.int .i64 0), (.lst [])], [(.int .i64 1), (.int .i64 0), (.lst [])], [(.int .i64 17), (.int .i64 0), (.lst [[(.int .i64 2)], [(.int .i64 1)]])], [(.int .i64 3), (.int .i64 0), (.lst [])], [(.int .i64 3), 
    (.int .i64 1), (.lst [])], [(.int .i64 1), (.int .i64 1), (.lst [])], [(.int .i64 4), (.int .i64 0), (.lst [[(.int .i64 5)], [(.int .i64 6)]])], [(.int .i64 17), (.int .i64 0), (.lst [[(.int .i64 7)], [(.int .i64 1)]])], 
    [(.int .i64 31), (.int .i64 0), (.lst [[(.int .i64 0)], [(.int .i64 2)], [(.int .i64 8)], [(.int .i64 4)], [(.int .i64 7)]])], [(.int .i64 25), (.int .i64 0), (.lst [[(.int .i64 9)]])], [(.int .i64 22), (.int .i64 0), 
    (.lst [[(.int .i64 3)], [(.int .i64 10)], [(.int .i64 0)]])], [(.int .i64 25), (.int .i64 1), (.lst [[(.int .i64 9)]])], [(.int .i64 22), (.int .i64 0), (.lst [[(.int .i64 3)], [(.int .i64 12)], [(.int .i64 2)]])]]), 
    (.int .i64 13), (.int .i64 11)]])]), (.agg [(.str [102]), (.int .i64 1), (.lst [[(.int .i64 26), (.int .i64 0), (.lst [])], [(.int .i64 2), (.int .i64 0), (.lst [])], [(.int .i64 29), (.int .i64 0), (.lst [[(.int .i64 0)], 
    [(.int .i64 1)]])], [(.int .i64 1), (.int .i64 1), (.lst [])], [(.int .i64 4), (.int .i64 0), (.lst [[(.int .i64 1)], [(.int .i64 3)]])]]), (.int .i64 4), (.int .i64 2)])]
def r29 : AV := (.bool true)
theorem c29 : Con Tryz.prog ρ0 51 a29 r29 := Con.knownP fit (pls := pls) k29 (n := 100000) (m := 100) (k := 100) (by kernel_rfl) (by kernel_rfl)
def l30 : List (FuncId × List AV × AV) := (51, a29, r29) :: l29
theorem k30 : KOk Tryz.prog ρ0 l30 := ⟨c29, k29⟩
def a30 : List AV := [(.agg [(.lst []), (.lst [[(.str [102]), (.int .i64 1), (.lst [[(.int .i64 26), (.int .i64 0), (.lst [])], [(.int .i64 2), (.int .i64 0), (.lst [])], [(.int .i64 29), (.int .i64 0), (.lst [[(.int .i64 0)], [(.int .i64 1)]])], 
    [(.int .i64 1), (.int .i64 1), (.lst [])], [(.int .i64 4), (.int .i64 0), (.lst [[(.int .i64 1)], [(.int .i64 3)]])]]), (.int .i64 4), (.int .i64 2)], [(.str [103]), (.int .i64 1), (.lst [[(.int .i64 26), (.int .i64 0), (.lst [])], 
    [(.int .i64 2), (.int .i64 0), (.lst [])], [(.int .i64 1), (.int .i64 0), (.lst [])], [(.int .i64 17), (.int .i64 0), (.lst [[(.int .i64 2)], [(.int .i64 1)]])], [(.int .i64 3), (.int .i64 0), (.lst [])], [(.int .i64 3), 
    (.int .i64 1), (.lst [])], [(.int .i64 1), (.int .i64 1), (.lst [])], [(.int .i64 4), (.int .i64 0), (.lst [[(.int .i64 5)], [(.int .i64 6)]])], [(.int .i64 17), (.int .i64 0), (.lst [[(.int .i64 7)], [(.int .i64 1)]])], 
    [(.int .i64 31), (.int .i64 0), (.lst [[(.int .i64 0)], [(.int .i64 2)], [(.int .i64 8)], [(.int .i64 4)], [(.int .i64 7)]])], [(.int .i64 25), (.int .i64 0), (.lst [[(.int .i64 9)]])], [(.int .i64 22), (.int .i64 0), 
    (.lst [[(.int .i64 3)], [(.int .i64 10)], [(.int .i64 0)]])], [(.int .i64 25), (.int .i64 1), (.lst [[(.int .i64 9)]])], [(.int .i64 22), (.int .i64 0), (.lst [[(.int .i64 3)], [(.int .i64 12)], [(.int .i64 2)]])]]), 
    (.int .i64 13), (.int .i64 11)]])]), (.agg [(.str [103]), (.int .i64 1), (.lst [[(.int .i64 26), (.int .i64 0), (.lst [])], [(.int .i64 2), (.int .i64 0), (.lst [])], [(.int .i64 1), (.int .i64 0), (.lst [])], [(.int .i64 17), 
    (.int .i64 0), (.lst [[(.int .i64 2)], [(.int .i64 1)]])], [(.int .i64 3), (.int .i64 0), (.lst [])], [(.int .i64 3), (.int .i64 1), (.lst [])], [(.int .i64 1), (.int .i64 1), (.lst [])], [(.int .i64 4), (.int .i64 0), 
    (.lst [[(.int .i64 5)], [(.int .i64 6)]])], [(.int .i64 17), (.int .i64 0), (.lst [[(.int .i64 7)], [(.int .i64 1)]])], [(.int .i64 31), (.int .i64 0), (.lst [[(.int .i64 0)], [(.int .i64 2)], [(.int .i64 8)], [(.int .i64 4)], 
    [(.int .i64 7)]])], [(.int .i64 25), (.int .i64 0), (.lst [[(.int .i64 9)]])], [(.int .i64 22), (.int .i64 0), (.lst [[(.int .i64 3)], [(.int .i64 10)], [(.int .i64 0)]])], [(.int .i64 25), (.int .i64 1), (.lst [[(.int .i64 9)]])], 
    [(.int .i64 22), (.int .i64 0), (.lst [[(.int .i64 3)], [(.int .i64 12)], [(.int .i64 2)]])]]), (.int .i64 13), (.int .i64 11)])]
def r30 : AV := (.bool true)
theorem c30 : Con Tryz.prog ρ0 51 a30 r30 := Con.knownP fit (pls := pls) k30 (n := 100000) (m := 100) (k := 100) (by kernel_rfl) (by kernel_rfl)
def l31 : List (FuncId × List AV × AV) := (51, a30, r30) :: l30
theorem k31 : KOk Tryz.prog ρ0 l31 := ⟨c30, k30⟩
def a31 : List AV := [(.agg [(.lst []), (.lst [[(.str [102]), (.int .i64 1), (.lst [[(.int .i64 26), (.int .i64 0), (.lst [])], [(.int .i64 2), (.int .i64 0), (.lst [])], [(.int .i64 29), (.int .i64 0), (.lst [[(.int .i64 0)], [(.int .i64 1)]])], 
    [(.int .i64 1), (.int .i64 1), (.lst [])], [(.int .i64 4), (.int .i64 0), (.lst [[(.int .i64 1)], [(.int .i64 3)]])]]), (.int .i64 4), (.int .i64 2)], [(.str [103]), (.int .i64 1), (.lst [[(.int .i64 26), (.int .i64 0), (.lst [])], 
    [(.int .i64 2), (.int .i64 0), (.lst [])], [(.int .i64 1), (.int .i64 0), (.lst [])], [(.int .i64 17), (.int .i64 0), (.lst [[(.int .i64 2)], [(.int .i64 1)]])], [(.int .i64 3), (.int .i64 0), (.lst [])], [(.int .i64 3), 
    (.int .i64 1), (.lst [])], [(.int .i64 1), (.int .i64 1), (.lst [])], [(.int .i64 4), (.int .i64 0), (.lst [[(.int .i64 5)], [(.int .i64 6)]])], [(.int .i64 17), (.int .i64 0), (.lst [[(.int .i64 7)], [(.int .i64 1)]])], 
    [(.int .i64 31), (.int .i64 0), (.lst [[(.int .i64 0)], [(.int .i64 2)], [(.int .i64 8)], [(.int .i64 4)], [(.int .i64 7)]])], [(.int .i64 25), (.int .i64 0), (.lst [[(.int .i64 9)]])], [(.int .i64 22), (.int .i64 0), 
    (.lst [[(.int .i64 3)], [(.int .i64 10)], [(.int .i64 0)]])], [(.int .i64 25), (.int .i64 1), (.lst [[(.int .i64 9)]])], [(.int .i64 22), (.int .i64 0), (.lst [[(.int .i64 3)], [(.int .i64 12)], [(.int .i64 2)]])]]), 
    (.int .i64 13), (.int .i64 11)]])])]
def r31 : AV := (.bool true)
theorem c31 : Con Tryz.prog ρ0 22 a31 r31 := Con.knownP fit (pls := pls) k31 (n := 100000) (m := 100) (k := 100) (by kernel_rfl) (by kernel_rfl)
def l32 : List (FuncId × List AV × AV) := (22, a31, r31) :: l31
theorem k32 : KOk Tryz.prog ρ0 l32 := ⟨c31, k31⟩
def a32 : List AV := [(.agg [(.lst []), (.lst [[(.str [102]), (.int .i64 1), (.lst [[(.int .i64 26), (.int .i64 0), (.lst [])], [(.int .i64 2), (.int .i64 0), (.lst [])], [(.int .i64 29), (.int .i64 0), (.lst [[(.int .i64 0)], [(.int .i64 1)]])], 
    [(.int .i64 1), (.int .i64 1), (.lst [])], [(.int .i64 4), (.int .i64 0), (.lst [[(.int .i64 1)], [(.int .i64 3)]])]]), (.int .i64 4), (.int .i64 2)], [(.str [103]), (.int .i64 1), (.lst [[(.int .i64 26), (.int .i64 0), (.lst [])], 
    [(.int .i64 2), (.int .i64 0), (.lst [])], [(.int .i64 1), (.int .i64 0), (.lst [])], [(.int .i64 17), (.int .i64 0), (.lst [[(.int .i64 2)], [(.int .i64 1)]])], [(.int .i64 3), (.int .i64 0), (.lst [])], [(.int .i64 3), 
    (.int .i64 1), (.lst [])], [(.int .i64 1), (.int .i64 1), (.lst [])], [(.int .i64 4), (.int .i64 0), (.lst [[(.int .i64 5)], [(.int .i64 6)]])], [(.int .i64 17), (.int .i64 0), (.lst [[(.int .i64 7)], [(.int .i64 1)]])], 
    [(.int .i64 31), (.int .i64 0), (.lst [[(.int .i64 0)], [(.int .i64 2)], [(.int .i64 8)], [(.int .i64 4)], [(.int .i64 7)]])], [(.int .i64 25), (.int .i64 0), (.lst [[(.int .i64 9)]])], [(.int .i64 22), (.int .i64 0), 
    (.lst [[(.int .i64 3)], [(.int .i64 10)], [(.int .i64 0)]])], [(.int .i64 25), (.int .i64 1), (.lst [[(.int .i64 9)]])], [(.int .i64 22), (.int .i64 0), (.lst [[(.int .i64 3)], [(.int .i64 12)], [(.int .i64 2)]])]]), 
    (.int .i64 13), (.int .i64 11)]])]), (.int .i64 1), (.lst [[(.int .i64 3)]]), (.int .i64 9)]
def r32 : AV := (.tup [(.agg [(.int .i64 1), (.int .i64 0), .nilS, (.int .i64 3)]), (.bool true)])
theorem c32 : Con Tryz.prog ρ0 7 a32 r32 := Con.knownP fit (pls := pls) k32 (n := 100000) (m := 100) (k := 100) (by kernel_rfl) (by kernel_rfl)
def l33 : List (FuncId × List AV × AV) := (7, a32, r32) :: l32
theorem k33 : KOk Tryz.prog ρ0 l33 := ⟨c32, k32⟩
theorem ev_true : Res.isTrue (ev Tryz.prog (cfgP pls l33) 100000 (.call 3 [] H0)) = true := by kernel_rfl
theorem walk (w : World) :
    Calls Tryz.prog 3 #[] w fun e w' => e = .returned (.bool true) ∧ Below w.heap.size w w' :=
  closedP fit k33 ev_true

end Go.Proofs.YtnajiakoijdhoaaGreatDoor.scheduleExamplesRun
