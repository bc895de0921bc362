/-
  Calls of fulling/ScheduleExamples, boxed one by one: each a theorem of its own. Conditions: none.
-/
import Derived.Test.YtnajiakoijdhoaaGreatDoorScheduleExamplesRunA
namespace Go.Proofs.YtnajiakoijdhoaaGreatDoor.scheduleExamplesRun
open Go Go.Ab Go.ChangeShapes Go.WideShapes Go.ChangeAt Go.RowKit
set_option linter.unusedVariables false
def a5 : List AV := [(.lst [[(.int .i64 26), (.int .i64 0), (.lst [])], [(.int .i64 2), (.int .i64 0), (.lst [])], [(.int .i64 29), (.int .i64 0), (.lst [[(.int .i64 0)], [(.int .i64 1)]])], [(.int .i64 1), (.int .i64 1), (.lst [])], [(.int .i64 4), 
    (.int .i64 0), (.lst [[(.int .i64 1)], [(.int .i64 3)]])]]), (.int .i64 0)]
def r5 : AV := (.int .i64 2)
theorem c5 : Con Tryz.prog ρ0 16 a5 r5 := Con.knownP fit (pls := pls) k5 (n := 100000) (m := 100) (k := 100) (by kernel_rfl) (by kernel_rfl)
def l6 : List (FuncId × List AV × AV) := (16, a5, r5) :: l5
theorem k6 : KOk Tryz.prog ρ0 l6 := ⟨c5, k5⟩
def a6 : List AV := [(.lst [[(.int .i64 26), (.int .i64 0), (.lst [])], [(.int .i64 2), (.int .i64 0), (.lst [])], [(.int .i64 29), (.int .i64 0), (.lst [[(.int .i64 0)], [(.int .i64 1)]])], [(.int .i64 1), (.int .i64 1), (.lst [])], [(.int .i64 4), 
    (.int .i64 0), (.lst [[(.int .i64 1)], [(.int .i64 3)]])]]), (.int .i64 1)]
def r6 : AV := (.int .i64 1)
theorem c6 : Con Tryz.prog ρ0 16 a6 r6 := Con.knownP fit (pls := pls) k6 (n := 100000) (m := 100) (k := 100) (by kernel_rfl) (by kernel_rfl)
def l7 : List (FuncId × List AV × AV) := (16, a6, r6) :: l6
theorem k7 : KOk Tryz.prog ρ0 l7 := ⟨c6, k6⟩
def a7 : List AV := [(.lst [[(.int .i64 26), (.int .i64 0), (.lst [])], [(.int .i64 2), (.int .i64 0), (.lst [])], [(.int .i64 29), (.int .i64 0), (.lst [[(.int .i64 0)], [(.int .i64 1)]])], [(.int .i64 1), (.int .i64 1), (.lst [])], [(.int .i64 4), 
    (.int .i64 0), (.lst [[(.int .i64 1)], [(.int .i64 3)]])]]), (.int .i64 2)]
def r7 : AV := (.int .i64 2)
theorem c7 : Con Tryz.prog ρ0 16 a7 r7 := Con.knownP fit (pls := pls) k7 (n := 100000) (m := 100) (k := 100) (by kernel_rfl) (by kernel_rfl)
def l8 : List (FuncId × List AV × AV) := (16, a7, r7) :: l7
theorem k8 : KOk Tryz.prog ρ0 l8 := ⟨c7, k7⟩
def a8 : List AV := [(.lst [[(.int .i64 26), (.int .i64 0), (.lst [])], [(.int .i64 2), (.int .i64 0), (.lst [])], [(.int .i64 29), (.int .i64 0), (.lst [[(.int .i64 0)], [(.int .i64 1)]])], [(.int .i64 1), (.int .i64 1), (.lst [])], [(.int .i64 4), 
    (.int .i64 0), (.lst [[(.int .i64 1)], [(.int .i64 3)]])]]), (.int .i64 3)]
def r8 : AV := (.int .i64 1)
theorem c8 : Con Tryz.prog ρ0 16 a8 r8 := Con.knownP fit (pls := pls) k8 (n := 100000) (m := 100) (k := 100) (by kernel_rfl) (by kernel_rfl)
def l9 : List (FuncId × List AV × AV) := (16, a8, r8) :: l8
theorem k9 : KOk Tryz.prog ρ0 l9 := ⟨c8, k8⟩
def a9 : List AV := [(.lst [[(.int .i64 26), (.int .i64 0), (.lst [])], [(.int .i64 2), (.int .i64 0), (.lst [])], [(.int .i64 29), (.int .i64 0), (.lst [[(.int .i64 0)], [(.int .i64 1)]])], [(.int .i64 1), (.int .i64 1), (.lst [])], [(.int .i64 4), 
    (.int .i64 0), (.lst [[(.int .i64 1)], [(.int .i64 3)]])]]), (.int .i64 4)]
def r9 : AV := (.int .i64 1)
theorem c9 : Con Tryz.prog ρ0 16 a9 r9 := Con.knownP fit (pls := pls) k9 (n := 100000) (m := 100) (k := 100) (by kernel_rfl) (by kernel_rfl)
def l10 : List (FuncId × List AV × AV) := (16, a9, r9) :: l9
theorem k10 : KOk Tryz.prog ρ0 l10 := ⟨c9, k9⟩
def a10 : List AV := [(.agg [(.str [102]), (.int .i64 1), (.lst [[(.int .i64 26), (.int .i64 0), (.lst [])], [(.int .i64 2), (.int .i64 0), (.lst [])], [(.int .i64 29), (.int .i64 0), (.lst [[(.int .i64 0)], [(.int .i64 1)]])], [(.int .i64 1), 
    (.int .i64 1), (.lst [])], [(.int .i64 4), (.int .i64 0), (.lst [[(.int .i64 1)], [(.int .i64 3)]])]]), (.int .i64 4), (.int .i64 2)])]
def r10 : AV := (.bool true)
theorem c10 : Con Tryz.prog ρ0 15 a10 r10 := Con.knownP fit (pls := pls) k10 (n := 100000) (m := 100) (k := 100) (by kernel_rfl) (by kernel_rfl)
def l11 : List (FuncId × List AV × AV) := (15, a10, r10) :: l10
theorem k11 : KOk Tryz.prog ρ0 l11 := ⟨c10, k10⟩
def a11 : List AV := [(.agg [(.str [102]), (.int .i64 1), (.lst [[(.int .i64 26), (.int .i64 0), (.lst [])], [(.int .i64 2), (.int .i64 0), (.lst [])], [(.int .i64 29), (.int .i64 0), (.lst [[(.int .i64 0)], [(.int .i64 1)]])], [(.int .i64 1), 
    (.int .i64 1), (.lst [])], [(.int .i64 4), (.int .i64 0), (.lst [[(.int .i64 1)], [(.int .i64 3)]])]]), (.int .i64 4), (.int .i64 2)]), .nilS]
def r11 : AV := (.tup [(.agg [(.lst [[(.int .i64 2), (.bool false), .nilS, .nilS], [(.int .i64 4), (.bool false), .nilS, .nilS]])]), (.int .i64 0)])
theorem c11 : Con Tryz.prog ρ0 6 a11 r11 := Con.knownP fit (pls := pls) k11 (n := 100000) (m := 100) (k := 100) (by kernel_rfl) (by kernel_rfl)
def l12 : List (FuncId × List AV × AV) := (6, a11, r11) :: l11
theorem k12 : KOk Tryz.prog ρ0 l12 := ⟨c11, k11⟩
def a12 : List AV := [(.lst [[(.int .i64 26), (.int .i64 0), (.lst [])], [(.int .i64 2), (.int .i64 0), (.lst [])], [(.int .i64 1), (.int .i64 0), (.lst [])], [(.int .i64 17), (.int .i64 0), (.lst [[(.int .i64 2)], [(.int .i64 1)]])], [(.int .i64 3), 
    (.int .i64 0), (.lst [])], [(.int .i64 3), (.int .i64 1), (.lst [])], [(.int .i64 1), (.int .i64 1), (.lst [])], [(.int .i64 4), (.int .i64 0), (.lst [[(.int .i64 5)], [(.int .i64 6)]])], [(.int .i64 17), (.int .i64 0), 
    (.lst [[(.int .i64 7)], [(.int .i64 1)]])], [(.int .i64 31), (.int .i64 0), (.lst [[(.int .i64 0)], [(.int .i64 2)], [(.int .i64 8)], [(.int .i64 4)], [(.int .i64 7)]])], [(.int .i64 25), (.int .i64 0), (.lst [[(.int .i64 9)]])], 
    [(.int .i64 22), (.int .i64 0), (.lst [[(.int .i64 3)], [(.int .i64 10)], [(.int .i64 0)]])], [(.int .i64 25), (.int .i64 1), (.lst [[(.int .i64 9)]])], [(.int .i64 22), (.int .i64 0), (.lst [[(.int .i64 3)], [(.int .i64 12)], 
    [(.int .i64 2)]])]]), (.int .i64 0)]
def r12 : AV := (.int .i64 2)
theorem c12 : Con Tryz.prog ρ0 16 a12 r12 := Con.knownP fit (pls := pls) k12 (n := 100000) (m := 100) (k := 100) (by kernel_rfl) (by kernel_rfl)
def l13 : List (FuncId × List AV × AV) := (16, a12, r12) :: l12
theorem k13 : KOk Tryz.prog ρ0 l13 := ⟨c12, k12⟩
def a13 : List AV := [(.lst [[(.int .i64 26), (.int .i64 0), (.lst [])], [(.int .i64 2), (.int .i64 0), (.lst [])], [(.int .i64 1), (.int .i64 0), (.lst [])], [(.int .i64 17), (.int .i64 0), (.lst [[(.int .i64 2)], [(.int .i64 1)]])], [(.int .i64 3), 
    (.int .i64 0), (.lst [])], [(.int .i64 3), (.int .i64 1), (.lst [])], [(.int .i64 1), (.int .i64 1), (.lst [])], [(.int .i64 4), (.int .i64 0), (.lst [[(.int .i64 5)], [(.int .i64 6)]])], [(.int .i64 17), (.int .i64 0), 
    (.lst [[(.int .i64 7)], [(.int .i64 1)]])], [(.int .i64 31), (.int .i64 0), (.lst [[(.int .i64 0)], [(.int .i64 2)], [(.int .i64 8)], [(.int .i64 4)], [(.int .i64 7)]])], [(.int .i64 25), (.int .i64 0), (.lst [[(.int .i64 9)]])], 
    [(.int .i64 22), (.int .i64 0), (.lst [[(.int .i64 3)], [(.int .i64 10)], [(.int .i64 0)]])], [(.int .i64 25), (.int .i64 1), (.lst [[(.int .i64 9)]])], [(.int .i64 22), (.int .i64 0), (.lst [[(.int .i64 3)], [(.int .i64 12)], 
    [(.int .i64 2)]])]]), (.int .i64 1)]
def r13 : AV := (.int .i64 1)
theorem c13 : Con Tryz.prog ρ0 16 a13 r13 := Con.knownP fit (pls := pls) k13 (n := 100000) (m := 100) (k := 100) (by kernel_rfl) (by kernel_rfl)
def l14 : List (FuncId × List AV × AV) := (16, a13, r13) :: l13
theorem k14 : KOk Tryz.prog ρ0 l14 := ⟨c13, k13⟩
def a14 : List AV := [(.lst [[(.int .i64 26), (.int .i64 0), (.lst [])], [(.int .i64 2), (.int .i64 0), (.lst [])], [(.int .i64 1), (.int .i64 0), (.lst [])], [(.int .i64 17), (.int .i64 0), (.lst [[(.int .i64 2)], [(.int .i64 1)]])], [(.int .i64 3), 
    (.int .i64 0), (.lst [])], [(.int .i64 3), (.int .i64 1), (.lst [])], [(.int .i64 1), (.int .i64 1), (.lst [])], [(.int .i64 4), (.int .i64 0), (.lst [[(.int .i64 5)], [(.int .i64 6)]])], [(.int .i64 17), (.int .i64 0), 
    (.lst [[(.int .i64 7)], [(.int .i64 1)]])], [(.int .i64 31), (.int .i64 0), (.lst [[(.int .i64 0)], [(.int .i64 2)], [(.int .i64 8)], [(.int .i64 4)], [(.int .i64 7)]])], [(.int .i64 25), (.int .i64 0), (.lst [[(.int .i64 9)]])], 
    [(.int .i64 22), (.int .i64 0), (.lst [[(.int .i64 3)], [(.int .i64 10)], [(.int .i64 0)]])], [(.int .i64 25), (.int .i64 1), (.lst [[(.int .i64 9)]])], [(.int .i64 22), (.int .i64 0), (.lst [[(.int .i64 3)], [(.int .i64 12)], 
    [(.int .i64 2)]])]]), (.int .i64 2)]
def r14 : AV := (.int .i64 1)
theorem c14 : Con Tryz.prog ρ0 16 a14 r14 := Con.knownP fit (pls := pls) k14 (n := 100000) (m := 100) (k := 100) (by kernel_rfl) (by kernel_rfl)
def l15 : List (FuncId × List AV × AV) := (16, a14, r14) :: l14
theorem k15 : KOk Tryz.prog ρ0 l15 := ⟨c14, k14⟩
def a15 : List AV := [(.lst [[(.int .i64 26), (.int .i64 0), (.lst [])], [(.int .i64 2), (.int .i64 0), (.lst [])], [(.int .i64 1), (.int .i64 0), (.lst [])], [(.int .i64 17), (.int .i64 0), (.lst [[(.int .i64 2)], [(.int .i64 1)]])], [(.int .i64 3), 
    (.int .i64 0), (.lst [])], [(.int .i64 3), (.int .i64 1), (.lst [])], [(.int .i64 1), (.int .i64 1), (.lst [])], [(.int .i64 4), (.int .i64 0), (.lst [[(.int .i64 5)], [(.int .i64 6)]])], [(.int .i64 17), (.int .i64 0), 
    (.lst [[(.int .i64 7)], [(.int .i64 1)]])], [(.int .i64 31), (.int .i64 0), (.lst [[(.int .i64 0)], [(.int .i64 2)], [(.int .i64 8)], [(.int .i64 4)], [(.int .i64 7)]])], [(.int .i64 25), (.int .i64 0), (.lst [[(.int .i64 9)]])], 
    [(.int .i64 22), (.int .i64 0), (.lst [[(.int .i64 3)], [(.int .i64 10)], [(.int .i64 0)]])], [(.int .i64 25), (.int .i64 1), (.lst [[(.int .i64 9)]])], [(.int .i64 22), (.int .i64 0), (.lst [[(.int .i64 3)], [(.int .i64 12)], 
    [(.int .i64 2)]])]]), (.int .i64 3)]
def r15 : AV := (.int .i64 1)
theorem c15 : Con Tryz.prog ρ0 16 a15 r15 := Con.knownP fit (pls := pls) k15 (n := 100000) (m := 100) (k := 100) (by kernel_rfl) (by kernel_rfl)
def l16 : List (FuncId × List AV × AV) := (16, a15, r15) :: l15
theorem k16 : KOk Tryz.prog ρ0 l16 := ⟨c15, k15⟩
def a16 : List AV := [(.lst [[(.int .i64 26), (.int .i64 0), (.lst [])], [(.int .i64 2), (.int .i64 0), (.lst [])], [(.int .i64 1), (.int .i64 0), (.lst [])], [(.int .i64 17), (.int .i64 0), (.lst [[(.int .i64 2)], [(.int .i64 1)]])], [(.int .i64 3), 
    (.int .i64 0), (.lst [])], [(.int .i64 3), (.int .i64 1), (.lst [])], [(.int .i64 1), (.int .i64 1), (.lst [])], [(.int .i64 4), (.int .i64 0), (.lst [[(.int .i64 5)], [(.int .i64 6)]])], [(.int .i64 17), (.int .i64 0), 
    (.lst [[(.int .i64 7)], [(.int .i64 1)]])], [(.int .i64 31), (.int .i64 0), (.lst [[(.int .i64 0)], [(.int .i64 2)], [(.int .i64 8)], [(.int .i64 4)], [(.int .i64 7)]])], [(.int .i64 25), (.int .i64 0), (.lst [[(.int .i64 9)]])], 
    [(.int .i64 22), (.int .i64 0), (.lst [[(.int .i64 3)], [(.int .i64 10)], [(.int .i64 0)]])], [(.int .i64 25), (.int .i64 1), (.lst [[(.int .i64 9)]])], [(.int .i64 22), (.int .i64 0), (.lst [[(.int .i64 3)], [(.int .i64 12)], 
    [(.int .i64 2)]])]]), (.int .i64 4)]
def r16 : AV := (.int .i64 2)
theorem c16 : Con Tryz.prog ρ0 16 a16 r16 := Con.knownP fit (pls := pls) k16 (n := 100000) (m := 100) (k := 100) (by kernel_rfl) (by kernel_rfl)
def l17 : List (FuncId × List AV × AV) := (16, a16, r16) :: l16
theorem k17 : KOk Tryz.prog ρ0 l17 := ⟨c16, k16⟩
def a17 : List AV := [(.lst [[(.int .i64 26), (.int .i64 0), (.lst [])], [(.int .i64 2), (.int .i64 0), (.lst [])], [(.int .i64 1), (.int .i64 0), (.lst [])], [(.int .i64 17), (.int .i64 0), (.lst [[(.int .i64 2)], [(.int .i64 1)]])], [(.int .i64 3), 
    (.int .i64 0), (.lst [])], [(.int .i64 3), (.int .i64 1), (.lst [])], [(.int .i64 1), (.int .i64 1), (.lst [])], [(.int .i64 4), (.int .i64 0), (.lst [[(.int .i64 5)], [(.int .i64 6)]])], [(.int .i64 17), (.int .i64 0), 
    (.lst [[(.int .i64 7)], [(.int .i64 1)]])], [(.int .i64 31), (.int .i64 0), (.lst [[(.int .i64 0)], [(.int .i64 2)], [(.int .i64 8)], [(.int .i64 4)], [(.int .i64 7)]])], [(.int .i64 25), (.int .i64 0), (.lst [[(.int .i64 9)]])], 
    [(.int .i64 22), (.int .i64 0), (.lst [[(.int .i64 3)], [(.int .i64 10)], [(.int .i64 0)]])], [(.int .i64 25), (.int .i64 1), (.lst [[(.int .i64 9)]])], [(.int .i64 22), (.int .i64 0), (.lst [[(.int .i64 3)], [(.int .i64 12)], 
    [(.int .i64 2)]])]]), (.int .i64 5)]
def r17 : AV := (.int .i64 1)
theorem c17 : Con Tryz.prog ρ0 16 a17 r17 := Con.knownP fit (pls := pls) k17 (n := 100000) (m := 100) (k := 100) (by kernel_rfl) (by kernel_rfl)
def l18 : List (FuncId × List AV × AV) := (16, a17, r17) :: l17
theorem k18 : KOk Tryz.prog ρ0 l18 := ⟨c17, k17⟩
def a18 : List AV := [(.lst [[(.int .i64 26), (.int .i64 0), (.lst [])], [(.int .i64 2), (.int .i64 0), (.lst [])], [(.int .i64 1), (.int .i64 0), (.lst [])], [(.int .i64 17), (.int .i64 0), (.lst [[(.int .i64 2)], [(.int .i64 1)]])], [(.int .i64 3), 
    (.int .i64 0), (.lst [])], [(.int .i64 3), (.int .i64 1), (.lst [])], [(.int .i64 1), (.int .i64 1), (.lst [])], [(.int .i64 4), (.int .i64 0), (.lst [[(.int .i64 5)], [(.int .i64 6)]])], [(.int .i64 17), (.int .i64 0), 
    (.lst [[(.int .i64 7)], [(.int .i64 1)]])], [(.int .i64 31), (.int .i64 0), (.lst [[(.int .i64 0)], [(.int .i64 2)], [(.int .i64 8)], [(.int .i64 4)], [(.int .i64 7)]])], [(.int .i64 25), (.int .i64 0), (.lst [[(.int .i64 9)]])], 
    [(.int .i64 22), (.int .i64 0), (.lst [[(.int .i64 3)], [(.int .i64 10)], [(.int .i64 0)]])], [(.int .i64 25), (.int .i64 1), (.lst [[(.int .i64 9)]])], [(.int .i64 22), (.int .i64 0), (.lst [[(.int .i64 3)], [(.int .i64 12)], 
    [(.int .i64 2)]])]]), (.int .i64 6)]
def r18 : AV := (.int .i64 1)
theorem c18 : Con Tryz.prog ρ0 16 a18 r18 := Con.knownP fit (pls := pls) k18 (n := 100000) (m := 100) (k := 100) (by kernel_rfl) (by kernel_rfl)
def l19 : List (FuncId × List AV × AV) := (16, a18, r18) :: l18
theorem k19 : KOk Tryz.prog ρ0 l19 := ⟨c18, k18⟩
def a19 : List AV := [(.lst [[(.int .i64 26), (.int .i64 0), (.lst [])], [(.int .i64 2), (.int .i64 0), (.lst [])], [(.int .i64 1), (.int .i64 0), (.lst [])], [(.int .i64 17), (.int .i64 0), (.lst [[(.int .i64 2)], [(.int .i64 1)]])], [(.int .i64 3), 
    (.int .i64 0), (.lst [])], [(.int .i64 3), (.int .i64 1), (.lst [])], [(.int .i64 1), (.int .i64 1), (.lst [])], [(.int .i64 4), (.int .i64 0), (.lst [[(.int .i64 5)], [(.int .i64 6)]])], [(.int .i64 17), (.int .i64 0), 
    (.lst [[(.int .i64 7)], [(.int .i64 1)]])], [(.int .i64 31), (.int .i64 0), (.lst [[(.int .i64 0)], [(.int .i64 2)], [(.int .i64 8)], [(.int .i64 4)], [(.int .i64 7)]])], [(.int .i64 25), (.int .i64 0), (.lst [[(.int .i64 9)]])], 
    [(.int .i64 22), (.int .i64 0), (.lst [[(.int .i64 3)], [(.int .i64 10)], [(.int .i64 0)]])], [(.int .i64 25), (.int .i64 1), (.lst [[(.int .i64 9)]])], [(.int .i64 22), (.int .i64 0), (.lst [[(.int .i64 3)], [(.int .i64 12)], 
    [(.int .i64 2)]])]]), (.int .i64 7)]
def r19 : AV := (.int .i64 1)
theorem c19 : Con Tryz.prog ρ0 16 a19 r19 := Con.knownP fit (pls := pls) k19 (n := 100000) (m := 100) (k := 100) (by kernel_rfl) (by kernel_rfl)
def l20 : List (FuncId × List AV × AV) := (16, a19, r19) :: l19
theorem k20 : KOk Tryz.prog ρ0 l20 := ⟨c19, k19⟩
def a20 : List AV := [(.lst [[(.int .i64 26), (.int .i64 0), (.lst [])], [(.int .i64 2), (.int .i64 0), (.lst [])], [(.int .i64 1), (.int .i64 0), (.lst [])], [(.int .i64 17), (.int .i64 0), (.lst [[(.int .i64 2)], [(.int .i64 1)]])], [(.int .i64 3), 
    (.int .i64 0), (.lst [])], [(.int .i64 3), (.int .i64 1), (.lst [])], [(.int .i64 1), (.int .i64 1), (.lst [])], [(.int .i64 4), (.int .i64 0), (.lst [[(.int .i64 5)], [(.int .i64 6)]])], [(.int .i64 17), (.int .i64 0), 
    (.lst [[(.int .i64 7)], [(.int .i64 1)]])], [(.int .i64 31), (.int .i64 0), (.lst [[(.int .i64 0)], [(.int .i64 2)], [(.int .i64 8)], [(.int .i64 4)], [(.int .i64 7)]])], [(.int .i64 25), (.int .i64 0), (.lst [[(.int .i64 9)]])], 
    [(.int .i64 22), (.int .i64 0), (.lst [[(.int .i64 3)], [(.int .i64 10)], [(.int .i64 0)]])], [(.int .i64 25), (.int .i64 1), (.lst [[(.int .i64 9)]])], [(.int .i64 22), (.int .i64 0), (.lst [[(.int .i64 3)], [(.int .i64 12)], 
    [(.int .i64 2)]])]]), (.int .i64 8)]
def r20 : AV := (.int .i64 1)
theorem c20 : Con Tryz.prog ρ0 16 a20 r20 := Con.knownP fit (pls := pls) k20 (n := 100000) (m := 100) (k := 100) (by kernel_rfl) (by kernel_rfl)
def l21 : List (FuncId × List AV × AV) := (16, a20, r20) :: l20
theorem k21 : KOk Tryz.prog ρ0 l21 := ⟨c20, k20⟩
def a21 : List AV := [(.lst [[(.int .i64 26), (.int .i64 0), (.lst [])], [(.int .i64 2), (.int .i64 0), (.lst [])], [(.int .i64 1), (.int .i64 0), (.lst [])], [(.int .i64 17), (.int .i64 0), (.lst [[(.int .i64 2)], [(.int .i64 1)]])], [(.int .i64 3), 
    (.int .i64 0), (.lst [])], [(.int .i64 3), (.int .i64 1), (.lst [])], [(.int .i64 1), (.int .i64 1), (.lst [])], [(.int .i64 4), (.int .i64 0), (.lst [[(.int .i64 5)], [(.int .i64 6)]])], [(.int .i64 17), (.int .i64 0), 
    (.lst [[(.int .i64 7)], [(.int .i64 1)]])], [(.int .i64 31), (.int .i64 0), (.lst [[(.int .i64 0)], [(.int .i64 2)], [(.int .i64 8)], [(.int .i64 4)], [(.int .i64 7)]])], [(.int .i64 25), (.int .i64 0), (.lst [[(.int .i64 9)]])], 
    [(.int .i64 22), (.int .i64 0), (.lst [[(.int .i64 3)], [(.int .i64 10)], [(.int .i64 0)]])], [(.int .i64 25), (.int .i64 1), (.lst [[(.int .i64 9)]])], [(.int .i64 22), (.int .i64 0), (.lst [[(.int .i64 3)], [(.int .i64 12)], 
    [(.int .i64 2)]])]]), (.int .i64 9)]
def r21 : AV := (.int .i64 3)
theorem c21 : Con Tryz.prog ρ0 16 a21 r21 := Con.knownP fit (pls := pls) k21 (n := 100000) (m := 100) (k := 100) (by kernel_rfl) (by kernel_rfl)
def l22 : List (FuncId × List AV × AV) := (16, a21, r21) :: l21
theorem k22 : KOk Tryz.prog ρ0 l22 := ⟨c21, k21⟩
def a22 : List AV := [(.lst [[(.int .i64 26), (.int .i64 0), (.lst [])], [(.int .i64 2), (.int .i64 0), (.lst [])], [(.int .i64 1), (.int .i64 0), (.lst [])], [(.int .i64 17), (.int .i64 0), (.lst [[(.int .i64 2)], [(.int .i64 1)]])], [(.int .i64 3), 
    (.int .i64 0), (.lst [])], [(.int .i64 3), (.int .i64 1), (.lst [])], [(.int .i64 1), (.int .i64 1), (.lst [])], [(.int .i64 4), (.int .i64 0), (.lst [[(.int .i64 5)], [(.int .i64 6)]])], [(.int .i64 17), (.int .i64 0), 
    (.lst [[(.int .i64 7)], [(.int .i64 1)]])], [(.int .i64 31), (.int .i64 0), (.lst [[(.int .i64 0)], [(.int .i64 2)], [(.int .i64 8)], [(.int .i64 4)], [(.int .i64 7)]])], [(.int .i64 25), (.int .i64 0), (.lst [[(.int .i64 9)]])], 
    [(.int .i64 22), (.int .i64 0), (.lst [[(.int .i64 3)], [(.int .i64 10)], [(.int .i64 0)]])], [(.int .i64 25), (.int .i64 1), (.lst [[(.int .i64 9)]])], [(.int .i64 22), (.int .i64 0), (.lst [[(.int .i64 3)], [(.int .i64 12)], 
    [(.int .i64 2)]])]]), (.int .i64 10)]
def r22 : AV := (.int .i64 2)
theorem c22 : Con Tryz.prog ρ0 16 a22 r22 := Con.knownP fit (pls := pls) k22 (n := 100000) (m := 100) (k := 100) (by kernel_rfl) (by kernel_rfl)
def l23 : List (FuncId × List AV × AV) := (16, a22, r22) :: l22
theorem k23 : KOk Tryz.prog ρ0 l23 := ⟨c22, k22⟩
def a23 : List AV := [(.lst [[(.int .i64 26), (.int .i64 0), (.lst [])], [(.int .i64 2), (.int .i64 0), (.lst [])], [(.int .i64 1), (.int .i64 0), (.lst [])], [(.int .i64 17), (.int .i64 0), (.lst [[(.int .i64 2)], [(.int .i64 1)]])], [(.int .i64 3), 
    (.int .i64 0), (.lst [])], [(.int .i64 3), (.int .i64 1), (.lst [])], [(.int .i64 1), (.int .i64 1), (.lst [])], [(.int .i64 4), (.int .i64 0), (.lst [[(.int .i64 5)], [(.int .i64 6)]])], [(.int .i64 17), (.int .i64 0), 
    (.lst [[(.int .i64 7)], [(.int .i64 1)]])], [(.int .i64 31), (.int .i64 0), (.lst [[(.int .i64 0)], [(.int .i64 2)], [(.int .i64 8)], [(.int .i64 4)], [(.int .i64 7)]])], [(.int .i64 25), (.int .i64 0), (.lst [[(.int .i64 9)]])], 
    [(.int .i64 22), (.int .i64 0), (.lst [[(.int .i64 3)], [(.int .i64 10)], [(.int .i64 0)]])], [(.int .i64 25), (.int .i64 1), (.lst [[(.int .i64 9)]])], [(.int .i64 22), (.int .i64 0), (.lst [[(.int .i64 3)], [(.int .i64 12)], 
    [(.int .i64 2)]])]]), (.int .i64 11)]
def r23 : AV := (.int .i64 2)
theorem c23 : Con Tryz.prog ρ0 16 a23 r23 := Con.knownP fit (pls := pls) k23 (n := 100000) (m := 100) (k := 100) (by kernel_rfl) (by kernel_rfl)
def l24 : List (FuncId × List AV × AV) := (16, a23, r23) :: l23
theorem k24 : KOk Tryz.prog ρ0 l24 := ⟨c23, k23⟩
def a24 : List AV := [(.lst [[(.int .i64 26), (.int .i64 0), (.lst [])], [(.int .i64 2), (.int .i64 0), (.lst [])], [(.int .i64 1), (.int .i64 0), (.lst [])], [(.int .i64 17), (.int .i64 0), (.lst [[(.int .i64 2)], [(.int .i64 1)]])], [(.int .i64 3), 
    (.int .i64 0), (.lst [])], [(.int .i64 3), (.int .i64 1), (.lst [])], [(.int .i64 1), (.int .i64 1), (.lst [])], [(.int .i64 4), (.int .i64 0), (.lst [[(.int .i64 5)], [(.int .i64 6)]])], [(.int .i64 17), (.int .i64 0), 
    (.lst [[(.int .i64 7)], [(.int .i64 1)]])], [(.int .i64 31), (.int .i64 0), (.lst [[(.int .i64 0)], [(.int .i64 2)], [(.int .i64 8)], [(.int .i64 4)], [(.int .i64 7)]])], [(.int .i64 25), (.int .i64 0), (.lst [[(.int .i64 9)]])], 
    [(.int .i64 22), (.int .i64 0), (.lst [[(.int .i64 3)], [(.int .i64 10)], [(.int .i64 0)]])], [(.int .i64 25), (.int .i64 1), (.lst [[(.int .i64 9)]])], [(.int .i64 22), (.int .i64 0), (.lst [[(.int .i64 3)], [(.int .i64 12)], 
    [(.int .i64 2)]])]]), (.int .i64 12)]
def r24 : AV := (.int .i64 1)
theorem c24 : Con Tryz.prog ρ0 16 a24 r24 := Con.knownP fit (pls := pls) k24 (n := 100000) (m := 100) (k := 100) (by kernel_rfl) (by kernel_rfl)
def l25 : List (FuncId × List AV × AV) := (16, a24, r24) :: l24
theorem k25 : KOk Tryz.prog ρ0 l25 := ⟨c24, k24⟩
def a25 : List AV := [(.lst [[(.int .i64 26), (.int .i64 0), (.lst [])], [(.int .i64 2), (.int .i64 0), (.lst [])], [(.int .i64 1), (.int .i64 0), (.lst [])], [(.int .i64 17), (.int .i64 0), (.lst [[(.int .i64 2)], [(.int .i64 1)]])], [(.int .i64 3), 
    (.int .i64 0), (.lst [])], [(.int .i64 3), (.int .i64 1), (.lst [])], [(.int .i64 1), (.int .i64 1), (.lst [])], [(.int .i64 4), (.int .i64 0), (.lst [[(.int .i64 5)], [(.int .i64 6)]])], [(.int .i64 17), (.int .i64 0), 
    (.lst [[(.int .i64 7)], [(.int .i64 1)]])], [(.int .i64 31), (.int .i64 0), (.lst [[(.int .i64 0)], [(.int .i64 2)], [(.int .i64 8)], [(.int .i64 4)], [(.int .i64 7)]])], [(.int .i64 25), (.int .i64 0), (.lst [[(.int .i64 9)]])], 
    [(.int .i64 22), (.int .i64 0), (.lst [[(.int .i64 3)], [(.int .i64 10)], [(.int .i64 0)]])], [(.int .i64 25), (.int .i64 1), (.lst [[(.int .i64 9)]])], [(.int .i64 22), (.int .i64 0), (.lst [[(.int .i64 3)], [(.int .i64 12)], 
    [(.int .i64 2)]])]]), (.int .i64 13)]
def r25 : AV := (.int .i64 1)
theorem c25 : Con Tryz.prog ρ0 16 a25 r25 := Con.knownP fit (pls := pls) k25 (n := 100000) (m := 100) (k := 100) (by kernel_rfl) (by kernel_rfl)
def l26 : List (FuncId × List AV × AV) := (16, a25, r25) :: l25
theorem k26 : KOk Tryz.prog ρ0 l26 := ⟨c25, k25⟩

end Go.Proofs.YtnajiakoijdhoaaGreatDoor.scheduleExamplesRun
