/-
  The Go function fullinglaw38.ISelExamples returns true whenever it is called, and leaves all memory that was there as it was. Conditions: none.
-/
import Derived.Test.YtnajiakoijdhoaaGreatDoorRows
import Derived.Test.YtnajiakoijdhoaaGreatDoorAbLaw
import Derived.WalkKit
import Derived.ProofKit
import Derived.OpenShut
namespace Go.Proofs.YtnajiakoijdhoaaGreatDoor.iSelRun
open Go Go.Ab Go.ChangeShapes Go.WideShapes Go.ChangeAt Go.RowKit
set_option linter.unusedVariables false


/-! ### THE WALK -/
theorem fit : Fit Tryz.prog := Fit.of (by kernel_rfl)
def pls : List (Nat × Nat × Plan) := [(24, 7, (.perm [0, 1, 2, 3, 4, 5, 6, 7, 12, 8, 9, 10, 11, 13, 14])),
  (34, 14, (.perm [0, 1, 2, 4, 5, 7, 9, 3, 6, 8, 10])),
  (42, 16, (.perm [0, 1, 2, 3, 4, 5, 6, 8, 9, 7, 10, 11, 12])),
  (42, 28, (.perm [0, 1, 2, 3, 4, 6, 7, 5, 8, 9, 10])),
  (42, 32, (.perm [0, 1, 2, 3, 4, 6, 7, 5, 8, 9, 10])),
  (76, 23, (.perm [0, 1, 2, 3, 4, 5, 6, 7, 9, 10, 11, 12, 13, 14, 8, 15, 16, 17, 18, 19])),
  (76, 24, (.perm [0, 1, 2, 3, 4, 5, 6, 8, 9, 10, 11, 12, 13, 7, 14, 15, 16])),
  (85, 1, (.perm [0, 1, 2, 3, 4, 6, 7, 8, 9, 10, 5, 11, 12, 13, 14]))]
def ρ0 : Nat → Int := fun _ => 0
def l0 : List (FuncId × List AV × AV) := []
theorem k0 : KOk Tryz.prog ρ0 l0 := trivial
def a0 : List AV := [(.str [102, 117, 110, 99, 32, 102, 40, 120, 41, 32, 123, 32, 114, 101, 116, 117, 114, 110, 32, 120, 32, 43, 32, 49, 59, 32, 125])]
def r0 : AV := (.tup [(.lst [[(.int .i64 1), (.str [102, 117, 110, 99]), (.int .i64 0)], [(.int .i64 1), (.str [102]), (.int .i64 5)], [(.int .i64 3), (.str [40]), (.int .i64 6)], [(.int .i64 1), (.str [120]), (.int .i64 7)], [(.int .i64 3), 
    (.str [41]), (.int .i64 8)], [(.int .i64 3), (.str [123]), (.int .i64 10)], [(.int .i64 1), (.str [114, 101, 116, 117, 114, 110]), (.int .i64 12)], [(.int .i64 1), (.str [120]), (.int .i64 19)], [(.int .i64 3), (.str [43]), 
    (.int .i64 21)], [(.int .i64 2), (.str [49]), (.int .i64 23)], [(.int .i64 3), (.str [59]), (.int .i64 24)], [(.int .i64 3), (.str [125]), (.int .i64 26)]]), (.agg [(.int .i64 0), (.int .i64 0)])])
theorem c0 : Con Tryz.prog ρ0 27 a0 r0 := Con.knownP fit (pls := pls) k0 (n := 100000) (m := 100) (k := 100) (by kernel_rfl) (by kernel_rfl)
def l1 : List (FuncId × List AV × AV) := (27, a0, r0) :: l0
theorem k1 : KOk Tryz.prog ρ0 l1 := ⟨c0, k0⟩
def a1 : List AV := [(.str [102, 117, 110, 99, 32, 102, 40, 120, 41, 32, 123, 32, 114, 101, 116, 117, 114, 110, 32, 120, 32, 43, 32, 49, 59, 32, 125])]
def r1 : AV := (.tup [(.agg [.nilS, (.lst [[(.str [102]), (.lst [[(.str [120])]]), .nilS, .nilS, (.int .i64 4), (.int .i64 0), (.str []), (.int .i64 4), (.lst [[(.int .i64 2), (.int .i64 0), (.str [120]), (.int .i64 0), .nilS], [(.int .i64 1), 
    (.int .i64 1), (.str []), (.int .i64 0), .nilS]])]])]), (.agg [(.int .i64 0), (.int .i64 0)])])
theorem c1 : Con Tryz.prog ρ0 13 a1 r1 := Con.knownP fit (pls := pls) k1 (n := 100000) (m := 100) (k := 100) (by kernel_rfl) (by kernel_rfl)
def l2 : List (FuncId × List AV × AV) := (13, a1, r1) :: l1
theorem k2 : KOk Tryz.prog ρ0 l2 := ⟨c1, k1⟩
def a2 : List AV := [(.agg [.nilS, (.lst [[(.str [102]), (.lst [[(.str [120])]]), .nilS, .nilS, (.int .i64 4), (.int .i64 0), (.str []), (.int .i64 4), (.lst [[(.int .i64 2), (.int .i64 0), (.str [120]), (.int .i64 0), .nilS], [(.int .i64 1), 
    (.int .i64 1), (.str []), (.int .i64 0), .nilS]])]])])]
def r2 : AV := (.int .i64 0)
theorem c2 : Con Tryz.prog ρ0 34 a2 r2 := Con.knownP fit (pls := pls) k2 (n := 100000) (m := 100) (k := 100) (by kernel_rfl) (by kernel_rfl)
def l3 : List (FuncId × List AV × AV) := (34, a2, r2) :: l2
theorem k3 : KOk Tryz.prog ρ0 l3 := ⟨c2, k2⟩
def a3 : List AV := [(.agg [.nilS, (.lst [[(.str [102]), (.lst [[(.str [120])]]), .nilS, .nilS, (.int .i64 4), (.int .i64 0), (.str []), (.int .i64 4), (.lst [[(.int .i64 2), (.int .i64 0), (.str [120]), (.int .i64 0), .nilS], [(.int .i64 1), 
    (.int .i64 1), (.str []), (.int .i64 0), .nilS]])]])])]
def r3 : AV := (.tup [(.agg [(.lst []), (.lst [[(.str [102]), (.int .i64 1), (.lst [[(.int .i64 26), (.int .i64 0), (.lst [])], [(.int .i64 2), (.int .i64 0), (.lst [])], [(.int .i64 1), (.int .i64 1), (.lst [])], [(.int .i64 4), (.int .i64 0), 
    (.lst [[(.int .i64 1)], [(.int .i64 2)]])]]), (.int .i64 3), (.int .i64 0)]])]), (.int .i64 0)])
theorem c3 : Con Tryz.prog ρ0 14 a3 r3 := Con.knownP fit (pls := pls) k3 (n := 100000) (m := 100) (k := 100) (by kernel_rfl) (by kernel_rfl)
def l4 : List (FuncId × List AV × AV) := (14, a3, r3) :: l3
theorem k4 : KOk Tryz.prog ρ0 l4 := ⟨c3, k3⟩
def a4 : List AV := [(.str [102, 117, 110, 99, 32, 102, 40, 120, 41, 32, 123, 32, 114, 101, 116, 117, 114, 110, 32, 120, 32, 43, 32, 49, 59, 32, 125])]
def r4 : AV := (.agg [(.lst []), (.lst [[(.str [102]), (.int .i64 1), (.lst [[(.int .i64 26), (.int .i64 0), (.lst [])], [(.int .i64 2), (.int .i64 0), (.lst [])], [(.int .i64 1), (.int .i64 1), (.lst [])], [(.int .i64 4), (.int .i64 0), 
    (.lst [[(.int .i64 1)], [(.int .i64 2)]])]]), (.int .i64 3), (.int .i64 0)]])])
theorem c4 : Con Tryz.prog ρ0 10 a4 r4 := Con.knownP fit (pls := pls) k4 (n := 100000) (m := 100) (k := 100) (by kernel_rfl) (by kernel_rfl)
def l5 : List (FuncId × List AV × AV) := (10, a4, r4) :: l4
theorem k5 : KOk Tryz.prog ρ0 l5 := ⟨c4, k4⟩
def a5 : List AV := [(.agg [(.lst []), (.lst [[(.str [102]), .nilS, .nilS, .nilS, (.int .i64 1), (.int .i64 0), (.str []), (.int .i64 0), .nilS]])])]
def r5 : AV := (.int .i64 0)
theorem c5 : Con Tryz.prog ρ0 50 a5 r5 := Con.knownP fit (pls := pls) k5 (n := 100000) (m := 100) (k := 100) (by kernel_rfl) (by kernel_rfl)
def l6 : List (FuncId × List AV × AV) := (50, a5, r5) :: l5
theorem k6 : KOk Tryz.prog ρ0 l6 := ⟨c5, k5⟩
def a6 : List AV := [(.agg [(.lst []), (.lst [[(.str [102]), (.int .i64 1), (.lst [[(.int .i64 26), (.int .i64 0), (.lst [])], [(.int .i64 2), (.int .i64 0), (.lst [])], [(.int .i64 1), (.int .i64 1), (.lst [])], [(.int .i64 4), (.int .i64 0), 
    (.lst [[(.int .i64 1)], [(.int .i64 2)]])]]), (.int .i64 3), (.int .i64 0)]])])]
def r6 : AV := (.bool true)
theorem c6 : Con Tryz.prog ρ0 22 a6 r6 := Con.knownP fit (pls := pls) k6 (n := 100000) (m := 100) (k := 100) (by kernel_rfl) (by kernel_rfl)
def l7 : List (FuncId × List AV × AV) := (22, a6, r6) :: l6
theorem k7 : KOk Tryz.prog ρ0 l7 := ⟨c6, k6⟩
def a7 : List AV := [(.agg [(.str [102]), (.int .i64 1), (.lst [[(.int .i64 26), (.int .i64 0), (.lst [])], [(.int .i64 2), (.int .i64 0), (.lst [])], [(.int .i64 1), (.int .i64 1), (.lst [])], [(.int .i64 4), (.int .i64 0), (.lst [[(.int .i64 1)], 
    [(.int .i64 2)]])]]), (.int .i64 3), (.int .i64 0)])]
def r7 : AV := (.bool true)
theorem c7 : Con Tryz.prog ρ0 15 a7 r7 := Con.knownP fit (pls := pls) k7 (n := 100000) (m := 100) (k := 100) (by kernel_rfl) (by kernel_rfl)
def l8 : List (FuncId × List AV × AV) := (15, a7, r7) :: l7
theorem k8 : KOk Tryz.prog ρ0 l8 := ⟨c7, k7⟩
def a8 : List AV := [(.agg [(.lst []), (.lst [[(.str [102]), (.int .i64 1), (.lst [[(.int .i64 26), (.int .i64 0), (.lst [])], [(.int .i64 2), (.int .i64 0), (.lst [])], [(.int .i64 1), (.int .i64 1), (.lst [])], [(.int .i64 4), (.int .i64 0), 
    (.lst [[(.int .i64 1)], [(.int .i64 2)]])]]), (.int .i64 3), (.int .i64 0)]])]), (.int .i64 0)]
def r8 : AV := (.tup [(.agg [(.int .i64 1), (.int .i64 2), (.lst [[(.lst [[(.int .i64 38), (.int .i64 0), (.int .i64 0), (.int .i64 0), (.int .i64 0), .nilS], [(.int .i64 10), (.int .i64 1), (.int .i64 0), (.int .i64 0), (.int .i64 0), .nilS], 
    [(.int .i64 33), (.int .i64 1), (.int .i64 0), (.int .i64 0), (.int .i64 1), .nilS]]), (.int .i64 3), (.int .i64 1), (.int .i64 0), (.int .i64 0)]])]), .nilS, .nilS, (.int .i64 0)])
theorem c8 : Con Tryz.prog ρ0 11 a8 r8 := Con.knownP fit (pls := pls) k8 (n := 100000) (m := 100) (k := 100) (by kernel_rfl) (by kernel_rfl)
def l9 : List (FuncId × List AV × AV) := (11, a8, r8) :: l8
theorem k9 : KOk Tryz.prog ρ0 l9 := ⟨c8, k8⟩
def a9 : List AV := [(.agg [.nilS, (.lst [[(.str [100]), .nilS, .nilS, .nilS, (.int .i64 1), (.int .i64 0), (.str []), (.int .i64 0), .nilS]])])]
def r9 : AV := (.int .i64 0)
theorem c9 : Con Tryz.prog ρ0 50 a9 r9 := Con.knownP fit (pls := pls) k9 (n := 100000) (m := 100) (k := 100) (by kernel_rfl) (by kernel_rfl)
def l10 : List (FuncId × List AV × AV) := (50, a9, r9) :: l9
theorem k10 : KOk Tryz.prog ρ0 l10 := ⟨c9, k9⟩
def a10 : List AV := [(.agg [.nilS, (.lst [[(.str [100]), (.int .i64 2), (.lst [[(.int .i64 26), (.int .i64 0), .nilS], [(.int .i64 2), (.int .i64 0), .nilS], [(.int .i64 2), (.int .i64 1), .nilS], [(.int .i64 7), (.int .i64 0), (.lst [[(.int .i64 1)], 
    [(.int .i64 2)]])]]), (.int .i64 3), (.int .i64 0)]])])]
def r10 : AV := (.bool true)
theorem c10 : Con Tryz.prog ρ0 22 a10 r10 := Con.knownP fit (pls := pls) k10 (n := 100000) (m := 100) (k := 100) (by kernel_rfl) (by kernel_rfl)
def l11 : List (FuncId × List AV × AV) := (22, a10, r10) :: l10
theorem k11 : KOk Tryz.prog ρ0 l11 := ⟨c10, k10⟩
def a11 : List AV := [(.agg [(.str [100]), (.int .i64 2), (.lst [[(.int .i64 26), (.int .i64 0), .nilS], [(.int .i64 2), (.int .i64 0), .nilS], [(.int .i64 2), (.int .i64 1), .nilS], [(.int .i64 7), (.int .i64 0), (.lst [[(.int .i64 1)], 
    [(.int .i64 2)]])]]), (.int .i64 3), (.int .i64 0)])]
def r11 : AV := (.bool true)
theorem c11 : Con Tryz.prog ρ0 15 a11 r11 := Con.knownP fit (pls := pls) k11 (n := 100000) (m := 100) (k := 100) (by kernel_rfl) (by kernel_rfl)
def l12 : List (FuncId × List AV × AV) := (15, a11, r11) :: l11
theorem k12 : KOk Tryz.prog ρ0 l12 := ⟨c11, k11⟩
def a12 : List AV := [(.agg [.nilS, (.lst [[(.str [100]), (.int .i64 2), (.lst [[(.int .i64 26), (.int .i64 0), .nilS], [(.int .i64 2), (.int .i64 0), .nilS], [(.int .i64 2), (.int .i64 1), .nilS], [(.int .i64 7), (.int .i64 0), (.lst [[(.int .i64 1)], 
    [(.int .i64 2)]])]]), (.int .i64 3), (.int .i64 0)]])]), (.int .i64 0)]
def r12 : AV := (.tup [(.agg [(.int .i64 2), (.int .i64 6), (.lst [[(.lst [[(.int .i64 38), (.int .i64 0), (.int .i64 0), (.int .i64 0), (.int .i64 0), .nilS], [(.int .i64 38), (.int .i64 1), (.int .i64 0), (.int .i64 0), (.int .i64 1), .nilS], 
    [(.int .i64 13), (.int .i64 2), (.int .i64 0), (.int .i64 0), (.int .i64 0), .nilS], [(.int .i64 10), (.int .i64 3), (.int .i64 1), (.int .i64 0), (.int .i64 0), .nilS], [(.int .i64 28), (.int .i64 3), (.int .i64 2), (.int .i64 0), 
    (.int .i64 0), .nilS], [(.int .i64 10), (.int .i64 4), (.int .i64 1), (.int .i64 0), (.int .i64 0), .nilS], [(.int .i64 17), (.int .i64 4), (.int .i64 3), (.int .i64 0), (.int .i64 0), .nilS], [(.int .i64 10), (.int .i64 5), 
    (.int .i64 0), (.int .i64 0), (.int .i64 0), .nilS], [(.int .i64 20), (.int .i64 5), (.int .i64 4), (.int .i64 0), (.int .i64 0), .nilS], [(.int .i64 33), (.int .i64 3), (.int .i64 0), (.int .i64 0), (.int .i64 (-1)), .nilS], 
    [(.int .i64 22), (.int .i64 5), (.int .i64 3), (.int .i64 0), (.int .i64 0), .nilS]]), (.int .i64 3), (.int .i64 5), (.int .i64 0), (.int .i64 0)]])]), .nilS, .nilS, (.int .i64 0)])
theorem c12 : Con Tryz.prog ρ0 11 a12 r12 := Con.knownP fit (pls := pls) k12 (n := 100000) (m := 100) (k := 100) (by kernel_rfl) (by kernel_rfl)
def l13 : List (FuncId × List AV × AV) := (11, a12, r12) :: l12
theorem k13 : KOk Tryz.prog ρ0 l13 := ⟨c12, k12⟩
def a13 : List AV := [(.lst [[(.int .i64 2), (.int .i64 6), (.lst [[(.lst [[(.int .i64 38), (.int .i64 0), (.int .i64 0), (.int .i64 0), (.int .i64 0), .nilS], [(.int .i64 38), (.int .i64 1), (.int .i64 0), (.int .i64 0), (.int .i64 1), .nilS], 
    [(.int .i64 13), (.int .i64 2), (.int .i64 0), (.int .i64 0), (.int .i64 0), .nilS], [(.int .i64 10), (.int .i64 3), (.int .i64 1), (.int .i64 0), (.int .i64 0), .nilS], [(.int .i64 28), (.int .i64 3), (.int .i64 2), (.int .i64 0), 
    (.int .i64 0), .nilS], [(.int .i64 10), (.int .i64 4), (.int .i64 1), (.int .i64 0), (.int .i64 0), .nilS], [(.int .i64 17), (.int .i64 4), (.int .i64 3), (.int .i64 0), (.int .i64 0), .nilS], [(.int .i64 10), (.int .i64 5), 
    (.int .i64 0), (.int .i64 0), (.int .i64 0), .nilS], [(.int .i64 20), (.int .i64 5), (.int .i64 4), (.int .i64 0), (.int .i64 0), .nilS], [(.int .i64 33), (.int .i64 3), (.int .i64 0), (.int .i64 0), (.int .i64 (-1)), .nilS], 
    [(.int .i64 22), (.int .i64 5), (.int .i64 3), (.int .i64 0), (.int .i64 0), .nilS]]), (.int .i64 3), (.int .i64 5), (.int .i64 0), (.int .i64 0)]])]]), .nilS, (.int .i64 0), (.lst [[(.int .i64 7)], [(.int .i64 0)]]), 
    (.int .i64 0), (.int .i64 50)]
def r13 : AV := (.tup [(.agg [(.int .i64 1), (.int .i64 0), .nilS, (.int .i64 0)]), (.bool true)])
theorem c13 : Con Tryz.prog ρ0 12 a13 r13 := Con.knownP fit (pls := pls) k13 (n := 100000) (m := 100) (k := 100) (by kernel_rfl) (by kernel_rfl)
def l14 : List (FuncId × List AV × AV) := (12, a13, r13) :: l13
theorem k14 : KOk Tryz.prog ρ0 l14 := ⟨c13, k13⟩
theorem ev_true : Res.isTrue (ev Tryz.prog (cfgP pls l14) 100000 (.call 4 [] H0)) = true := by kernel_rfl
theorem walk (w : World) :
    Calls Tryz.prog 4 #[] w fun e w' => e = .returned (.bool true) ∧ Below w.heap.size w w' :=
  closedP fit k14 ev_true

end Go.Proofs.YtnajiakoijdhoaaGreatDoor.iSelRun
