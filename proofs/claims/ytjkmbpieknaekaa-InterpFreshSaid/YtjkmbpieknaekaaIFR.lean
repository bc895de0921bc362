/- Parts: KnPFresh, PgFresh. -/
import Derived.KernelRfl
import Derived.Test.YtjkmbpieknaekaaIFQ
import Derived.Test.YtjkmbpieknaekaaRows
set_option linter.unusedSimpArgs false
set_option linter.unusedVariables false
set_option linter.unusedSectionVars false
set_option linter.defProp false
namespace Go.Proofs.Ytjkmbpieknaekaa.knPFresh
set_option maxRecDepth 20000
open Go Go.Ab
def l0 : List (FuncId × List AV × AV) := []
theorem k0 (ρ : Nat → Int) : KOk Try.prog ρ l0 := trivial
def a0 : List AV := [(.str [97, 114, 114, 97, 121, 32, 97, 32, 51, 59, 32, 102, 117, 110, 99, 32, 102, 40, 105, 41, 32, 123, 32, 97, 91, 105, 93, 32, 61, 32, 97, 91, 105, 93, 32, 43, 32, 49, 59, 32, 114, 101, 116, 117, 114, 110, 32, 97, 91, 105, 93, 
    59, 32, 125])]
def r0 : AV := (.tup [(.lst [[(.int .i64 1), (.str [97, 114, 114, 97, 121]), (.int .i64 0)], [(.int .i64 1), (.str [97]), (.int .i64 6)], [(.int .i64 2), (.str [51]), (.int .i64 8)], [(.int .i64 3), (.str [59]), (.int .i64 9)], [(.int .i64 1), 
    (.str [102, 117, 110, 99]), (.int .i64 11)], [(.int .i64 1), (.str [102]), (.int .i64 16)], [(.int .i64 3), (.str [40]), (.int .i64 17)], [(.int .i64 1), (.str [105]), (.int .i64 18)], [(.int .i64 3), (.str [41]), (.int .i64 19)], 
    [(.int .i64 3), (.str [123]), (.int .i64 21)], [(.int .i64 1), (.str [97]), (.int .i64 23)], [(.int .i64 3), (.str [91]), (.int .i64 24)], [(.int .i64 1), (.str [105]), (.int .i64 25)], [(.int .i64 3), (.str [93]), (.int .i64 26)], 
    [(.int .i64 3), (.str [61]), (.int .i64 28)], [(.int .i64 1), (.str [97]), (.int .i64 30)], [(.int .i64 3), (.str [91]), (.int .i64 31)], [(.int .i64 1), (.str [105]), (.int .i64 32)], [(.int .i64 3), (.str [93]), (.int .i64 33)], 
    [(.int .i64 3), (.str [43]), (.int .i64 35)], [(.int .i64 2), (.str [49]), (.int .i64 37)], [(.int .i64 3), (.str [59]), (.int .i64 38)], [(.int .i64 1), (.str [114, 101, 116, 117, 114, 110]), (.int .i64 40)], [(.int .i64 1), 
    (.str [97]), (.int .i64 47)], [(.int .i64 3), (.str [91]), (.int .i64 48)], [(.int .i64 1), (.str [105]), (.int .i64 49)], [(.int .i64 3), (.str [93]), (.int .i64 50)], [(.int .i64 3), (.str [59]), (.int .i64 51)], [(.int .i64 3), 
    (.str [125]), (.int .i64 53)]]), (.agg [(.int .i64 0), (.int .i64 0)])])
theorem c0 (ρ : Nat → Int) : Con Try.prog ρ 42 a0 r0 := Con.knownP fit (pls := pls) (k0 ρ) (n := 100000) (m := 100) (k := 100) (by kernel_rfl) (by kernel_rfl)
def l1 : List (FuncId × List AV × AV) := (42, a0, r0) :: l0
theorem k1 (ρ : Nat → Int) : KOk Try.prog ρ l1 := ⟨c0 ρ, k0 ρ⟩
def a1 : List AV := [(.str [97, 114, 114, 97, 121, 32, 97, 32, 51, 59, 32, 102, 117, 110, 99, 32, 102, 40, 105, 41, 32, 123, 32, 97, 91, 105, 93, 32, 61, 32, 97, 91, 105, 93, 32, 43, 32, 49, 59, 32, 114, 101, 116, 117, 114, 110, 32, 97, 91, 105, 93, 
    59, 32, 125])]
def r1 : AV := (.tup [(.agg [(.lst [[(.str [97]), (.int .i64 3)]]), (.lst [[(.str [102]), (.lst [[(.str [105])]]), .nilS, (.lst [[(.int .i64 2), (.str [97]), (.str []), (.int .i64 0), (.int .i64 2), (.int .i64 0), (.str [105]), (.int .i64 0), 
    .nilS, (.int .i64 4), (.int .i64 0), (.str []), (.int .i64 4), (.lst [[(.int .i64 3), (.int .i64 0), (.str [97]), (.int .i64 0), (.lst [[(.int .i64 2), (.int .i64 0), (.str [105]), (.int .i64 0), .nilS]])], [(.int .i64 1), 
    (.int .i64 1), (.str []), (.int .i64 0), .nilS]]), .nilS, .nilS, .nilS]]), (.int .i64 3), (.int .i64 0), (.str [97]), (.int .i64 0), (.lst [[(.int .i64 2), (.int .i64 0), (.str [105]), (.int .i64 0), .nilS]])]])]), 
    (.agg [(.int .i64 0), (.int .i64 0)])])
theorem c1 (ρ : Nat → Int) : Con Try.prog ρ 24 a1 r1 := Con.knownP fit (pls := pls) (k1 ρ) (n := 100000) (m := 100) (k := 100) (by kernel_rfl) (by kernel_rfl)
def l2 : List (FuncId × List AV × AV) := (24, a1, r1) :: l1
theorem k2 (ρ : Nat → Int) : KOk Try.prog ρ l2 := ⟨c1 ρ, k1 ρ⟩
def list : List (FuncId × List AV × AV) := [(24, a1, r1)]
theorem ok (ρ : Nat → Int) : KOk Try.prog ρ list := ⟨c1 ρ, trivial⟩
end Go.Proofs.Ytjkmbpieknaekaa.knPFresh
namespace Go.Proofs.Ytjkmbpieknaekaa.pgFresh
set_option maxRecDepth 20000
open Go Go.Ab
def f0 : Fu := ⟨[102], [[105]], [], [(.mk 2 [97] [] 0 (.mk 2 0 [105] 0 []) (.mk 4 0 [] 4 [(.mk 3 0 [97] 0 [(.mk 2 0 [105] 0 [])]), (.mk 1 1 [] 0 [])]) [] [] [])], (.mk 3 0 [97] 0 [(.mk 2 0 [105] 0 [])])⟩
def pr : Pr := ⟨[⟨[97], 3⟩], [f0]⟩
def src : List UInt8 := [97, 114, 114, 97, 121, 32, 97, 32, 51, 59, 32, 102, 117, 110, 99, 32, 102, 40, 105, 41, 32, 123, 32, 97, 91, 105, 93, 32, 61, 32, 97, 91, 105, 93, 32, 43, 32, 49, 59, 32, 114, 101, 116, 117, 114, 110, 
    32, 97, 91, 105, 93, 59, 32, 125]
def list : List (FuncId × List AV × AV) := [(24, [.str src], .tup [.agg pr.cells, .agg [.int .i64 0, .int .i64 0]]), (14, [.agg pr.cells], .int .i64 0)]
theorem parse_ok (ρ : Nat → Int) : Con Try.prog ρ 24 [.str src] (.tup [.agg pr.cells, .agg [.int .i64 0, .int .i64 0]]) := Con.wk' 100 (knPFresh.c1 ρ) (by kernel_rfl)
theorem check_ok (ρ : Nat → Int) : Con Try.prog ρ 14 [.agg pr.cells] (.int .i64 0) := Con.knownP fit (pls := pls) (l := []) trivial (n := 100000) (m := 100) (k := 100) (by kernel_rfl) (by kernel_rfl)
theorem ok (ρ : Nat → Int) : KOk Try.prog ρ list := ⟨parse_ok ρ, check_ok ρ, trivial⟩
end Go.Proofs.Ytjkmbpieknaekaa.pgFresh
