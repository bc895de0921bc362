/- A program's tree, read; the reading and the check as known calls. Made by program (mkprog.py). -/
import Derived.Test.YtlanljjbcpepjaaKnPTicks
import Derived.Test.YtlanljjbcpepjaaTree
import Derived.Test.YtlanljjbcpepjaaAbWk
namespace Go.Proofs.Ytlanljjbcpepjaa.pgTicks
open Go Go.Ab
def f0 : Fu := ⟨[102], [[110], [107]], [[105]], [(.mk 1 [105] [] 0 (.mk 0 0 [] 0 []) (.mk 2 0 [107] 0 []) [] [] []), (.mk 4 [] [] 0 (.mk 0 0 [] 0 []) (.mk 4 0 [] 17 [(.mk 2 0 [105] 0 []), 
    (.mk 4 0 [] 4 [(.mk 2 0 [110] 0 []), (.mk 2 0 [107] 0 [])])]) [] [(.mk 5 [] [] 0 (.mk 0 0 [] 0 []) (.mk 2 0 [105] 0 []) [] [] []), 
    (.mk 1 [105] [] 0 (.mk 0 0 [] 0 []) (.mk 4 0 [] 4 [(.mk 2 0 [105] 0 []), (.mk 1 1 [] 0 [])]) [] [] [])] []), (.mk 6 [105] [103] 0 (.mk 0 0 [] 0 []) (.mk 0 0 [] 0 []) [(.mk 2 0 [105] 0 [])] [] [])], 
    (.mk 2 0 [105] 0 [])⟩
def f1 : Fu := ⟨[103], [[110]], [], [], (.mk 4 0 [] 6 [(.mk 2 0 [110] 0 []), (.mk 1 2 [] 0 [])])⟩
def pr : Pr := ⟨[], [f0, f1]⟩
def src : List UInt8 := [102, 117, 110, 99, 32, 102, 40, 110, 44, 32, 107, 41, 32, 118, 97, 114, 32, 105, 32, 123, 32, 105, 32, 61, 32, 107, 59, 32, 119, 104, 105, 108, 101, 32, 40, 105, 32, 60, 32, 110, 32, 43, 32, 107, 41, 
    32, 123, 32, 111, 117, 116, 32, 105, 59, 32, 105, 32, 61, 32, 105, 32, 43, 32, 49, 59, 32, 125, 32, 105, 32, 61, 32, 103, 40, 105, 41, 59, 32, 114, 101, 116, 117, 114, 110, 32, 105, 59, 32, 125, 32, 
    102, 117, 110, 99, 32, 103, 40, 110, 41, 32, 123, 32, 114, 101, 116, 117, 114, 110, 32, 110, 32, 42, 32, 50, 59, 32, 125]
def list : List (FuncId × List AV × AV) := [(26, [.str src], .tup [.agg pr.cells, .agg [.int .i64 0, .int .i64 0]]), (16, [.agg pr.cells], .int .i64 0)]
theorem parse_ok (ρ : Nat → Int) : Con Try.prog ρ 26 [.str src] (.tup [.agg pr.cells, .agg [.int .i64 0, .int .i64 0]]) := Con.wk' 100 (knPTicks.c1 ρ) (by kernel_rfl)
theorem check_ok (ρ : Nat → Int) : Con Try.prog ρ 16 [.agg pr.cells] (.int .i64 0) := Con.knownP fit (pls := pls) (l := []) trivial (n := 100000) (m := 100) (k := 100) (by kernel_rfl) (by kernel_rfl)
theorem ok (ρ : Nat → Int) : KOk Try.prog ρ list := ⟨parse_ok ρ, check_ok ρ, trivial⟩
end Go.Proofs.Ytlanljjbcpepjaa.pgTicks
