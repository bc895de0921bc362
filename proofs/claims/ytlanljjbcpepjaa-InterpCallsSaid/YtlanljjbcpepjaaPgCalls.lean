/- A program's tree, read; the reading and the check as known calls. Made by program (mkprog.py). -/
import Derived.Test.YtlanljjbcpepjaaKnPCalls
import Derived.Test.YtlanljjbcpepjaaTree
import Derived.Test.YtlanljjbcpepjaaAbWk
namespace Go.Proofs.Ytlanljjbcpepjaa.pgCalls
open Go Go.Ab
def f0 : Fu := ⟨[102], [[110], [115]], [[114]], [(.mk 5 [] [] 0 (.mk 0 0 [] 0 []) (.mk 2 0 [110] 0 []) [] [] []), (.mk 3 [] [] 0 (.mk 0 0 [] 0 []) (.mk 4 0 [] 17 [(.mk 1 0 [] 0 []), 
    (.mk 2 0 [110] 0 [])]) [] [(.mk 6 [114] [102] 0 (.mk 0 0 [] 0 []) (.mk 0 0 [] 0 []) [(.mk 4 0 [] 5 [(.mk 2 0 [110] 0 []), (.mk 1 1 [] 0 [])]), (.mk 2 0 [115] 0 [])] [] []), 
    (.mk 1 [114] [] 0 (.mk 0 0 [] 0 []) (.mk 4 0 [] 4 [(.mk 2 0 [114] 0 []), (.mk 2 0 [115] 0 [])]) [] [] [])] [])], (.mk 2 0 [114] 0 [])⟩
def pr : Pr := ⟨[], [f0]⟩
def src : List UInt8 := [102, 117, 110, 99, 32, 102, 40, 110, 44, 32, 115, 41, 32, 118, 97, 114, 32, 114, 32, 123, 32, 111, 117, 116, 32, 110, 59, 32, 105, 102, 32, 40, 110, 32, 62, 32, 48, 41, 32, 123, 32, 114, 32, 61, 32, 
    102, 40, 110, 32, 45, 32, 49, 44, 32, 115, 41, 59, 32, 114, 32, 61, 32, 114, 32, 43, 32, 115, 59, 32, 125, 32, 114, 101, 116, 117, 114, 110, 32, 114, 59, 32, 125]
def list : List (FuncId × List AV × AV) := [(26, [.str src], .tup [.agg pr.cells, .agg [.int .i64 0, .int .i64 0]]), (16, [.agg pr.cells], .int .i64 0)]
theorem parse_ok (ρ : Nat → Int) : Con Try.prog ρ 26 [.str src] (.tup [.agg pr.cells, .agg [.int .i64 0, .int .i64 0]]) := Con.wk' 100 (knPCalls.c1 ρ) (by kernel_rfl)
theorem check_ok (ρ : Nat → Int) : Con Try.prog ρ 16 [.agg pr.cells] (.int .i64 0) := Con.knownP fit (pls := pls) (l := []) trivial (n := 100000) (m := 100) (k := 100) (by kernel_rfl) (by kernel_rfl)
theorem ok (ρ : Nat → Int) : KOk Try.prog ρ list := ⟨parse_ok ρ, check_ok ρ, trivial⟩
end Go.Proofs.Ytlanljjbcpepjaa.pgCalls
