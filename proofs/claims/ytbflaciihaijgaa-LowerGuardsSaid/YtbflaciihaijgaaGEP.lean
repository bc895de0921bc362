/- Lemmas for the last file. -/
import Derived.KernelRfl
import Derived.Test.YtbflaciihaijgaaGEO
import Derived.Test.YtbflaciihaijgaaRows
set_option linter.all false
set_option maxHeartbeats 32000000
namespace Go.Proofs.Ytbflaciihaijgaa.knLEx
set_option maxRecDepth 20000
open Go Go.Ab
def KC:List (FuncId×ql×AV):=[]
def dL(ρ:Nat->Int):vo Try.prog ρ KC:=trivial
def iU:ql:=[]
def bG:AV:=(.bool true)
def c0(ρ:Nat->Int):cp Try.prog ρ 12 iU bG:=Mm fit (pls:=pls) (dL ρ) (n:=100000) (m:=100) (k:=100) aF aF
def list:List (FuncId×ql×AV):=[(12,iU,bG)]
def ok(ρ:Nat->Int):vo Try.prog ρ list:=⟨c0 ρ,trivial⟩
end Go.Proofs.Ytbflaciihaijgaa.knLEx
