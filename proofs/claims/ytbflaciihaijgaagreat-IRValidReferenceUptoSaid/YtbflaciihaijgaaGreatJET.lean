/- Lemmas for the last file. -/
import Derived.KernelRfl
import Derived.Test.YtbflaciihaijgaaGreatJES
import Derived.Test.YtbflaciihaijgaaGreatRows
set_option linter.all false
set_option maxHeartbeats 32000000
namespace Go.Proofs.YtbflaciihaijgaaGreat.knIEx
set_option maxRecDepth 20000
open Go Go.Ab
def nL:List (FuncId×qt×AV):=[]
def k0(ρ:Nat->Int):AR Tryz.prog ρ nL:=trivial
def jI:qt:=[]
def bV:AV:=(.bool true)
def c0(ρ:Nat->Int):bF Tryz.prog ρ 19 jI bV:=X2 fit (pls:=pls) (k0 ρ) (n:=100000) (m:=100) (k:=100) aB aB
def list:List (FuncId×qt×AV):=[(19,jI,bV)]
def ok(ρ:Nat->Int):AR Tryz.prog ρ list:=⟨c0 ρ,trivial⟩
end Go.Proofs.YtbflaciihaijgaaGreat.knIEx
