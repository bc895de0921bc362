/- Parts: KnLEx. -/
import Derived.KernelRfl
import Derived.Test.YtpbcimfiofmoeaaRows
import Derived.Test.YtpbcimfiofmoeaaSDR
set_option linter.unusedSimpArgs false
set_option linter.unusedVariables false
set_option linter.unusedSectionVars false
set_option linter.defProp false
set_option maxHeartbeats 32000000
namespace Go.Proofs.Ytpbcimfiofmoeaa.knLEx
set_option maxRecDepth 20000
open Go Go.Ab
def l0:List (FuncId×List AV×AV):=[]
theorem k0 (ρ:Nat→Int):KOk Try.prog ρ l0:=trivial
def a0:List AV:=[]
def r0:AV:=(.bool true)
theorem c0 (ρ:Nat→Int):Con Try.prog ρ 17 a0 r0:=zmu fit (pls:=pls) (k0 ρ) (n:=100000) (m:=100) (k:=100) (by kernel_rfl) (by kernel_rfl)
def l1:List (FuncId×List AV×AV):=(17,a0,r0)::l0
theorem k1 (ρ:Nat→Int):KOk Try.prog ρ l1:=⟨c0 ρ,k0 ρ⟩
def list:List (FuncId×List AV×AV):=[(17,a0,r0)]
theorem ok (ρ:Nat→Int):KOk Try.prog ρ list:=⟨c0 ρ,trivial⟩
end Go.Proofs.Ytpbcimfiofmoeaa.knLEx
