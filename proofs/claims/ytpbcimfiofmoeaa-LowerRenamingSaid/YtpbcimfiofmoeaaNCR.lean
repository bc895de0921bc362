/- Parts: KnLEx. -/
import Derived.KernelRfl
import Derived.Test.YtpbcimfiofmoeaaNCQ
import Derived.Test.YtpbcimfiofmoeaaRows
set_option linter.unusedSimpArgs false
set_option linter.unusedVariables false
set_option linter.unusedSectionVars false
set_option linter.defProp false
set_option maxHeartbeats 32000000
namespace Go.Proofs.Ytpbcimfiofmoeaa.knLEx
set_option maxRecDepth 20000
open Go Go.Ab
def zdS:List (FuncId×List AV×AV):=[]
theorem k0(ρ:Nat->Int):tA Try.prog ρ zdS:=trivial
def zbp:List AV:=[]
def zbf:AV:=(.bool true)
theorem c0(ρ:Nat->Int):cn Try.prog ρ 17 zbp zbf:=M7 fit (pls:=pls) (k0 ρ) (n:=100000) (m:=100) (k:=100) ah ah
def l1:List (FuncId×List AV×AV):=(17,zbp,zbf)::zdS
theorem k1(ρ:Nat->Int):tA Try.prog ρ l1:=⟨c0 ρ,k0 ρ⟩
def list:List (FuncId×List AV×AV):=[(17,zbp,zbf)]
theorem ok(ρ:Nat->Int):tA Try.prog ρ list:=⟨c0 ρ,trivial⟩
end Go.Proofs.Ytpbcimfiofmoeaa.knLEx
