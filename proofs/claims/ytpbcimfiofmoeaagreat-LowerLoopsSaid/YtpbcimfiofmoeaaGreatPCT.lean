/- Parts: KnLEx. -/
import Derived.KernelRfl
import Derived.Test.YtpbcimfiofmoeaaGreatPCS
import Derived.Test.YtpbcimfiofmoeaaGreatRows
set_option linter.unusedSimpArgs false
set_option linter.unusedVariables false
set_option linter.unusedSectionVars false
set_option linter.defProp false
set_option maxHeartbeats 32000000
namespace Go.Proofs.YtpbcimfiofmoeaaGreat.knLEx
set_option maxRecDepth 20000
open Go Go.Ab
def zia:List (FuncId×List AV×AV):=[]
theorem k0(ρ:Nat->Int):uZ Tryz.prog ρ zia:=trivial
def zhI:List AV:=[]
def zfK:AV:=(.bool true)
theorem c0(ρ:Nat->Int):ce Tryz.prog ρ 30 zhI zfK:=Qz fit (pls:=pls) (k0 ρ) (n:=100000) (m:=100) (k:=100) aj aj
def l1:List (FuncId×List AV×AV):=(30,zhI,zfK)::zia
theorem k1(ρ:Nat->Int):uZ Tryz.prog ρ l1:=⟨c0 ρ,k0 ρ⟩
def list:List (FuncId×List AV×AV):=[(30,zhI,zfK)]
theorem ok(ρ:Nat->Int):uZ Tryz.prog ρ list:=⟨c0 ρ,trivial⟩
end Go.Proofs.YtpbcimfiofmoeaaGreat.knLEx
