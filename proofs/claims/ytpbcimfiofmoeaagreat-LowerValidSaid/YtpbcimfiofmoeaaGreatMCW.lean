/- Parts: KnLEx. -/
import Derived.KernelRfl
import Derived.Test.YtpbcimfiofmoeaaGreatMCV
import Derived.Test.YtpbcimfiofmoeaaGreatRows
set_option linter.unusedSimpArgs false
set_option linter.unusedVariables false
set_option linter.unusedSectionVars false
set_option linter.defProp false
set_option maxHeartbeats 32000000
namespace Go.Proofs.YtpbcimfiofmoeaaGreat.knLEx
set_option maxRecDepth 20000
open Go Go.Ab
def zn4:List (FuncId×List AV×AV):=[]
theorem k0(ρ:Nat->Int):w5 Tryz.prog ρ zn4:=trivial
def znw:List AV:=[]
def zlE:AV:=(.bool true)
theorem c0(ρ:Nat->Int):bM Tryz.prog ρ 30 znw zlE:=Vz fit (pls:=pls) (k0 ρ) (n:=100000) (m:=100) (k:=100) aj aj
def l1:List (FuncId×List AV×AV):=(30,znw,zlE)::zn4
theorem k1(ρ:Nat->Int):w5 Tryz.prog ρ l1:=⟨c0 ρ,k0 ρ⟩
def list:List (FuncId×List AV×AV):=[(30,znw,zlE)]
theorem ok(ρ:Nat->Int):w5 Tryz.prog ρ list:=⟨c0 ρ,trivial⟩
end Go.Proofs.YtpbcimfiofmoeaaGreat.knLEx
