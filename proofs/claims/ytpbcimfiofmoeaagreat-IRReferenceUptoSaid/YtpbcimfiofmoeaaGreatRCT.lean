/- Parts: KnIEx. -/
import Derived.KernelRfl
import Derived.Test.YtpbcimfiofmoeaaGreatRCS
import Derived.Test.YtpbcimfiofmoeaaGreatRows
set_option linter.unusedSimpArgs false
set_option linter.unusedVariables false
set_option linter.unusedSectionVars false
set_option linter.defProp false
set_option maxHeartbeats 32000000
namespace Go.Proofs.YtpbcimfiofmoeaaGreat.knIEx
set_option maxRecDepth 20000
open Go Go.Ab
def zgI:List (FuncId×List AV×AV):=[]
theorem k0(ρ:Nat->Int):vb Tryz.prog ρ zgI:=trivial
def a0:List AV:=[]
def zee:AV:=(.bool true)
theorem c0(ρ:Nat->Int):bV Tryz.prog ρ 21 a0 zee:=Qb fit (pls:=pls) (k0 ρ) (n:=100000) (m:=100) (k:=100) aC aC
def l1:List (FuncId×List AV×AV):=(21,a0,zee)::zgI
theorem k1(ρ:Nat->Int):vb Tryz.prog ρ l1:=⟨c0 ρ,k0 ρ⟩
def list:List (FuncId×List AV×AV):=[(21,a0,zee)]
theorem ok(ρ:Nat->Int):vb Tryz.prog ρ list:=⟨c0 ρ,trivial⟩
end Go.Proofs.YtpbcimfiofmoeaaGreat.knIEx
