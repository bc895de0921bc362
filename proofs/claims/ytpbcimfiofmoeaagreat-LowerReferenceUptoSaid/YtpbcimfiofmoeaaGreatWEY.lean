/- Lemmas for the last file. -/
import Derived.KernelRfl
import Derived.Test.YtpbcimfiofmoeaaGreatRows
import Derived.Test.YtpbcimfiofmoeaaGreatWEX
set_option linter.all false
set_option maxHeartbeats 32000000
namespace Go.Proofs.YtpbcimfiofmoeaaGreat.knLEx
set_option maxRecDepth 20000
open Go Go.Ab
def Ca:List (FuncId×qu×AV):=[]
def k0(ρ:Nat->Int):Am Tryz.prog ρ Ca:=trivial
def kV:qu:=[]
def br:AV:=(.bool true)
def c0(ρ:Nat->Int):bX Tryz.prog ρ 30 kV br:=WM fit (pls:=pls) (k0 ρ) (n:=100000) (m:=100) (k:=100) ax ax
def list:List (FuncId×qu×AV):=[(30,kV,br)]
def ok(ρ:Nat->Int):Am Tryz.prog ρ list:=⟨c0 ρ,trivial⟩
end Go.Proofs.YtpbcimfiofmoeaaGreat.knLEx
