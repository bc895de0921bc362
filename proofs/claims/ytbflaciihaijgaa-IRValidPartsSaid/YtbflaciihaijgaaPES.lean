/- Lemmas for the last file. -/
import Derived.KernelRfl
import Derived.Test.YtbflaciihaijgaaPER
import Derived.Test.YtbflaciihaijgaaRows
set_option linter.all false
set_option maxHeartbeats 32000000
namespace Go.Proofs.Ytbflaciihaijgaa.knIEx
set_option maxRecDepth 20000
open Go Go.Ab
def AR:List (FuncId×qs×AV):=[]
variable(ρ:Nat->Int)
def k0:vo Try.prog ρ AR:=trivial
def mA:qs:=[(.agg [(.ao [[(.ai []),(.int .i64 0)]]),.ah])]
def b9:AV:=(.int .i64 6)
def c0(ρ:Nat->Int):bX Try.prog ρ 18 mA b9:=FF fit (pls:=pls) (k0 ρ) (n:=100000) (m:=100) (k:=100) aG aG
def l1:List (FuncId×qs×AV):=(18,mA,b9)::AR
def k1:vo Try.prog ρ l1:=⟨c0 ρ,k0 ρ⟩
def bK:qs:=[(.agg [(.ao [[(.ai []),(.int .i64 0)]]),.ah])]
def aK:AV:=(.bool false)
def c1(ρ:Nat->Int):bX Try.prog ρ 7 bK aK:=FF fit (pls:=pls) (k1 ρ) (n:=100000) (m:=100) (k:=100) aG aG
def l2:List (FuncId×qs×AV):=(7,bK,aK)::l1
def k2:vo Try.prog ρ l2:=⟨c1 ρ,k1 ρ⟩
def bW:qs:=[]
def bB:AV:=(.bool true)
def c2(ρ:Nat->Int):bX Try.prog ρ 9 bW bB:=FF fit (pls:=pls) (k2 ρ) (n:=100000) (m:=100) (k:=100) aG aG
def list:List (FuncId×qs×AV):=[(9,bW,bB)]
def ok:vo Try.prog ρ list:=⟨c2 ρ,trivial⟩
end Go.Proofs.Ytbflaciihaijgaa.knIEx
