/- Lemmas for the last file. -/
import Derived.KernelRfl
import Derived.Test.YtbflaciihaijgaaRows
import Derived.Test.YtbflaciihaijgaaSEK
set_option linter.all false
set_option maxHeartbeats 32000000
namespace Go.Proofs.Ytbflaciihaijgaa.knEx
set_option maxRecDepth 20000
open Go Go.Ab Proofs.Try
def uZ:List (FuncId×qh×AV):=[]
variable(ρ:Nat->Int)
def fw:ei prog ρ uZ:=trivial
def fx:qh:=[(.ad [97,114,114,97,121,32,97,32,50,59,32,102,117,110,99,32,102,40,41,32,123,32,119,104,105,108,101,32,40,49,41,32,123,32,111,117,116,32,55,59,32,125,32,114,101,116,117,114,110,32, 
 48,59,32,125,32,102,117,110,99,32,103,40,110,41,32,123,32,97,91,110,93,32,61,32,53,59,32,114,101,116,117,114,110,32,97,91,110,93,32,47,32,40,110,32,45,32,49,41,59,32,125,32,102, 
 117,110,99,32,104,40,110,41,32,123,32,110,32,61,32,103,40,110,41,59,32,111,117,116,32,110,59,32,114,101,116,117,114,110,32,110,32,43,32,49,59,32,125])]
def bi:AV:=(.aC [(.af [[(.int .i64 1),(.ad [97,114,114,97,121]),(.int .i64 0)],[(.int .i64 1),(.ad [97]),(.int .i64 6)],[(.int .i64 2),(.ad [50]),(.int .i64 8)],[(.int .i64 3),(.ad [59]),(.int .i64 9)],[(.int .i64 1), 
 (.ad [102,117,110,99]),(.int .i64 11)],[(.int .i64 1),(.ad [102]),(.int .i64 16)],[(.int .i64 3),(.ad [40]),(.int .i64 17)],[(.int .i64 3),(.ad [41]),(.int .i64 18)],[(.int .i64 3),(.ad [123]),(.int .i64 20)], 
 [(.int .i64 1),(.ad [119,104,105,108,101]),(.int .i64 22)],[(.int .i64 3),(.ad [40]),(.int .i64 28)],[(.int .i64 2),(.ad [49]),(.int .i64 29)],[(.int .i64 3),(.ad [41]),(.int .i64 30)],[(.int .i64 3), 
 (.ad [123]),(.int .i64 32)],[(.int .i64 1),(.ad [111,117,116]),(.int .i64 34)],[(.int .i64 2),(.ad [55]),(.int .i64 38)],[(.int .i64 3),(.ad [59]),(.int .i64 39)],[(.int .i64 3),(.ad [125]),(.int .i64 41)], 
 [(.int .i64 1),(.ad [114,101,116,117,114,110]),(.int .i64 43)],[(.int .i64 2),(.ad [48]),(.int .i64 50)],[(.int .i64 3),(.ad [59]),(.int .i64 51)],[(.int .i64 3),(.ad [125]),(.int .i64 53)],[(.int .i64 1), 
 (.ad [102,117,110,99]),(.int .i64 55)],[(.int .i64 1),(.ad [103]),(.int .i64 60)],[(.int .i64 3),(.ad [40]),(.int .i64 61)],[(.int .i64 1),(.ad [110]),(.int .i64 62)],[(.int .i64 3),(.ad [41]),(.int .i64 63)], 
 [(.int .i64 3),(.ad [123]),(.int .i64 65)],[(.int .i64 1),(.ad [97]),(.int .i64 67)],[(.int .i64 3),(.ad [91]),(.int .i64 68)],[(.int .i64 1),(.ad [110]),(.int .i64 69)],[(.int .i64 3),(.ad [93]),(.int .i64 70)], 
 [(.int .i64 3),(.ad [61]),(.int .i64 72)],[(.int .i64 2),(.ad [53]),(.int .i64 74)],[(.int .i64 3),(.ad [59]),(.int .i64 75)],[(.int .i64 1),(.ad [114,101,116,117,114,110]),(.int .i64 77)],[(.int .i64 1), 
 (.ad [97]),(.int .i64 84)],[(.int .i64 3),(.ad [91]),(.int .i64 85)],[(.int .i64 1),(.ad [110]),(.int .i64 86)],[(.int .i64 3),(.ad [93]),(.int .i64 87)],[(.int .i64 3),(.ad [47]),(.int .i64 89)],[(.int .i64 3), 
 (.ad [40]),(.int .i64 91)],[(.int .i64 1),(.ad [110]),(.int .i64 92)],[(.int .i64 3),(.ad [45]),(.int .i64 94)],[(.int .i64 2),(.ad [49]),(.int .i64 96)],[(.int .i64 3),(.ad [41]),(.int .i64 97)],[(.int .i64 3), 
 (.ad [59]),(.int .i64 98)],[(.int .i64 3),(.ad [125]),(.int .i64 100)],[(.int .i64 1),(.ad [102,117,110,99]),(.int .i64 102)],[(.int .i64 1),(.ad [104]),(.int .i64 107)],[(.int .i64 3),(.ad [40]), 
 (.int .i64 108)],[(.int .i64 1),(.ad [110]),(.int .i64 109)],[(.int .i64 3),(.ad [41]),(.int .i64 110)],[(.int .i64 3),(.ad [123]),(.int .i64 112)],[(.int .i64 1),(.ad [110]),(.int .i64 114)],[(.int .i64 3), 
 (.ad [61]),(.int .i64 116)],[(.int .i64 1),(.ad [103]),(.int .i64 118)],[(.int .i64 3),(.ad [40]),(.int .i64 119)],[(.int .i64 1),(.ad [110]),(.int .i64 120)],[(.int .i64 3),(.ad [41]),(.int .i64 121)], 
 [(.int .i64 3),(.ad [59]),(.int .i64 122)],[(.int .i64 1),(.ad [111,117,116]),(.int .i64 124)],[(.int .i64 1),(.ad [110]),(.int .i64 128)],[(.int .i64 3),(.ad [59]),(.int .i64 129)],[(.int .i64 1),(.ad [114, 
 101,116,117,114,110]),(.int .i64 131)],[(.int .i64 1),(.ad [110]),(.int .i64 138)],[(.int .i64 3),(.ad [43]),(.int .i64 140)],[(.int .i64 2),(.ad [49]),(.int .i64 142)],[(.int .i64 3),(.ad [59]), 
 (.int .i64 143)],[(.int .i64 3),(.ad [125]),(.int .i64 145)]]),(.agg [(.int .i64 0),(.int .i64 0)])])
def c0(ρ:Nat->Int):bN prog ρ 23 fx bi:=ju fit (pls:=pls) (fw ρ) (n:=100000) (m:=100) (k:=100) az az
def db:List (FuncId×qh×AV):=(23,fx,bi)::uZ
def bD:ei prog ρ db:=⟨c0 ρ,fw ρ⟩
def cE:qh:=[(.ad [97,114,114,97,121,32,97,32,50,59,32,102,117,110,99,32,102,40,41,32,123,32,119,104,105,108,101,32,40,49,41,32,123,32,111,117,116,32,55,59,32,125,32,114,101,116,117,114,110,32, 
 48,59,32,125,32,102,117,110,99,32,103,40,110,41,32,123,32,97,91,110,93,32,61,32,53,59,32,114,101,116,117,114,110,32,97,91,110,93,32,47,32,40,110,32,45,32,49,41,59,32,125,32,102, 
 117,110,99,32,104,40,110,41,32,123,32,110,32,61,32,103,40,110,41,59,32,111,117,116,32,110,59,32,114,101,116,117,114,110,32,110,32,43,32,49,59,32,125])]
def ao:AV:=(.aC [(.agg [(.af [[(.ad [97]),(.int .i64 2)]]),(.af [[(.ad [102]),.ab,.ab,(.af [[(.int .i64 4),(.ad []),(.ad []),(.int .i64 0),(.int .i64 0),(.int .i64 0),(.ad []),(.int .i64 0),.ab,(.int .i64 1), 
 (.int .i64 1),(.ad []),(.int .i64 0),.ab,.ab,(.af [[(.int .i64 5),(.ad []),(.ad []),(.int .i64 0),(.int .i64 0),(.int .i64 0),(.ad []),(.int .i64 0),.ab,(.int .i64 1),(.int .i64 7),(.ad []), 
 (.int .i64 0),.ab,.ab,.ab,.ab]]),.ab]]),(.int .i64 1),(.int .i64 0),(.ad []),(.int .i64 0),.ab],[(.ad [103]),(.af [[(.ad [110])]]),.ab,(.af [[(.int .i64 2),(.ad [97]),(.ad []),(.int .i64 0), 
 (.int .i64 2),(.int .i64 0),(.ad [110]),(.int .i64 0),.ab,(.int .i64 1),(.int .i64 5),(.ad []),(.int .i64 0),.ab,.ab,.ab,.ab]]),(.int .i64 4),(.int .i64 0),(.ad []),(.int .i64 7),(.af [[(.int .i64 3), 
 (.int .i64 0),(.ad [97]),(.int .i64 0),(.af [[(.int .i64 2),(.int .i64 0),(.ad [110]),(.int .i64 0),.ab]])],[(.int .i64 4),(.int .i64 0),(.ad []),(.int .i64 5),(.af [[(.int .i64 2),(.int .i64 0),(.ad [110]), 
 (.int .i64 0),.ab],[(.int .i64 1),(.int .i64 1),(.ad []),(.int .i64 0),.ab]])]])],[(.ad [104]),(.af [[(.ad [110])]]),.ab,(.af [[(.int .i64 6),(.ad [110]),(.ad [103]),(.int .i64 0),(.int .i64 0), 
 (.int .i64 0),(.ad []),(.int .i64 0),.ab,(.int .i64 0),(.int .i64 0),(.ad []),(.int .i64 0),.ab,(.af [[(.int .i64 2),(.int .i64 0),(.ad [110]),(.int .i64 0),.ab]]),.ab,.ab],[(.int .i64 5),(.ad []), 
 (.ad []),(.int .i64 0),(.int .i64 0),(.int .i64 0),(.ad []),(.int .i64 0),.ab,(.int .i64 2),(.int .i64 0),(.ad [110]),(.int .i64 0),.ab,.ab,.ab,.ab]]),(.int .i64 4),(.int .i64 0),(.ad []), 
 (.int .i64 4),(.af [[(.int .i64 2),(.int .i64 0),(.ad [110]),(.int .i64 0),.ab],[(.int .i64 1),(.int .i64 1),(.ad []),(.int .i64 0),.ab]])]])]),(.agg [(.int .i64 0),(.int .i64 0)])])
def c1(ρ:Nat->Int):bN prog ρ 10 cE ao:=ju fit (pls:=pls) (bD ρ) (n:=100000) (m:=100) (k:=100) az az
def cU:List (FuncId×qh×AV):=(10,cE,ao)::db
def a4:ei prog ρ cU:=⟨c1 ρ,bD ρ⟩
def cK:qh:=[(.agg [(.af [[(.ad [97]),(.int .i64 2)]]),(.af [[(.ad [102]),.ab,.ab,(.af [[(.int .i64 4),(.ad []),(.ad []),(.int .i64 0),(.int .i64 0),(.int .i64 0),(.ad []),(.int .i64 0),.ab,(.int .i64 1), 
 (.int .i64 1),(.ad []),(.int .i64 0),.ab,.ab,(.af [[(.int .i64 5),(.ad []),(.ad []),(.int .i64 0),(.int .i64 0),(.int .i64 0),(.ad []),(.int .i64 0),.ab,(.int .i64 1),(.int .i64 7),(.ad []), 
 (.int .i64 0),.ab,.ab,.ab,.ab]]),.ab]]),(.int .i64 1),(.int .i64 0),(.ad []),(.int .i64 0),.ab],[(.ad [103]),(.af [[(.ad [110])]]),.ab,(.af [[(.int .i64 2),(.ad [97]),(.ad []),(.int .i64 0), 
 (.int .i64 2),(.int .i64 0),(.ad [110]),(.int .i64 0),.ab,(.int .i64 1),(.int .i64 5),(.ad []),(.int .i64 0),.ab,.ab,.ab,.ab]]),(.int .i64 4),(.int .i64 0),(.ad []),(.int .i64 7),(.af [[(.int .i64 3), 
 (.int .i64 0),(.ad [97]),(.int .i64 0),(.af [[(.int .i64 2),(.int .i64 0),(.ad [110]),(.int .i64 0),.ab]])],[(.int .i64 4),(.int .i64 0),(.ad []),(.int .i64 5),(.af [[(.int .i64 2),(.int .i64 0),(.ad [110]), 
 (.int .i64 0),.ab],[(.int .i64 1),(.int .i64 1),(.ad []),(.int .i64 0),.ab]])]])],[(.ad [104]),(.af [[(.ad [110])]]),.ab,(.af [[(.int .i64 6),(.ad [110]),(.ad [103]),(.int .i64 0),(.int .i64 0), 
 (.int .i64 0),(.ad []),(.int .i64 0),.ab,(.int .i64 0),(.int .i64 0),(.ad []),(.int .i64 0),.ab,(.af [[(.int .i64 2),(.int .i64 0),(.ad [110]),(.int .i64 0),.ab]]),.ab,.ab],[(.int .i64 5),(.ad []), 
 (.ad []),(.int .i64 0),(.int .i64 0),(.int .i64 0),(.ad []),(.int .i64 0),.ab,(.int .i64 2),(.int .i64 0),(.ad [110]),(.int .i64 0),.ab,.ab,.ab,.ab]]),(.int .i64 4),(.int .i64 0),(.ad []), 
 (.int .i64 4),(.af [[(.int .i64 2),(.int .i64 0),(.ad [110]),(.int .i64 0),.ab],[(.int .i64 1),(.int .i64 1),(.ad []),(.int .i64 0),.ab]])]])])]
def aC:AV:=(.int .i64 0)
def c2(ρ:Nat->Int):bN prog ρ 18 cK aC:=ju fit (pls:=pls) (a4 ρ) (n:=100000) (m:=100) (k:=100) az az
def kB:List (FuncId×qh×AV):=(18,cK,aC)::cU
def gi:ei prog ρ kB:=⟨c2 ρ,a4 ρ⟩
def fM:qh:=[(.agg [(.af [[(.ad [97]),(.int .i64 2)]]),(.af [[(.ad [102]),.ab,.ab,(.af [[(.int .i64 4),(.ad []),(.ad []),(.int .i64 0),(.int .i64 0),(.int .i64 0),(.ad []),(.int .i64 0),.ab,(.int .i64 1), 
 (.int .i64 1),(.ad []),(.int .i64 0),.ab,.ab,(.af [[(.int .i64 5),(.ad []),(.ad []),(.int .i64 0),(.int .i64 0),(.int .i64 0),(.ad []),(.int .i64 0),.ab,(.int .i64 1),(.int .i64 7),(.ad []), 
 (.int .i64 0),.ab,.ab,.ab,.ab]]),.ab]]),(.int .i64 1),(.int .i64 0),(.ad []),(.int .i64 0),.ab],[(.ad [103]),(.af [[(.ad [110])]]),.ab,(.af [[(.int .i64 2),(.ad [97]),(.ad []),(.int .i64 0), 
 (.int .i64 2),(.int .i64 0),(.ad [110]),(.int .i64 0),.ab,(.int .i64 1),(.int .i64 5),(.ad []),(.int .i64 0),.ab,.ab,.ab,.ab]]),(.int .i64 4),(.int .i64 0),(.ad []),(.int .i64 7),(.af [[(.int .i64 3), 
 (.int .i64 0),(.ad [97]),(.int .i64 0),(.af [[(.int .i64 2),(.int .i64 0),(.ad [110]),(.int .i64 0),.ab]])],[(.int .i64 4),(.int .i64 0),(.ad []),(.int .i64 5),(.af [[(.int .i64 2),(.int .i64 0),(.ad [110]), 
 (.int .i64 0),.ab],[(.int .i64 1),(.int .i64 1),(.ad []),(.int .i64 0),.ab]])]])],[(.ad [104]),(.af [[(.ad [110])]]),.ab,(.af [[(.int .i64 6),(.ad [110]),(.ad [103]),(.int .i64 0),(.int .i64 0), 
 (.int .i64 0),(.ad []),(.int .i64 0),.ab,(.int .i64 0),(.int .i64 0),(.ad []),(.int .i64 0),.ab,(.af [[(.int .i64 2),(.int .i64 0),(.ad [110]),(.int .i64 0),.ab]]),.ab,.ab],[(.int .i64 5),(.ad []), 
 (.ad []),(.int .i64 0),(.int .i64 0),(.int .i64 0),(.ad []),(.int .i64 0),.ab,(.int .i64 2),(.int .i64 0),(.ad [110]),(.int .i64 0),.ab,.ab,.ab,.ab]]),(.int .i64 4),(.int .i64 0),(.ad []), 
 (.int .i64 4),(.af [[(.int .i64 2),(.int .i64 0),(.ad [110]),(.int .i64 0),.ab],[(.int .i64 1),(.int .i64 1),(.ad []),(.int .i64 0),.ab]])]])]),(.ad [102]),.ab,(.int .i64 2)]
def zU:AV:=(.agg [(.int .i64 3),(.int .i64 0),(.af [[(.int .i64 7)],[(.int .i64 7)]]),(.int .i64 0)])
def c3(ρ:Nat->Int):bN prog ρ 13 fM zU:=ju fit (pls:=pls) (gi ρ) (n:=100000) (m:=100) (k:=100) az az
def zV:List (FuncId×qh×AV):=(13,fM,zU)::kB
def iA:ei prog ρ zV:=⟨c3 ρ,gi ρ⟩
def er:qh:=[(.agg [(.af [[(.ad [97]),(.int .i64 2)]]),(.af [[(.ad [102]),.ab,.ab,(.af [[(.int .i64 4),(.ad []),(.ad []),(.int .i64 0),(.int .i64 0),(.int .i64 0),(.ad []),(.int .i64 0),.ab,(.int .i64 1), 
 (.int .i64 1),(.ad []),(.int .i64 0),.ab,.ab,(.af [[(.int .i64 5),(.ad []),(.ad []),(.int .i64 0),(.int .i64 0),(.int .i64 0),(.ad []),(.int .i64 0),.ab,(.int .i64 1),(.int .i64 7),(.ad []), 
 (.int .i64 0),.ab,.ab,.ab,.ab]]),.ab]]),(.int .i64 1),(.int .i64 0),(.ad []),(.int .i64 0),.ab],[(.ad [103]),(.af [[(.ad [110])]]),.ab,(.af [[(.int .i64 2),(.ad [97]),(.ad []),(.int .i64 0), 
 (.int .i64 2),(.int .i64 0),(.ad [110]),(.int .i64 0),.ab,(.int .i64 1),(.int .i64 5),(.ad []),(.int .i64 0),.ab,.ab,.ab,.ab]]),(.int .i64 4),(.int .i64 0),(.ad []),(.int .i64 7),(.af [[(.int .i64 3), 
 (.int .i64 0),(.ad [97]),(.int .i64 0),(.af [[(.int .i64 2),(.int .i64 0),(.ad [110]),(.int .i64 0),.ab]])],[(.int .i64 4),(.int .i64 0),(.ad []),(.int .i64 5),(.af [[(.int .i64 2),(.int .i64 0),(.ad [110]), 
 (.int .i64 0),.ab],[(.int .i64 1),(.int .i64 1),(.ad []),(.int .i64 0),.ab]])]])],[(.ad [104]),(.af [[(.ad [110])]]),.ab,(.af [[(.int .i64 6),(.ad [110]),(.ad [103]),(.int .i64 0),(.int .i64 0), 
 (.int .i64 0),(.ad []),(.int .i64 0),.ab,(.int .i64 0),(.int .i64 0),(.ad []),(.int .i64 0),.ab,(.af [[(.int .i64 2),(.int .i64 0),(.ad [110]),(.int .i64 0),.ab]]),.ab,.ab],[(.int .i64 5),(.ad []), 
 (.ad []),(.int .i64 0),(.int .i64 0),(.int .i64 0),(.ad []),(.int .i64 0),.ab,(.int .i64 2),(.int .i64 0),(.ad [110]),(.int .i64 0),.ab,.ab,.ab,.ab]]),(.int .i64 4),(.int .i64 0),(.ad []), 
 (.int .i64 4),(.af [[(.int .i64 2),(.int .i64 0),(.ad [110]),(.int .i64 0),.ab],[(.int .i64 1),(.int .i64 1),(.ad []),(.int .i64 0),.ab]])]])]),(.ad [103]),(.af [[(.int .i64 1)]]),(.int .i64 0)]
def zW:AV:=(.agg [(.int .i64 2),(.int .i64 1),.ab,(.int .i64 0)])
def c4(ρ:Nat->Int):bN prog ρ 13 er zW:=ju fit (pls:=pls) (iA ρ) (n:=100000) (m:=100) (k:=100) az az
def zX:List (FuncId×qh×AV):=(13,er,zW)::zV
def u0:ei prog ρ zX:=⟨c4 ρ,iA ρ⟩
def dz:qh:=[(.agg [(.af [[(.ad [97]),(.int .i64 2)]]),(.af [[(.ad [102]),.ab,.ab,(.af [[(.int .i64 4),(.ad []),(.ad []),(.int .i64 0),(.int .i64 0),(.int .i64 0),(.ad []),(.int .i64 0),.ab,(.int .i64 1), 
 (.int .i64 1),(.ad []),(.int .i64 0),.ab,.ab,(.af [[(.int .i64 5),(.ad []),(.ad []),(.int .i64 0),(.int .i64 0),(.int .i64 0),(.ad []),(.int .i64 0),.ab,(.int .i64 1),(.int .i64 7),(.ad []), 
 (.int .i64 0),.ab,.ab,.ab,.ab]]),.ab]]),(.int .i64 1),(.int .i64 0),(.ad []),(.int .i64 0),.ab],[(.ad [103]),(.af [[(.ad [110])]]),.ab,(.af [[(.int .i64 2),(.ad [97]),(.ad []),(.int .i64 0), 
 (.int .i64 2),(.int .i64 0),(.ad [110]),(.int .i64 0),.ab,(.int .i64 1),(.int .i64 5),(.ad []),(.int .i64 0),.ab,.ab,.ab,.ab]]),(.int .i64 4),(.int .i64 0),(.ad []),(.int .i64 7),(.af [[(.int .i64 3), 
 (.int .i64 0),(.ad [97]),(.int .i64 0),(.af [[(.int .i64 2),(.int .i64 0),(.ad [110]),(.int .i64 0),.ab]])],[(.int .i64 4),(.int .i64 0),(.ad []),(.int .i64 5),(.af [[(.int .i64 2),(.int .i64 0),(.ad [110]), 
 (.int .i64 0),.ab],[(.int .i64 1),(.int .i64 1),(.ad []),(.int .i64 0),.ab]])]])],[(.ad [104]),(.af [[(.ad [110])]]),.ab,(.af [[(.int .i64 6),(.ad [110]),(.ad [103]),(.int .i64 0),(.int .i64 0), 
 (.int .i64 0),(.ad []),(.int .i64 0),.ab,(.int .i64 0),(.int .i64 0),(.ad []),(.int .i64 0),.ab,(.af [[(.int .i64 2),(.int .i64 0),(.ad [110]),(.int .i64 0),.ab]]),.ab,.ab],[(.int .i64 5),(.ad []), 
 (.ad []),(.int .i64 0),(.int .i64 0),(.int .i64 0),(.ad []),(.int .i64 0),.ab,(.int .i64 2),(.int .i64 0),(.ad [110]),(.int .i64 0),.ab,.ab,.ab,.ab]]),(.int .i64 4),(.int .i64 0),(.ad []), 
 (.int .i64 4),(.af [[(.int .i64 2),(.int .i64 0),(.ad [110]),(.int .i64 0),.ab],[(.int .i64 1),(.int .i64 1),(.ad []),(.int .i64 0),.ab]])]])]),(.ad [103]),(.af [[(.int .i64 2)]]),(.int .i64 0)]
def zY:AV:=(.agg [(.int .i64 2),(.int .i64 2),.ab,(.int .i64 0)])
def c5(ρ:Nat->Int):bN prog ρ 13 dz zY:=ju fit (pls:=pls) (u0 ρ) (n:=100000) (m:=100) (k:=100) az az
def zZ:List (FuncId×qh×AV):=(13,dz,zY)::zX
def lT:ei prog ρ zZ:=⟨c5 ρ,u0 ρ⟩
def ee:qh:=[(.agg [(.af [[(.ad [97]),(.int .i64 2)]]),(.af [[(.ad [102]),.ab,.ab,(.af [[(.int .i64 4),(.ad []),(.ad []),(.int .i64 0),(.int .i64 0),(.int .i64 0),(.ad []),(.int .i64 0),.ab,(.int .i64 1), 
 (.int .i64 1),(.ad []),(.int .i64 0),.ab,.ab,(.af [[(.int .i64 5),(.ad []),(.ad []),(.int .i64 0),(.int .i64 0),(.int .i64 0),(.ad []),(.int .i64 0),.ab,(.int .i64 1),(.int .i64 7),(.ad []), 
 (.int .i64 0),.ab,.ab,.ab,.ab]]),.ab]]),(.int .i64 1),(.int .i64 0),(.ad []),(.int .i64 0),.ab],[(.ad [103]),(.af [[(.ad [110])]]),.ab,(.af [[(.int .i64 2),(.ad [97]),(.ad []),(.int .i64 0), 
 (.int .i64 2),(.int .i64 0),(.ad [110]),(.int .i64 0),.ab,(.int .i64 1),(.int .i64 5),(.ad []),(.int .i64 0),.ab,.ab,.ab,.ab]]),(.int .i64 4),(.int .i64 0),(.ad []),(.int .i64 7),(.af [[(.int .i64 3), 
 (.int .i64 0),(.ad [97]),(.int .i64 0),(.af [[(.int .i64 2),(.int .i64 0),(.ad [110]),(.int .i64 0),.ab]])],[(.int .i64 4),(.int .i64 0),(.ad []),(.int .i64 5),(.af [[(.int .i64 2),(.int .i64 0),(.ad [110]), 
 (.int .i64 0),.ab],[(.int .i64 1),(.int .i64 1),(.ad []),(.int .i64 0),.ab]])]])],[(.ad [104]),(.af [[(.ad [110])]]),.ab,(.af [[(.int .i64 6),(.ad [110]),(.ad [103]),(.int .i64 0),(.int .i64 0), 
 (.int .i64 0),(.ad []),(.int .i64 0),.ab,(.int .i64 0),(.int .i64 0),(.ad []),(.int .i64 0),.ab,(.af [[(.int .i64 2),(.int .i64 0),(.ad [110]),(.int .i64 0),.ab]]),.ab,.ab],[(.int .i64 5),(.ad []), 
 (.ad []),(.int .i64 0),(.int .i64 0),(.int .i64 0),(.ad []),(.int .i64 0),.ab,(.int .i64 2),(.int .i64 0),(.ad [110]),(.int .i64 0),.ab,.ab,.ab,.ab]]),(.int .i64 4),(.int .i64 0),(.ad []), 
 (.int .i64 4),(.af [[(.int .i64 2),(.int .i64 0),(.ad [110]),(.int .i64 0),.ab],[(.int .i64 1),(.int .i64 1),(.ad []),(.int .i64 0),.ab]])]])]),(.ad [104]),(.af [[(.int .i64 0)]]),(.int .i64 1)]
def iB:AV:=(.agg [(.int .i64 1),(.int .i64 0),(.af [[(.int .i64 (-5))]]),(.int .i64 (-4))])
def c6(ρ:Nat->Int):bN prog ρ 13 ee iB:=ju fit (pls:=pls) (lT ρ) (n:=100000) (m:=100) (k:=100) az az
def Hq:List (FuncId×qh×AV):=(13,ee,iB)::zZ
def jf:ei prog ρ Hq:=⟨c6 ρ,lT ρ⟩
def hO:qh:=[]
def sr:AV:=(.bool true)
def c7(ρ:Nat->Int):bN prog ρ 15 hO sr:=ju fit (pls:=pls) (jf ρ) (n:=100000) (m:=100) (k:=100) az az
def list:List (FuncId×qh×AV):=[(15,hO,sr)]
def ok:ei prog ρ list:=⟨c7 ρ,trivial⟩
end Go.Proofs.Ytbflaciihaijgaa.knEx
