/- Parts: KnEvEx. -/
import Derived.KernelRfl
import Derived.Test.YtljebeflbbgibaaGreatRows
import Derived.Test.YtljebeflbbgibaaGreatYCO
set_option linter.unusedSimpArgs false
set_option linter.unusedVariables false
set_option linter.unusedSectionVars false
set_option linter.defProp false
set_option maxHeartbeats 32000000
namespace Go.Proofs.YtljebeflbbgibaaGreat.knEvEx
set_option maxRecDepth 20000
open Go Go.Ab
def l0:List (FuncId×List AV×AV):=[]
theorem zd3(ρ:Nat->Int):jV Tryz.prog ρ l0:=trivial
def a0:List AV:=[(.str [102,117,110,99,32,102,40,120,41,32,123,32,114,101,116,117,114,110,32,49,32,47,32,120,59,32,125,32,102,117,110,99,32,103,40,110,41,32,118,97,114,32,105,32,123,32,119,104,105, 
 108,101,32,40,105,32,60,32,110,41,32,123,32,111,117,116,32,105,59,32,105,32,61,32,105,32,43,32,49,59,32,125,32,114,101,116,117,114,110,32,105,59,32,125])]
def zdg:AV:=(.tup [(.lst [[(.int .i64 1),(.str [102,117,110,99]),(.int .i64 0)],[(.int .i64 1),(.str [102]),(.int .i64 5)],[(.int .i64 3),(.str [40]),(.int .i64 6)],[(.int .i64 1),(.str [120]),(.int .i64 7)],[(.int .i64 3), 
 (.str [41]),(.int .i64 8)],[(.int .i64 3),(.str [123]),(.int .i64 10)],[(.int .i64 1),(.str [114,101,116,117,114,110]),(.int .i64 12)],[(.int .i64 2),(.str [49]),(.int .i64 19)],[(.int .i64 3),(.str [47]), 
 (.int .i64 21)],[(.int .i64 1),(.str [120]),(.int .i64 23)],[(.int .i64 3),(.str [59]),(.int .i64 24)],[(.int .i64 3),(.str [125]),(.int .i64 26)],[(.int .i64 1),(.str [102,117,110,99]),(.int .i64 28)], 
 [(.int .i64 1),(.str [103]),(.int .i64 33)],[(.int .i64 3),(.str [40]),(.int .i64 34)],[(.int .i64 1),(.str [110]),(.int .i64 35)],[(.int .i64 3),(.str [41]),(.int .i64 36)],[(.int .i64 1),(.str [118,97,114]), 
 (.int .i64 38)],[(.int .i64 1),(.str [105]),(.int .i64 42)],[(.int .i64 3),(.str [123]),(.int .i64 44)],[(.int .i64 1),(.str [119,104,105,108,101]),(.int .i64 46)],[(.int .i64 3),(.str [40]),(.int .i64 52)], 
 [(.int .i64 1),(.str [105]),(.int .i64 53)],[(.int .i64 3),(.str [60]),(.int .i64 55)],[(.int .i64 1),(.str [110]),(.int .i64 57)],[(.int .i64 3),(.str [41]),(.int .i64 58)],[(.int .i64 3),(.str [123]), 
 (.int .i64 60)],[(.int .i64 1),(.str [111,117,116]),(.int .i64 62)],[(.int .i64 1),(.str [105]),(.int .i64 66)],[(.int .i64 3),(.str [59]),(.int .i64 67)],[(.int .i64 1),(.str [105]),(.int .i64 69)],[(.int .i64 3), 
 (.str [61]),(.int .i64 71)],[(.int .i64 1),(.str [105]),(.int .i64 73)],[(.int .i64 3),(.str [43]),(.int .i64 75)],[(.int .i64 2),(.str [49]),(.int .i64 77)],[(.int .i64 3),(.str [59]),(.int .i64 78)],[(.int .i64 3), 
 (.str [125]),(.int .i64 80)],[(.int .i64 1),(.str [114,101,116,117,114,110]),(.int .i64 82)],[(.int .i64 1),(.str [105]),(.int .i64 89)],[(.int .i64 3),(.str [59]),(.int .i64 90)],[(.int .i64 3),(.str [125]), 
 (.int .i64 92)]]),(.agg [(.int .i64 0),(.int .i64 0)])])
theorem c0(ρ:Nat->Int):bh Tryz.prog ρ 66 a0 zdg:=zfA fit (pls:=pls) (zd3 ρ) (n:=100000) (m:=100) (k:=100) af af
def l1:List (FuncId×List AV×AV):=(66,a0,zdg)::l0
theorem k1(ρ:Nat->Int):jV Tryz.prog ρ l1:=⟨c0 ρ,zd3 ρ⟩
def zd0:List AV:=[(.str [102,117,110,99,32,102,40,120,41,32,123,32,114,101,116,117,114,110,32,49,32,47,32,120,59,32,125,32,102,117,110,99,32,103,40,110,41,32,118,97,114,32,105,32,123,32,119,104,105, 
 108,101,32,40,105,32,60,32,110,41,32,123,32,111,117,116,32,105,59,32,105,32,61,32,105,32,43,32,49,59,32,125,32,114,101,116,117,114,110,32,105,59,32,125])]
def zc0:AV:=(.tup [(.agg [.nilS,(.lst [[(.str [102]),(.lst [[(.str [120])]]),.nilS,.nilS,(.int .i64 4),(.int .i64 0),(.str []),(.int .i64 7),(.lst [[(.int .i64 1),(.int .i64 1),(.str []),(.int .i64 0),.nilS],[(.int .i64 2), 
 (.int .i64 0),(.str [120]),(.int .i64 0),.nilS]])],[(.str [103]),(.lst [[(.str [110])]]),(.lst [[(.str [105])]]),(.lst [[(.int .i64 4),(.str []),(.str []),(.int .i64 0),(.int .i64 0),(.int .i64 0),(.str []), 
 (.int .i64 0),.nilS,(.int .i64 4),(.int .i64 0),(.str []),(.int .i64 17),(.lst [[(.int .i64 2),(.int .i64 0),(.str [105]),(.int .i64 0),.nilS],[(.int .i64 2),(.int .i64 0),(.str [110]),(.int .i64 0),.nilS]]),.nilS, 
 (.lst [[(.int .i64 5),(.str []),(.str []),(.int .i64 0),(.int .i64 0),(.int .i64 0),(.str []),(.int .i64 0),.nilS,(.int .i64 2),(.int .i64 0),(.str [105]),(.int .i64 0),.nilS,.nilS,.nilS,.nilS],[(.int .i64 1), 
 (.str [105]),(.str []),(.int .i64 0),(.int .i64 0),(.int .i64 0),(.str []),(.int .i64 0),.nilS,(.int .i64 4),(.int .i64 0),(.str []),(.int .i64 4),(.lst [[(.int .i64 2),(.int .i64 0),(.str [105]),(.int .i64 0), 
 .nilS],[(.int .i64 1),(.int .i64 1),(.str []),(.int .i64 0),.nilS]]),.nilS,.nilS,.nilS]]),.nilS]]),(.int .i64 2),(.int .i64 0),(.str [105]),(.int .i64 0),.nilS]])]),(.agg [(.int .i64 0),(.int .i64 0)])])
theorem c1(ρ:Nat->Int):bh Tryz.prog ρ 37 zd0 zc0:=zfA fit (pls:=pls) (k1 ρ) (n:=100000) (m:=100) (k:=100) af af
def l2:List (FuncId×List AV×AV):=(37,zd0,zc0)::l1
theorem zdp(ρ:Nat->Int):jV Tryz.prog ρ l2:=⟨c1 ρ,k1 ρ⟩
def a2:List AV:=[(.agg [.nilS,(.lst [[(.str [102]),(.lst [[(.str [120])]]),.nilS,.nilS,(.int .i64 4),(.int .i64 0),(.str []),(.int .i64 7),(.lst [[(.int .i64 1),(.int .i64 1),(.str []),(.int .i64 0),.nilS],[(.int .i64 2), 
 (.int .i64 0),(.str [120]),(.int .i64 0),.nilS]])],[(.str [103]),(.lst [[(.str [110])]]),(.lst [[(.str [105])]]),(.lst [[(.int .i64 4),(.str []),(.str []),(.int .i64 0),(.int .i64 0),(.int .i64 0),(.str []), 
 (.int .i64 0),.nilS,(.int .i64 4),(.int .i64 0),(.str []),(.int .i64 17),(.lst [[(.int .i64 2),(.int .i64 0),(.str [105]),(.int .i64 0),.nilS],[(.int .i64 2),(.int .i64 0),(.str [110]),(.int .i64 0),.nilS]]),.nilS, 
 (.lst [[(.int .i64 5),(.str []),(.str []),(.int .i64 0),(.int .i64 0),(.int .i64 0),(.str []),(.int .i64 0),.nilS,(.int .i64 2),(.int .i64 0),(.str [105]),(.int .i64 0),.nilS,.nilS,.nilS,.nilS],[(.int .i64 1), 
 (.str [105]),(.str []),(.int .i64 0),(.int .i64 0),(.int .i64 0),(.str []),(.int .i64 0),.nilS,(.int .i64 4),(.int .i64 0),(.str []),(.int .i64 4),(.lst [[(.int .i64 2),(.int .i64 0),(.str [105]),(.int .i64 0), 
 .nilS],[(.int .i64 1),(.int .i64 1),(.str []),(.int .i64 0),.nilS]]),.nilS,.nilS,.nilS]]),.nilS]]),(.int .i64 2),(.int .i64 0),(.str [105]),(.int .i64 0),.nilS]])])]
def r2:AV:=(.int .i64 0)
theorem c2(ρ:Nat->Int):bh Tryz.prog ρ 73 a2 r2:=zfA fit (pls:=pls) (zdp ρ) (n:=100000) (m:=100) (k:=100) af af
def zfR:List (FuncId×List AV×AV):=(73,a2,r2)::l2
theorem k3(ρ:Nat->Int):jV Tryz.prog ρ zfR:=⟨c2 ρ,zdp ρ⟩
def a3:List AV:=[(.agg [.nilS,(.lst [[(.str [102]),(.lst [[(.str [120])]]),.nilS,.nilS,(.int .i64 4),(.int .i64 0),(.str []),(.int .i64 7),(.lst [[(.int .i64 1),(.int .i64 1),(.str []),(.int .i64 0),.nilS],[(.int .i64 2), 
 (.int .i64 0),(.str [120]),(.int .i64 0),.nilS]])],[(.str [103]),(.lst [[(.str [110])]]),(.lst [[(.str [105])]]),(.lst [[(.int .i64 4),(.str []),(.str []),(.int .i64 0),(.int .i64 0),(.int .i64 0),(.str []), 
 (.int .i64 0),.nilS,(.int .i64 4),(.int .i64 0),(.str []),(.int .i64 17),(.lst [[(.int .i64 2),(.int .i64 0),(.str [105]),(.int .i64 0),.nilS],[(.int .i64 2),(.int .i64 0),(.str [110]),(.int .i64 0),.nilS]]),.nilS, 
 (.lst [[(.int .i64 5),(.str []),(.str []),(.int .i64 0),(.int .i64 0),(.int .i64 0),(.str []),(.int .i64 0),.nilS,(.int .i64 2),(.int .i64 0),(.str [105]),(.int .i64 0),.nilS,.nilS,.nilS,.nilS],[(.int .i64 1), 
 (.str [105]),(.str []),(.int .i64 0),(.int .i64 0),(.int .i64 0),(.str []),(.int .i64 0),.nilS,(.int .i64 4),(.int .i64 0),(.str []),(.int .i64 4),(.lst [[(.int .i64 2),(.int .i64 0),(.str [105]),(.int .i64 0), 
 .nilS],[(.int .i64 1),(.int .i64 1),(.str []),(.int .i64 0),.nilS]]),.nilS,.nilS,.nilS]]),.nilS]]),(.int .i64 2),(.int .i64 0),(.str [105]),(.int .i64 0),.nilS]])])]
def r3:AV:=(.tup [(.agg [(.lst []),(.lst [[(.str [102]),(.int .i64 1),(.lst [[(.int .i64 26),(.int .i64 0),(.lst [])],[(.int .i64 2),(.int .i64 0),(.lst [])],[(.int .i64 1),(.int .i64 1),(.lst [])],[(.int .i64 1),(.int .i64 0), 
 (.lst [])],[(.int .i64 16),(.int .i64 0),(.lst [[(.int .i64 1)],[(.int .i64 3)]])],[(.int .i64 27),(.int .i64 1),(.lst [[(.int .i64 0)],[(.int .i64 4)]])],[(.int .i64 7),(.int .i64 0),(.lst [[(.int .i64 2)], 
 [(.int .i64 1)]])]]),(.int .i64 6),(.int .i64 5)],[(.str [103]),(.int .i64 1),(.lst [[(.int .i64 26),(.int .i64 0),(.lst [])],[(.int .i64 2),(.int .i64 0),(.lst [])],[(.int .i64 1),(.int .i64 0),(.lst [])], 
 [(.int .i64 17),(.int .i64 0),(.lst [[(.int .i64 2)],[(.int .i64 1)]])],[(.int .i64 3),(.int .i64 0),(.lst [])],[(.int .i64 3),(.int .i64 1),(.lst [])],[(.int .i64 29),(.int .i64 0),(.lst [[(.int .i64 4)], 
 [(.int .i64 5)]])],[(.int .i64 1),(.int .i64 1),(.lst [])],[(.int .i64 4),(.int .i64 0),(.lst [[(.int .i64 5)],[(.int .i64 7)]])],[(.int .i64 17),(.int .i64 0),(.lst [[(.int .i64 8)],[(.int .i64 1)]])],[(.int .i64 31), 
 (.int .i64 0),(.lst [[(.int .i64 0)],[(.int .i64 2)],[(.int .i64 9)],[(.int .i64 6)],[(.int .i64 8)]])],[(.int .i64 25),(.int .i64 0),(.lst [[(.int .i64 10)]])],[(.int .i64 22),(.int .i64 0),(.lst [[(.int .i64 3)], 
 [(.int .i64 11)],[(.int .i64 0)]])],[(.int .i64 25),(.int .i64 1),(.lst [[(.int .i64 10)]])],[(.int .i64 22),(.int .i64 0),(.lst [[(.int .i64 3)],[(.int .i64 13)],[(.int .i64 2)]])]]),(.int .i64 14),(.int .i64 12)]])]), 
 (.int .i64 0)])
theorem c3(ρ:Nat->Int):bh Tryz.prog ρ 38 a3 r3:=zfA fit (pls:=pls) (k3 ρ) (n:=100000) (m:=100) (k:=100) af af
def zfS:List (FuncId×List AV×AV):=(38,a3,r3)::zfR
theorem zfs(ρ:Nat->Int):jV Tryz.prog ρ zfS:=⟨c3 ρ,k3 ρ⟩
def zeh:List AV:=[(.agg [(.lst []),(.lst [[(.str [102]),.nilS,.nilS,.nilS,(.int .i64 1),(.int .i64 0),(.str []),(.int .i64 0),.nilS],[(.str [103]),.nilS,.nilS,.nilS,(.int .i64 1),(.int .i64 0),(.str []),(.int .i64 0),.nilS]])])]
def zfN:AV:=(.int .i64 0)
theorem c4(ρ:Nat->Int):bh Tryz.prog ρ 55 zeh zfN:=zfA fit (pls:=pls) (zfs ρ) (n:=100000) (m:=100) (k:=100) af af
def l5:List (FuncId×List AV×AV):=(55,zeh,zfN)::zfS
theorem zeL(ρ:Nat->Int):jV Tryz.prog ρ l5:=⟨c4 ρ,zfs ρ⟩
def a5:List AV:=[(.agg [(.lst []),(.lst [[(.str [102]),(.int .i64 1),(.lst [[(.int .i64 26),(.int .i64 0),(.lst [])],[(.int .i64 2),(.int .i64 0),(.lst [])],[(.int .i64 1),(.int .i64 1),(.lst [])],[(.int .i64 1),(.int .i64 0), 
 (.lst [])],[(.int .i64 16),(.int .i64 0),(.lst [[(.int .i64 1)],[(.int .i64 3)]])],[(.int .i64 27),(.int .i64 1),(.lst [[(.int .i64 0)],[(.int .i64 4)]])],[(.int .i64 7),(.int .i64 0),(.lst [[(.int .i64 2)], 
 [(.int .i64 1)]])]]),(.int .i64 6),(.int .i64 5)],[(.str [103]),(.int .i64 1),(.lst [[(.int .i64 26),(.int .i64 0),(.lst [])],[(.int .i64 2),(.int .i64 0),(.lst [])],[(.int .i64 1),(.int .i64 0),(.lst [])], 
 [(.int .i64 17),(.int .i64 0),(.lst [[(.int .i64 2)],[(.int .i64 1)]])],[(.int .i64 3),(.int .i64 0),(.lst [])],[(.int .i64 3),(.int .i64 1),(.lst [])],[(.int .i64 29),(.int .i64 0),(.lst [[(.int .i64 4)], 
 [(.int .i64 5)]])],[(.int .i64 1),(.int .i64 1),(.lst [])],[(.int .i64 4),(.int .i64 0),(.lst [[(.int .i64 5)],[(.int .i64 7)]])],[(.int .i64 17),(.int .i64 0),(.lst [[(.int .i64 8)],[(.int .i64 1)]])],[(.int .i64 31), 
 (.int .i64 0),(.lst [[(.int .i64 0)],[(.int .i64 2)],[(.int .i64 9)],[(.int .i64 6)],[(.int .i64 8)]])],[(.int .i64 25),(.int .i64 0),(.lst [[(.int .i64 10)]])],[(.int .i64 22),(.int .i64 0),(.lst [[(.int .i64 3)], 
 [(.int .i64 11)],[(.int .i64 0)]])],[(.int .i64 25),(.int .i64 1),(.lst [[(.int .i64 10)]])],[(.int .i64 22),(.int .i64 0),(.lst [[(.int .i64 3)],[(.int .i64 13)],[(.int .i64 2)]])]]),(.int .i64 14),(.int .i64 12)]])])]
def r5:AV:=(.bool true)
theorem c5(ρ:Nat->Int):bh Tryz.prog ρ 31 a5 r5:=zfA fit (pls:=pls) (zeL ρ) (n:=100000) (m:=100) (k:=100) af af
def l6:List (FuncId×List AV×AV):=(31,a5,r5)::l5
theorem zft(ρ:Nat->Int):jV Tryz.prog ρ l6:=⟨c5 ρ,zeL ρ⟩
def zfu:List AV:=[(.agg [(.lst []),(.lst [[(.str [102]),(.int .i64 1),(.lst [[(.int .i64 26),(.int .i64 0),(.lst [])],[(.int .i64 2),(.int .i64 0),(.lst [])],[(.int .i64 1),(.int .i64 1),(.lst [])],[(.int .i64 1),(.int .i64 0), 
 (.lst [])],[(.int .i64 16),(.int .i64 0),(.lst [[(.int .i64 1)],[(.int .i64 3)]])],[(.int .i64 27),(.int .i64 1),(.lst [[(.int .i64 0)],[(.int .i64 4)]])],[(.int .i64 7),(.int .i64 0),(.lst [[(.int .i64 2)], 
 [(.int .i64 1)]])]]),(.int .i64 6),(.int .i64 5)],[(.str [103]),(.int .i64 1),(.lst [[(.int .i64 26),(.int .i64 0),(.lst [])],[(.int .i64 2),(.int .i64 0),(.lst [])],[(.int .i64 1),(.int .i64 0),(.lst [])], 
 [(.int .i64 17),(.int .i64 0),(.lst [[(.int .i64 2)],[(.int .i64 1)]])],[(.int .i64 3),(.int .i64 0),(.lst [])],[(.int .i64 3),(.int .i64 1),(.lst [])],[(.int .i64 29),(.int .i64 0),(.lst [[(.int .i64 4)], 
 [(.int .i64 5)]])],[(.int .i64 1),(.int .i64 1),(.lst [])],[(.int .i64 4),(.int .i64 0),(.lst [[(.int .i64 5)],[(.int .i64 7)]])],[(.int .i64 17),(.int .i64 0),(.lst [[(.int .i64 8)],[(.int .i64 1)]])],[(.int .i64 31), 
 (.int .i64 0),(.lst [[(.int .i64 0)],[(.int .i64 2)],[(.int .i64 9)],[(.int .i64 6)],[(.int .i64 8)]])],[(.int .i64 25),(.int .i64 0),(.lst [[(.int .i64 10)]])],[(.int .i64 22),(.int .i64 0),(.lst [[(.int .i64 3)], 
 [(.int .i64 11)],[(.int .i64 0)]])],[(.int .i64 25),(.int .i64 1),(.lst [[(.int .i64 10)]])],[(.int .i64 22),(.int .i64 0),(.lst [[(.int .i64 3)],[(.int .i64 13)],[(.int .i64 2)]])]]),(.int .i64 14),(.int .i64 12)]])]), 
 (.str [102]),(.lst [[(.int .i64 0)]]),(.int .i64 0)]
def r6:AV:=(.agg [(.int .i64 2),(.int .i64 1),(.lst []),(.int .i64 0)])
theorem c6(ρ:Nat->Int):bh Tryz.prog ρ 14 zfu r6:=zfA fit (pls:=pls) (zft ρ) (n:=100000) (m:=100) (k:=100) af af
def l7:List (FuncId×List AV×AV):=(14,zfu,r6)::l6
theorem zfH(ρ:Nat->Int):jV Tryz.prog ρ l7:=⟨c6 ρ,zft ρ⟩
def zfG:List AV:=[(.agg [(.lst []),(.lst [[(.str [102]),(.int .i64 1),(.lst [[(.int .i64 26),(.int .i64 0),(.lst [])],[(.int .i64 2),(.int .i64 0),(.lst [])],[(.int .i64 1),(.int .i64 1),(.lst [])],[(.int .i64 1),(.int .i64 0), 
 (.lst [])],[(.int .i64 16),(.int .i64 0),(.lst [[(.int .i64 1)],[(.int .i64 3)]])],[(.int .i64 27),(.int .i64 1),(.lst [[(.int .i64 0)],[(.int .i64 4)]])],[(.int .i64 7),(.int .i64 0),(.lst [[(.int .i64 2)], 
 [(.int .i64 1)]])]]),(.int .i64 6),(.int .i64 5)],[(.str [103]),(.int .i64 1),(.lst [[(.int .i64 26),(.int .i64 0),(.lst [])],[(.int .i64 2),(.int .i64 0),(.lst [])],[(.int .i64 1),(.int .i64 0),(.lst [])], 
 [(.int .i64 17),(.int .i64 0),(.lst [[(.int .i64 2)],[(.int .i64 1)]])],[(.int .i64 3),(.int .i64 0),(.lst [])],[(.int .i64 3),(.int .i64 1),(.lst [])],[(.int .i64 29),(.int .i64 0),(.lst [[(.int .i64 4)], 
 [(.int .i64 5)]])],[(.int .i64 1),(.int .i64 1),(.lst [])],[(.int .i64 4),(.int .i64 0),(.lst [[(.int .i64 5)],[(.int .i64 7)]])],[(.int .i64 17),(.int .i64 0),(.lst [[(.int .i64 8)],[(.int .i64 1)]])],[(.int .i64 31), 
 (.int .i64 0),(.lst [[(.int .i64 0)],[(.int .i64 2)],[(.int .i64 9)],[(.int .i64 6)],[(.int .i64 8)]])],[(.int .i64 25),(.int .i64 0),(.lst [[(.int .i64 10)]])],[(.int .i64 22),(.int .i64 0),(.lst [[(.int .i64 3)], 
 [(.int .i64 11)],[(.int .i64 0)]])],[(.int .i64 25),(.int .i64 1),(.lst [[(.int .i64 10)]])],[(.int .i64 22),(.int .i64 0),(.lst [[(.int .i64 3)],[(.int .i64 13)],[(.int .i64 2)]])]]),(.int .i64 14),(.int .i64 12)]])]), 
 (.str [103]),(.lst [[(.int .i64 2)]]),(.int .i64 5)]
def zfJ:AV:=(.agg [(.int .i64 1),(.int .i64 0),(.lst [[(.int .i64 0)],[(.int .i64 1)]]),(.int .i64 2)])
theorem c7(ρ:Nat->Int):bh Tryz.prog ρ 14 zfG zfJ:=zfA fit (pls:=pls) (zfH ρ) (n:=100000) (m:=100) (k:=100) af af
def zfT:List (FuncId×List AV×AV):=(14,zfG,zfJ)::l7
theorem zfP(ρ:Nat->Int):jV Tryz.prog ρ zfT:=⟨c7 ρ,zfH ρ⟩
def zfI:List AV:=[(.agg [(.lst []),(.lst [[(.str [102]),(.int .i64 1),(.lst [[(.int .i64 26),(.int .i64 0),(.lst [])],[(.int .i64 2),(.int .i64 0),(.lst [])],[(.int .i64 1),(.int .i64 1),(.lst [])],[(.int .i64 1),(.int .i64 0), 
 (.lst [])],[(.int .i64 16),(.int .i64 0),(.lst [[(.int .i64 1)],[(.int .i64 3)]])],[(.int .i64 27),(.int .i64 1),(.lst [[(.int .i64 0)],[(.int .i64 4)]])],[(.int .i64 7),(.int .i64 0),(.lst [[(.int .i64 2)], 
 [(.int .i64 1)]])]]),(.int .i64 6),(.int .i64 5)],[(.str [103]),(.int .i64 1),(.lst [[(.int .i64 26),(.int .i64 0),(.lst [])],[(.int .i64 2),(.int .i64 0),(.lst [])],[(.int .i64 1),(.int .i64 0),(.lst [])], 
 [(.int .i64 17),(.int .i64 0),(.lst [[(.int .i64 2)],[(.int .i64 1)]])],[(.int .i64 3),(.int .i64 0),(.lst [])],[(.int .i64 3),(.int .i64 1),(.lst [])],[(.int .i64 29),(.int .i64 0),(.lst [[(.int .i64 4)], 
 [(.int .i64 5)]])],[(.int .i64 1),(.int .i64 1),(.lst [])],[(.int .i64 4),(.int .i64 0),(.lst [[(.int .i64 5)],[(.int .i64 7)]])],[(.int .i64 17),(.int .i64 0),(.lst [[(.int .i64 8)],[(.int .i64 1)]])],[(.int .i64 31), 
 (.int .i64 0),(.lst [[(.int .i64 0)],[(.int .i64 2)],[(.int .i64 9)],[(.int .i64 6)],[(.int .i64 8)]])],[(.int .i64 25),(.int .i64 0),(.lst [[(.int .i64 10)]])],[(.int .i64 22),(.int .i64 0),(.lst [[(.int .i64 3)], 
 [(.int .i64 11)],[(.int .i64 0)]])],[(.int .i64 25),(.int .i64 1),(.lst [[(.int .i64 10)]])],[(.int .i64 22),(.int .i64 0),(.lst [[(.int .i64 3)],[(.int .i64 13)],[(.int .i64 2)]])]]),(.int .i64 14),(.int .i64 12)]])]), 
 (.str [103]),(.lst [[(.int .i64 9)]]),(.int .i64 1)]
def zfU:AV:=(.agg [(.int .i64 3),(.int .i64 0),(.lst [[(.int .i64 0)]]),(.int .i64 0)])
theorem c8(ρ:Nat->Int):bh Tryz.prog ρ 14 zfI zfU:=zfA fit (pls:=pls) (zfP ρ) (n:=100000) (m:=100) (k:=100) af af
def zfW:List (FuncId×List AV×AV):=(14,zfI,zfU)::zfT
theorem zfQ(ρ:Nat->Int):jV Tryz.prog ρ zfW:=⟨c8 ρ,zfP ρ⟩
def zfV:List AV:=[]
def r9:AV:=(.bool true)
theorem c9(ρ:Nat->Int):bh Tryz.prog ρ 15 zfV r9:=zfA fit (pls:=pls) (zfQ ρ) (n:=100000) (m:=100) (k:=100) af af
def list:List (FuncId×List AV×AV):=[(15,zfV,r9)]
theorem ok(ρ:Nat->Int):jV Tryz.prog ρ list:=⟨c9 ρ,trivial⟩
end Go.Proofs.YtljebeflbbgibaaGreat.knEvEx
