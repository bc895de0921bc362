/- Parts: KnEvEx. -/
import Derived.KernelRfl
import Derived.Test.YtljebeflbbgibaaGreatRows
import Derived.Test.YtljebeflbbgibaaGreatZCO
set_option linter.unusedSimpArgs false
set_option linter.unusedVariables false
set_option linter.unusedSectionVars false
set_option linter.defProp false
set_option maxHeartbeats 32000000
namespace Go.Proofs.YtljebeflbbgibaaGreat.knEvEx
set_option maxRecDepth 20000
open Go Go.Ab
def l0:List (FuncId×List AV×AV):=[]
theorem zdz(ρ:Nat->Int):jM Tryz.prog ρ l0:=trivial
def a0:List AV:=[(.str [102,117,110,99,32,102,40,120,41,32,123,32,114,101,116,117,114,110,32,49,32,47,32,120,59,32,125,32,102,117,110,99,32,103,40,110,41,32,118,97,114,32,105,32,123,32,119,104,105, 
 108,101,32,40,105,32,60,32,110,41,32,123,32,111,117,116,32,105,59,32,105,32,61,32,105,32,43,32,49,59,32,125,32,114,101,116,117,114,110,32,105,59,32,125])]
def zcN:AV:=(.tup [(.lst [[(.int .i64 1),(.str [102,117,110,99]),(.int .i64 0)],[(.int .i64 1),(.str [102]),(.int .i64 5)],[(.int .i64 3),(.str [40]),(.int .i64 6)],[(.int .i64 1),(.str [120]),(.int .i64 7)],[(.int .i64 3), 
 (.str [41]),(.int .i64 8)],[(.int .i64 3),(.str [123]),(.int .i64 10)],[(.int .i64 1),(.str [114,101,116,117,114,110]),(.int .i64 12)],[(.int .i64 2),(.str [49]),(.int .i64 19)],[(.int .i64 3),(.str [47]), 
 (.int .i64 21)],[(.int .i64 1),(.str [120]),(.int .i64 23)],[(.int .i64 3),(.str [59]),(.int .i64 24)],[(.int .i64 3),(.str [125]),(.int .i64 26)],[(.int .i64 1),(.str [102,117,110,99]),(.int .i64 28)], 
 [(.int .i64 1),(.str [103]),(.int .i64 33)],[(.int .i64 3),(.str [40]),(.int .i64 34)],[(.int .i64 1),(.str [110]),(.int .i64 35)],[(.int .i64 3),(.str [41]),(.int .i64 36)],[(.int .i64 1),(.str [118,97,114]), 
 (.int .i64 38)],[(.int .i64 1),(.str [105]),(.int .i64 42)],[(.int .i64 3),(.str [123]),(.int .i64 44)],[(.int .i64 1),(.str [119,104,105,108,101]),(.int .i64 46)],[(.int .i64 3),(.str [40]),(.int .i64 52)], 
 [(.int .i64 1),(.str [105]),(.int .i64 53)],[(.int .i64 3),(.str [60]),(.int .i64 55)],[(.int .i64 1),(.str [110]),(.int .i64 57)],[(.int .i64 3),(.str [41]),(.int .i64 58)],[(.int .i64 3),(.str [123]), 
 (.int .i64 60)],[(.int .i64 1),(.str [111,117,116]),(.int .i64 62)],[(.int .i64 1),(.str [105]),(.int .i64 66)],[(.int .i64 3),(.str [59]),(.int .i64 67)],[(.int .i64 1),(.str [105]),(.int .i64 69)],[(.int .i64 3), 
 (.str [61]),(.int .i64 71)],[(.int .i64 1),(.str [105]),(.int .i64 73)],[(.int .i64 3),(.str [43]),(.int .i64 75)],[(.int .i64 2),(.str [49]),(.int .i64 77)],[(.int .i64 3),(.str [59]),(.int .i64 78)],[(.int .i64 3), 
 (.str [125]),(.int .i64 80)],[(.int .i64 1),(.str [114,101,116,117,114,110]),(.int .i64 82)],[(.int .i64 1),(.str [105]),(.int .i64 89)],[(.int .i64 3),(.str [59]),(.int .i64 90)],[(.int .i64 3),(.str [125]), 
 (.int .i64 92)]]),(.agg [(.int .i64 0),(.int .i64 0)])])
theorem c0(ρ:Nat->Int):a9 Tryz.prog ρ 66 a0 zcN:=zfe fit (pls:=pls) (zdz ρ) (n:=100000) (m:=100) (k:=100) af af
def l1:List (FuncId×List AV×AV):=(66,a0,zcN)::l0
theorem zdc(ρ:Nat->Int):jM Tryz.prog ρ l1:=⟨c0 ρ,zdz ρ⟩
def a1:List AV:=[(.str [102,117,110,99,32,102,40,120,41,32,123,32,114,101,116,117,114,110,32,49,32,47,32,120,59,32,125,32,102,117,110,99,32,103,40,110,41,32,118,97,114,32,105,32,123,32,119,104,105, 
 108,101,32,40,105,32,60,32,110,41,32,123,32,111,117,116,32,105,59,32,105,32,61,32,105,32,43,32,49,59,32,125,32,114,101,116,117,114,110,32,105,59,32,125])]
def zct:AV:=(.tup [(.agg [.nilS,(.lst [[(.str [102]),(.lst [[(.str [120])]]),.nilS,.nilS,(.int .i64 4),(.int .i64 0),(.str []),(.int .i64 7),(.lst [[(.int .i64 1),(.int .i64 1),(.str []),(.int .i64 0),.nilS],[(.int .i64 2), 
 (.int .i64 0),(.str [120]),(.int .i64 0),.nilS]])],[(.str [103]),(.lst [[(.str [110])]]),(.lst [[(.str [105])]]),(.lst [[(.int .i64 4),(.str []),(.str []),(.int .i64 0),(.int .i64 0),(.int .i64 0),(.str []), 
 (.int .i64 0),.nilS,(.int .i64 4),(.int .i64 0),(.str []),(.int .i64 17),(.lst [[(.int .i64 2),(.int .i64 0),(.str [105]),(.int .i64 0),.nilS],[(.int .i64 2),(.int .i64 0),(.str [110]),(.int .i64 0),.nilS]]),.nilS, 
 (.lst [[(.int .i64 5),(.str []),(.str []),(.int .i64 0),(.int .i64 0),(.int .i64 0),(.str []),(.int .i64 0),.nilS,(.int .i64 2),(.int .i64 0),(.str [105]),(.int .i64 0),.nilS,.nilS,.nilS,.nilS],[(.int .i64 1), 
 (.str [105]),(.str []),(.int .i64 0),(.int .i64 0),(.int .i64 0),(.str []),(.int .i64 0),.nilS,(.int .i64 4),(.int .i64 0),(.str []),(.int .i64 4),(.lst [[(.int .i64 2),(.int .i64 0),(.str [105]),(.int .i64 0), 
 .nilS],[(.int .i64 1),(.int .i64 1),(.str []),(.int .i64 0),.nilS]]),.nilS,.nilS,.nilS]]),.nilS]]),(.int .i64 2),(.int .i64 0),(.str [105]),(.int .i64 0),.nilS]])]),(.agg [(.int .i64 0),(.int .i64 0)])])
theorem c1(ρ:Nat->Int):a9 Tryz.prog ρ 37 a1 zct:=zfe fit (pls:=pls) (zdc ρ) (n:=100000) (m:=100) (k:=100) af af
def l2:List (FuncId×List AV×AV):=(37,a1,zct)::l1
theorem zc8(ρ:Nat->Int):jM Tryz.prog ρ l2:=⟨c1 ρ,zdc ρ⟩
def a2:List AV:=[(.agg [.nilS,(.lst [[(.str [102]),(.lst [[(.str [120])]]),.nilS,.nilS,(.int .i64 4),(.int .i64 0),(.str []),(.int .i64 7),(.lst [[(.int .i64 1),(.int .i64 1),(.str []),(.int .i64 0),.nilS],[(.int .i64 2), 
 (.int .i64 0),(.str [120]),(.int .i64 0),.nilS]])],[(.str [103]),(.lst [[(.str [110])]]),(.lst [[(.str [105])]]),(.lst [[(.int .i64 4),(.str []),(.str []),(.int .i64 0),(.int .i64 0),(.int .i64 0),(.str []), 
 (.int .i64 0),.nilS,(.int .i64 4),(.int .i64 0),(.str []),(.int .i64 17),(.lst [[(.int .i64 2),(.int .i64 0),(.str [105]),(.int .i64 0),.nilS],[(.int .i64 2),(.int .i64 0),(.str [110]),(.int .i64 0),.nilS]]),.nilS, 
 (.lst [[(.int .i64 5),(.str []),(.str []),(.int .i64 0),(.int .i64 0),(.int .i64 0),(.str []),(.int .i64 0),.nilS,(.int .i64 2),(.int .i64 0),(.str [105]),(.int .i64 0),.nilS,.nilS,.nilS,.nilS],[(.int .i64 1), 
 (.str [105]),(.str []),(.int .i64 0),(.int .i64 0),(.int .i64 0),(.str []),(.int .i64 0),.nilS,(.int .i64 4),(.int .i64 0),(.str []),(.int .i64 4),(.lst [[(.int .i64 2),(.int .i64 0),(.str [105]),(.int .i64 0), 
 .nilS],[(.int .i64 1),(.int .i64 1),(.str []),(.int .i64 0),.nilS]]),.nilS,.nilS,.nilS]]),.nilS]]),(.int .i64 2),(.int .i64 0),(.str [105]),(.int .i64 0),.nilS]])])]
def r2:AV:=(.int .i64 0)
theorem c2(ρ:Nat->Int):a9 Tryz.prog ρ 73 a2 r2:=zfe fit (pls:=pls) (zc8 ρ) (n:=100000) (m:=100) (k:=100) af af
def l3:List (FuncId×List AV×AV):=(73,a2,r2)::l2
theorem zeP(ρ:Nat->Int):jM Tryz.prog ρ l3:=⟨c2 ρ,zc8 ρ⟩
def zd9:List AV:=[(.agg [.nilS,(.lst [[(.str [102]),(.lst [[(.str [120])]]),.nilS,.nilS,(.int .i64 4),(.int .i64 0),(.str []),(.int .i64 7),(.lst [[(.int .i64 1),(.int .i64 1),(.str []),(.int .i64 0),.nilS],[(.int .i64 2), 
 (.int .i64 0),(.str [120]),(.int .i64 0),.nilS]])],[(.str [103]),(.lst [[(.str [110])]]),(.lst [[(.str [105])]]),(.lst [[(.int .i64 4),(.str []),(.str []),(.int .i64 0),(.int .i64 0),(.int .i64 0),(.str []), 
 (.int .i64 0),.nilS,(.int .i64 4),(.int .i64 0),(.str []),(.int .i64 17),(.lst [[(.int .i64 2),(.int .i64 0),(.str [105]),(.int .i64 0),.nilS],[(.int .i64 2),(.int .i64 0),(.str [110]),(.int .i64 0),.nilS]]),.nilS, 
 (.lst [[(.int .i64 5),(.str []),(.str []),(.int .i64 0),(.int .i64 0),(.int .i64 0),(.str []),(.int .i64 0),.nilS,(.int .i64 2),(.int .i64 0),(.str [105]),(.int .i64 0),.nilS,.nilS,.nilS,.nilS],[(.int .i64 1), 
 (.str [105]),(.str []),(.int .i64 0),(.int .i64 0),(.int .i64 0),(.str []),(.int .i64 0),.nilS,(.int .i64 4),(.int .i64 0),(.str []),(.int .i64 4),(.lst [[(.int .i64 2),(.int .i64 0),(.str [105]),(.int .i64 0), 
 .nilS],[(.int .i64 1),(.int .i64 1),(.str []),(.int .i64 0),.nilS]]),.nilS,.nilS,.nilS]]),.nilS]]),(.int .i64 2),(.int .i64 0),(.str [105]),(.int .i64 0),.nilS]])])]
def r3:AV:=(.tup [(.agg [(.lst []),(.lst [[(.str [102]),(.int .i64 1),(.lst [[(.int .i64 26),(.int .i64 0),(.lst [])],[(.int .i64 2),(.int .i64 0),(.lst [])],[(.int .i64 1),(.int .i64 1),(.lst [])],[(.int .i64 1),(.int .i64 0), 
 (.lst [])],[(.int .i64 16),(.int .i64 0),(.lst [[(.int .i64 1)],[(.int .i64 3)]])],[(.int .i64 27),(.int .i64 1),(.lst [[(.int .i64 0)],[(.int .i64 4)]])],[(.int .i64 7),(.int .i64 0),(.lst [[(.int .i64 2)], 
 [(.int .i64 1)]])]]),(.int .i64 6),(.int .i64 5)],[(.str [103]),(.int .i64 1),(.lst [[(.int .i64 26),(.int .i64 0),(.lst [])],[(.int .i64 2),(.int .i64 0),(.lst [])],[(.int .i64 1),(.int .i64 0),(.lst [])], 
 [(.int .i64 17),(.int .i64 0),(.lst [[(.int .i64 2)],[(.int .i64 1)]])],[(.int .i64 3),(.int .i64 0),(.lst [])],[(.int .i64 3),(.int .i64 1),(.lst [])],[(.int .i64 29),(.int .i64 0),(.lst [[(.int .i64 4)], 
 [(.int .i64 5)]])],[(.int .i64 1),(.int .i64 1),(.lst [])],[(.int .i64 4),(.int .i64 0),(.lst [[(.int .i64 5)],[(.int .i64 7)]])],[(.int .i64 17),(.int .i64 0),(.lst [[(.int .i64 8)],[(.int .i64 1)]])],[(.int .i64 31), 
 (.int .i64 0),(.lst [[(.int .i64 0)],[(.int .i64 2)],[(.int .i64 9)],[(.int .i64 6)],[(.int .i64 8)]])],[(.int .i64 25),(.int .i64 0),(.lst [[(.int .i64 10)]])],[(.int .i64 22),(.int .i64 0),(.lst [[(.int .i64 3)], 
 [(.int .i64 11)],[(.int .i64 0)]])],[(.int .i64 25),(.int .i64 1),(.lst [[(.int .i64 10)]])],[(.int .i64 22),(.int .i64 0),(.lst [[(.int .i64 3)],[(.int .i64 13)],[(.int .i64 2)]])]]),(.int .i64 14),(.int .i64 12)]])]), 
 (.int .i64 0)])
theorem c3(ρ:Nat->Int):a9 Tryz.prog ρ 38 zd9 r3:=zfe fit (pls:=pls) (zeP ρ) (n:=100000) (m:=100) (k:=100) af af
def zfu:List (FuncId×List AV×AV):=(38,zd9,r3)::l3
theorem k4(ρ:Nat->Int):jM Tryz.prog ρ zfu:=⟨c3 ρ,zeP ρ⟩
def zea:List AV:=[(.agg [(.lst []),(.lst [[(.str [102]),.nilS,.nilS,.nilS,(.int .i64 1),(.int .i64 0),(.str []),(.int .i64 0),.nilS],[(.str [103]),.nilS,.nilS,.nilS,(.int .i64 1),(.int .i64 0),(.str []),(.int .i64 0),.nilS]])])]
def zfv:AV:=(.int .i64 0)
theorem c4(ρ:Nat->Int):a9 Tryz.prog ρ 55 zea zfv:=zfe fit (pls:=pls) (k4 ρ) (n:=100000) (m:=100) (k:=100) af af
def l5:List (FuncId×List AV×AV):=(55,zea,zfv)::zfu
theorem zep(ρ:Nat->Int):jM Tryz.prog ρ l5:=⟨c4 ρ,k4 ρ⟩
def a5:List AV:=[(.agg [(.lst []),(.lst [[(.str [102]),(.int .i64 1),(.lst [[(.int .i64 26),(.int .i64 0),(.lst [])],[(.int .i64 2),(.int .i64 0),(.lst [])],[(.int .i64 1),(.int .i64 1),(.lst [])],[(.int .i64 1),(.int .i64 0), 
 (.lst [])],[(.int .i64 16),(.int .i64 0),(.lst [[(.int .i64 1)],[(.int .i64 3)]])],[(.int .i64 27),(.int .i64 1),(.lst [[(.int .i64 0)],[(.int .i64 4)]])],[(.int .i64 7),(.int .i64 0),(.lst [[(.int .i64 2)], 
 [(.int .i64 1)]])]]),(.int .i64 6),(.int .i64 5)],[(.str [103]),(.int .i64 1),(.lst [[(.int .i64 26),(.int .i64 0),(.lst [])],[(.int .i64 2),(.int .i64 0),(.lst [])],[(.int .i64 1),(.int .i64 0),(.lst [])], 
 [(.int .i64 17),(.int .i64 0),(.lst [[(.int .i64 2)],[(.int .i64 1)]])],[(.int .i64 3),(.int .i64 0),(.lst [])],[(.int .i64 3),(.int .i64 1),(.lst [])],[(.int .i64 29),(.int .i64 0),(.lst [[(.int .i64 4)], 
 [(.int .i64 5)]])],[(.int .i64 1),(.int .i64 1),(.lst [])],[(.int .i64 4),(.int .i64 0),(.lst [[(.int .i64 5)],[(.int .i64 7)]])],[(.int .i64 17),(.int .i64 0),(.lst [[(.int .i64 8)],[(.int .i64 1)]])],[(.int .i64 31), 
 (.int .i64 0),(.lst [[(.int .i64 0)],[(.int .i64 2)],[(.int .i64 9)],[(.int .i64 6)],[(.int .i64 8)]])],[(.int .i64 25),(.int .i64 0),(.lst [[(.int .i64 10)]])],[(.int .i64 22),(.int .i64 0),(.lst [[(.int .i64 3)], 
 [(.int .i64 11)],[(.int .i64 0)]])],[(.int .i64 25),(.int .i64 1),(.lst [[(.int .i64 10)]])],[(.int .i64 22),(.int .i64 0),(.lst [[(.int .i64 3)],[(.int .i64 13)],[(.int .i64 2)]])]]),(.int .i64 14),(.int .i64 12)]])])]
def r5:AV:=(.bool true)
theorem c5(ρ:Nat->Int):a9 Tryz.prog ρ 31 a5 r5:=zfe fit (pls:=pls) (zep ρ) (n:=100000) (m:=100) (k:=100) af af
def l6:List (FuncId×List AV×AV):=(31,a5,r5)::l5
theorem ze9(ρ:Nat->Int):jM Tryz.prog ρ l6:=⟨c5 ρ,zep ρ⟩
def a6:List AV:=[(.agg [(.lst []),(.lst [[(.str [102]),(.int .i64 1),(.lst [[(.int .i64 26),(.int .i64 0),(.lst [])],[(.int .i64 2),(.int .i64 0),(.lst [])],[(.int .i64 1),(.int .i64 1),(.lst [])],[(.int .i64 1),(.int .i64 0), 
 (.lst [])],[(.int .i64 16),(.int .i64 0),(.lst [[(.int .i64 1)],[(.int .i64 3)]])],[(.int .i64 27),(.int .i64 1),(.lst [[(.int .i64 0)],[(.int .i64 4)]])],[(.int .i64 7),(.int .i64 0),(.lst [[(.int .i64 2)], 
 [(.int .i64 1)]])]]),(.int .i64 6),(.int .i64 5)],[(.str [103]),(.int .i64 1),(.lst [[(.int .i64 26),(.int .i64 0),(.lst [])],[(.int .i64 2),(.int .i64 0),(.lst [])],[(.int .i64 1),(.int .i64 0),(.lst [])], 
 [(.int .i64 17),(.int .i64 0),(.lst [[(.int .i64 2)],[(.int .i64 1)]])],[(.int .i64 3),(.int .i64 0),(.lst [])],[(.int .i64 3),(.int .i64 1),(.lst [])],[(.int .i64 29),(.int .i64 0),(.lst [[(.int .i64 4)], 
 [(.int .i64 5)]])],[(.int .i64 1),(.int .i64 1),(.lst [])],[(.int .i64 4),(.int .i64 0),(.lst [[(.int .i64 5)],[(.int .i64 7)]])],[(.int .i64 17),(.int .i64 0),(.lst [[(.int .i64 8)],[(.int .i64 1)]])],[(.int .i64 31), 
 (.int .i64 0),(.lst [[(.int .i64 0)],[(.int .i64 2)],[(.int .i64 9)],[(.int .i64 6)],[(.int .i64 8)]])],[(.int .i64 25),(.int .i64 0),(.lst [[(.int .i64 10)]])],[(.int .i64 22),(.int .i64 0),(.lst [[(.int .i64 3)], 
 [(.int .i64 11)],[(.int .i64 0)]])],[(.int .i64 25),(.int .i64 1),(.lst [[(.int .i64 10)]])],[(.int .i64 22),(.int .i64 0),(.lst [[(.int .i64 3)],[(.int .i64 13)],[(.int .i64 2)]])]]),(.int .i64 14),(.int .i64 12)]])]), 
 (.str [102]),(.lst [[(.int .i64 0)]]),(.int .i64 0)]
def r6:AV:=(.agg [(.int .i64 2),(.int .i64 1),(.lst []),(.int .i64 0)])
theorem c6(ρ:Nat->Int):a9 Tryz.prog ρ 14 a6 r6:=zfe fit (pls:=pls) (ze9 ρ) (n:=100000) (m:=100) (k:=100) af af
def zfw:List (FuncId×List AV×AV):=(14,a6,r6)::l6
theorem zfl(ρ:Nat->Int):jM Tryz.prog ρ zfw:=⟨c6 ρ,ze9 ρ⟩
def zfj:List AV:=[(.agg [(.lst []),(.lst [[(.str [102]),(.int .i64 1),(.lst [[(.int .i64 26),(.int .i64 0),(.lst [])],[(.int .i64 2),(.int .i64 0),(.lst [])],[(.int .i64 1),(.int .i64 1),(.lst [])],[(.int .i64 1),(.int .i64 0), 
 (.lst [])],[(.int .i64 16),(.int .i64 0),(.lst [[(.int .i64 1)],[(.int .i64 3)]])],[(.int .i64 27),(.int .i64 1),(.lst [[(.int .i64 0)],[(.int .i64 4)]])],[(.int .i64 7),(.int .i64 0),(.lst [[(.int .i64 2)], 
 [(.int .i64 1)]])]]),(.int .i64 6),(.int .i64 5)],[(.str [103]),(.int .i64 1),(.lst [[(.int .i64 26),(.int .i64 0),(.lst [])],[(.int .i64 2),(.int .i64 0),(.lst [])],[(.int .i64 1),(.int .i64 0),(.lst [])], 
 [(.int .i64 17),(.int .i64 0),(.lst [[(.int .i64 2)],[(.int .i64 1)]])],[(.int .i64 3),(.int .i64 0),(.lst [])],[(.int .i64 3),(.int .i64 1),(.lst [])],[(.int .i64 29),(.int .i64 0),(.lst [[(.int .i64 4)], 
 [(.int .i64 5)]])],[(.int .i64 1),(.int .i64 1),(.lst [])],[(.int .i64 4),(.int .i64 0),(.lst [[(.int .i64 5)],[(.int .i64 7)]])],[(.int .i64 17),(.int .i64 0),(.lst [[(.int .i64 8)],[(.int .i64 1)]])],[(.int .i64 31), 
 (.int .i64 0),(.lst [[(.int .i64 0)],[(.int .i64 2)],[(.int .i64 9)],[(.int .i64 6)],[(.int .i64 8)]])],[(.int .i64 25),(.int .i64 0),(.lst [[(.int .i64 10)]])],[(.int .i64 22),(.int .i64 0),(.lst [[(.int .i64 3)], 
 [(.int .i64 11)],[(.int .i64 0)]])],[(.int .i64 25),(.int .i64 1),(.lst [[(.int .i64 10)]])],[(.int .i64 22),(.int .i64 0),(.lst [[(.int .i64 3)],[(.int .i64 13)],[(.int .i64 2)]])]]),(.int .i64 14),(.int .i64 12)]])]), 
 (.str [103]),(.lst [[(.int .i64 2)]]),(.int .i64 5)]
def zfn:AV:=(.agg [(.int .i64 1),(.int .i64 0),(.lst [[(.int .i64 0)],[(.int .i64 1)]]),(.int .i64 2)])
theorem c7(ρ:Nat->Int):a9 Tryz.prog ρ 14 zfj zfn:=zfe fit (pls:=pls) (zfl ρ) (n:=100000) (m:=100) (k:=100) af af
def zfx:List (FuncId×List AV×AV):=(14,zfj,zfn)::zfw
theorem zfs(ρ:Nat->Int):jM Tryz.prog ρ zfx:=⟨c7 ρ,zfl ρ⟩
def zfm:List AV:=[(.agg [(.lst []),(.lst [[(.str [102]),(.int .i64 1),(.lst [[(.int .i64 26),(.int .i64 0),(.lst [])],[(.int .i64 2),(.int .i64 0),(.lst [])],[(.int .i64 1),(.int .i64 1),(.lst [])],[(.int .i64 1),(.int .i64 0), 
 (.lst [])],[(.int .i64 16),(.int .i64 0),(.lst [[(.int .i64 1)],[(.int .i64 3)]])],[(.int .i64 27),(.int .i64 1),(.lst [[(.int .i64 0)],[(.int .i64 4)]])],[(.int .i64 7),(.int .i64 0),(.lst [[(.int .i64 2)], 
 [(.int .i64 1)]])]]),(.int .i64 6),(.int .i64 5)],[(.str [103]),(.int .i64 1),(.lst [[(.int .i64 26),(.int .i64 0),(.lst [])],[(.int .i64 2),(.int .i64 0),(.lst [])],[(.int .i64 1),(.int .i64 0),(.lst [])], 
 [(.int .i64 17),(.int .i64 0),(.lst [[(.int .i64 2)],[(.int .i64 1)]])],[(.int .i64 3),(.int .i64 0),(.lst [])],[(.int .i64 3),(.int .i64 1),(.lst [])],[(.int .i64 29),(.int .i64 0),(.lst [[(.int .i64 4)], 
 [(.int .i64 5)]])],[(.int .i64 1),(.int .i64 1),(.lst [])],[(.int .i64 4),(.int .i64 0),(.lst [[(.int .i64 5)],[(.int .i64 7)]])],[(.int .i64 17),(.int .i64 0),(.lst [[(.int .i64 8)],[(.int .i64 1)]])],[(.int .i64 31), 
 (.int .i64 0),(.lst [[(.int .i64 0)],[(.int .i64 2)],[(.int .i64 9)],[(.int .i64 6)],[(.int .i64 8)]])],[(.int .i64 25),(.int .i64 0),(.lst [[(.int .i64 10)]])],[(.int .i64 22),(.int .i64 0),(.lst [[(.int .i64 3)], 
 [(.int .i64 11)],[(.int .i64 0)]])],[(.int .i64 25),(.int .i64 1),(.lst [[(.int .i64 10)]])],[(.int .i64 22),(.int .i64 0),(.lst [[(.int .i64 3)],[(.int .i64 13)],[(.int .i64 2)]])]]),(.int .i64 14),(.int .i64 12)]])]), 
 (.str [103]),(.lst [[(.int .i64 9)]]),(.int .i64 1)]
def zfy:AV:=(.agg [(.int .i64 3),(.int .i64 0),(.lst [[(.int .i64 0)]]),(.int .i64 0)])
theorem c8(ρ:Nat->Int):a9 Tryz.prog ρ 14 zfm zfy:=zfe fit (pls:=pls) (zfs ρ) (n:=100000) (m:=100) (k:=100) af af
def zfA:List (FuncId×List AV×AV):=(14,zfm,zfy)::zfx
theorem zft(ρ:Nat->Int):jM Tryz.prog ρ zfA:=⟨c8 ρ,zfs ρ⟩
def zfz:List AV:=[]
def r9:AV:=(.bool true)
theorem c9(ρ:Nat->Int):a9 Tryz.prog ρ 15 zfz r9:=zfe fit (pls:=pls) (zft ρ) (n:=100000) (m:=100) (k:=100) af af
def list:List (FuncId×List AV×AV):=[(15,zfz,r9)]
theorem ok(ρ:Nat->Int):jM Tryz.prog ρ list:=⟨c9 ρ,trivial⟩
end Go.Proofs.YtljebeflbbgibaaGreat.knEvEx
