/- Parts: KnEvEx. -/
import Derived.KernelRfl
import Derived.Test.YtljebeflbbgibaaGreatRows
import Derived.Test.YtljebeflbbgibaaGreatXCO
set_option linter.unusedSimpArgs false
set_option linter.unusedVariables false
set_option linter.unusedSectionVars false
set_option linter.defProp false
set_option maxHeartbeats 32000000
namespace Go.Proofs.YtljebeflbbgibaaGreat.knEvEx
set_option maxRecDepth 20000
open Go Go.Ab
def l0:List (FuncId×List AV×AV):=[]
theorem zex(ρ:Nat->Int):j5 Tryz.prog ρ l0:=trivial
def a0:List AV:=[(.str [102,117,110,99,32,102,40,120,41,32,123,32,114,101,116,117,114,110,32,49,32,47,32,120,59,32,125,32,102,117,110,99,32,103,40,110,41,32,118,97,114,32,105,32,123,32,119,104,105, 
 108,101,32,40,105,32,60,32,110,41,32,123,32,111,117,116,32,105,59,32,105,32,61,32,105,32,43,32,49,59,32,125,32,114,101,116,117,114,110,32,105,59,32,125])]
def zdP:AV:=(.tup [(.lst [[(.int .i64 1),(.str [102,117,110,99]),(.int .i64 0)],[(.int .i64 1),(.str [102]),(.int .i64 5)],[(.int .i64 3),(.str [40]),(.int .i64 6)],[(.int .i64 1),(.str [120]),(.int .i64 7)],[(.int .i64 3), 
 (.str [41]),(.int .i64 8)],[(.int .i64 3),(.str [123]),(.int .i64 10)],[(.int .i64 1),(.str [114,101,116,117,114,110]),(.int .i64 12)],[(.int .i64 2),(.str [49]),(.int .i64 19)],[(.int .i64 3),(.str [47]), 
 (.int .i64 21)],[(.int .i64 1),(.str [120]),(.int .i64 23)],[(.int .i64 3),(.str [59]),(.int .i64 24)],[(.int .i64 3),(.str [125]),(.int .i64 26)],[(.int .i64 1),(.str [102,117,110,99]),(.int .i64 28)], 
 [(.int .i64 1),(.str [103]),(.int .i64 33)],[(.int .i64 3),(.str [40]),(.int .i64 34)],[(.int .i64 1),(.str [110]),(.int .i64 35)],[(.int .i64 3),(.str [41]),(.int .i64 36)],[(.int .i64 1),(.str [118,97,114]), 
 (.int .i64 38)],[(.int .i64 1),(.str [105]),(.int .i64 42)],[(.int .i64 3),(.str [123]),(.int .i64 44)],[(.int .i64 1),(.str [119,104,105,108,101]),(.int .i64 46)],[(.int .i64 3),(.str [40]),(.int .i64 52)], 
 [(.int .i64 1),(.str [105]),(.int .i64 53)],[(.int .i64 3),(.str [60]),(.int .i64 55)],[(.int .i64 1),(.str [110]),(.int .i64 57)],[(.int .i64 3),(.str [41]),(.int .i64 58)],[(.int .i64 3),(.str [123]), 
 (.int .i64 60)],[(.int .i64 1),(.str [111,117,116]),(.int .i64 62)],[(.int .i64 1),(.str [105]),(.int .i64 66)],[(.int .i64 3),(.str [59]),(.int .i64 67)],[(.int .i64 1),(.str [105]),(.int .i64 69)],[(.int .i64 3), 
 (.str [61]),(.int .i64 71)],[(.int .i64 1),(.str [105]),(.int .i64 73)],[(.int .i64 3),(.str [43]),(.int .i64 75)],[(.int .i64 2),(.str [49]),(.int .i64 77)],[(.int .i64 3),(.str [59]),(.int .i64 78)],[(.int .i64 3), 
 (.str [125]),(.int .i64 80)],[(.int .i64 1),(.str [114,101,116,117,114,110]),(.int .i64 82)],[(.int .i64 1),(.str [105]),(.int .i64 89)],[(.int .i64 3),(.str [59]),(.int .i64 90)],[(.int .i64 3),(.str [125]), 
 (.int .i64 92)]]),(.agg [(.int .i64 0),(.int .i64 0)])])
theorem c0(ρ:Nat->Int):bc Tryz.prog ρ 66 a0 zdP:=zf6 fit (pls:=pls) (zex ρ) (n:=100000) (m:=100) (k:=100) af af
def l1:List (FuncId×List AV×AV):=(66,a0,zdP)::l0
theorem zeb(ρ:Nat->Int):j5 Tryz.prog ρ l1:=⟨c0 ρ,zex ρ⟩
def a1:List AV:=[(.str [102,117,110,99,32,102,40,120,41,32,123,32,114,101,116,117,114,110,32,49,32,47,32,120,59,32,125,32,102,117,110,99,32,103,40,110,41,32,118,97,114,32,105,32,123,32,119,104,105, 
 108,101,32,40,105,32,60,32,110,41,32,123,32,111,117,116,32,105,59,32,105,32,61,32,105,32,43,32,49,59,32,125,32,114,101,116,117,114,110,32,105,59,32,125])]
def zdu:AV:=(.tup [(.agg [.nilS,(.lst [[(.str [102]),(.lst [[(.str [120])]]),.nilS,.nilS,(.int .i64 4),(.int .i64 0),(.str []),(.int .i64 7),(.lst [[(.int .i64 1),(.int .i64 1),(.str []),(.int .i64 0),.nilS],[(.int .i64 2), 
 (.int .i64 0),(.str [120]),(.int .i64 0),.nilS]])],[(.str [103]),(.lst [[(.str [110])]]),(.lst [[(.str [105])]]),(.lst [[(.int .i64 4),(.str []),(.str []),(.int .i64 0),(.int .i64 0),(.int .i64 0),(.str []), 
 (.int .i64 0),.nilS,(.int .i64 4),(.int .i64 0),(.str []),(.int .i64 17),(.lst [[(.int .i64 2),(.int .i64 0),(.str [105]),(.int .i64 0),.nilS],[(.int .i64 2),(.int .i64 0),(.str [110]),(.int .i64 0),.nilS]]),.nilS, 
 (.lst [[(.int .i64 5),(.str []),(.str []),(.int .i64 0),(.int .i64 0),(.int .i64 0),(.str []),(.int .i64 0),.nilS,(.int .i64 2),(.int .i64 0),(.str [105]),(.int .i64 0),.nilS,.nilS,.nilS,.nilS],[(.int .i64 1), 
 (.str [105]),(.str []),(.int .i64 0),(.int .i64 0),(.int .i64 0),(.str []),(.int .i64 0),.nilS,(.int .i64 4),(.int .i64 0),(.str []),(.int .i64 4),(.lst [[(.int .i64 2),(.int .i64 0),(.str [105]),(.int .i64 0), 
 .nilS],[(.int .i64 1),(.int .i64 1),(.str []),(.int .i64 0),.nilS]]),.nilS,.nilS,.nilS]]),.nilS]]),(.int .i64 2),(.int .i64 0),(.str [105]),(.int .i64 0),.nilS]])]),(.agg [(.int .i64 0),(.int .i64 0)])])
theorem c1(ρ:Nat->Int):bc Tryz.prog ρ 37 a1 zdu:=zf6 fit (pls:=pls) (zeb ρ) (n:=100000) (m:=100) (k:=100) af af
def l2:List (FuncId×List AV×AV):=(37,a1,zdu)::l1
theorem k2(ρ:Nat->Int):j5 Tryz.prog ρ l2:=⟨c1 ρ,zeb ρ⟩
def zeU:List AV:=[(.agg [.nilS,(.lst [[(.str [102]),(.lst [[(.str [120])]]),.nilS,.nilS,(.int .i64 4),(.int .i64 0),(.str []),(.int .i64 7),(.lst [[(.int .i64 1),(.int .i64 1),(.str []),(.int .i64 0),.nilS],[(.int .i64 2), 
 (.int .i64 0),(.str [120]),(.int .i64 0),.nilS]])],[(.str [103]),(.lst [[(.str [110])]]),(.lst [[(.str [105])]]),(.lst [[(.int .i64 4),(.str []),(.str []),(.int .i64 0),(.int .i64 0),(.int .i64 0),(.str []), 
 (.int .i64 0),.nilS,(.int .i64 4),(.int .i64 0),(.str []),(.int .i64 17),(.lst [[(.int .i64 2),(.int .i64 0),(.str [105]),(.int .i64 0),.nilS],[(.int .i64 2),(.int .i64 0),(.str [110]),(.int .i64 0),.nilS]]),.nilS, 
 (.lst [[(.int .i64 5),(.str []),(.str []),(.int .i64 0),(.int .i64 0),(.int .i64 0),(.str []),(.int .i64 0),.nilS,(.int .i64 2),(.int .i64 0),(.str [105]),(.int .i64 0),.nilS,.nilS,.nilS,.nilS],[(.int .i64 1), 
 (.str [105]),(.str []),(.int .i64 0),(.int .i64 0),(.int .i64 0),(.str []),(.int .i64 0),.nilS,(.int .i64 4),(.int .i64 0),(.str []),(.int .i64 4),(.lst [[(.int .i64 2),(.int .i64 0),(.str [105]),(.int .i64 0), 
 .nilS],[(.int .i64 1),(.int .i64 1),(.str []),(.int .i64 0),.nilS]]),.nilS,.nilS,.nilS]]),.nilS]]),(.int .i64 2),(.int .i64 0),(.str [105]),(.int .i64 0),.nilS]])])]
def r2:AV:=(.int .i64 0)
theorem c2(ρ:Nat->Int):bc Tryz.prog ρ 73 zeU r2:=zf6 fit (pls:=pls) (k2 ρ) (n:=100000) (m:=100) (k:=100) af af
def zgm:List (FuncId×List AV×AV):=(73,zeU,r2)::l2
theorem k3(ρ:Nat->Int):j5 Tryz.prog ρ zgm:=⟨c2 ρ,k2 ρ⟩
def a3:List AV:=[(.agg [.nilS,(.lst [[(.str [102]),(.lst [[(.str [120])]]),.nilS,.nilS,(.int .i64 4),(.int .i64 0),(.str []),(.int .i64 7),(.lst [[(.int .i64 1),(.int .i64 1),(.str []),(.int .i64 0),.nilS],[(.int .i64 2), 
 (.int .i64 0),(.str [120]),(.int .i64 0),.nilS]])],[(.str [103]),(.lst [[(.str [110])]]),(.lst [[(.str [105])]]),(.lst [[(.int .i64 4),(.str []),(.str []),(.int .i64 0),(.int .i64 0),(.int .i64 0),(.str []), 
 (.int .i64 0),.nilS,(.int .i64 4),(.int .i64 0),(.str []),(.int .i64 17),(.lst [[(.int .i64 2),(.int .i64 0),(.str [105]),(.int .i64 0),.nilS],[(.int .i64 2),(.int .i64 0),(.str [110]),(.int .i64 0),.nilS]]),.nilS, 
 (.lst [[(.int .i64 5),(.str []),(.str []),(.int .i64 0),(.int .i64 0),(.int .i64 0),(.str []),(.int .i64 0),.nilS,(.int .i64 2),(.int .i64 0),(.str [105]),(.int .i64 0),.nilS,.nilS,.nilS,.nilS],[(.int .i64 1), 
 (.str [105]),(.str []),(.int .i64 0),(.int .i64 0),(.int .i64 0),(.str []),(.int .i64 0),.nilS,(.int .i64 4),(.int .i64 0),(.str []),(.int .i64 4),(.lst [[(.int .i64 2),(.int .i64 0),(.str [105]),(.int .i64 0), 
 .nilS],[(.int .i64 1),(.int .i64 1),(.str []),(.int .i64 0),.nilS]]),.nilS,.nilS,.nilS]]),.nilS]]),(.int .i64 2),(.int .i64 0),(.str [105]),(.int .i64 0),.nilS]])])]
def zfz:AV:=(.tup [(.agg [(.lst []),(.lst [[(.str [102]),(.int .i64 1),(.lst [[(.int .i64 26),(.int .i64 0),(.lst [])],[(.int .i64 2),(.int .i64 0),(.lst [])],[(.int .i64 1),(.int .i64 1),(.lst [])],[(.int .i64 1),(.int .i64 0), 
 (.lst [])],[(.int .i64 16),(.int .i64 0),(.lst [[(.int .i64 1)],[(.int .i64 3)]])],[(.int .i64 27),(.int .i64 1),(.lst [[(.int .i64 0)],[(.int .i64 4)]])],[(.int .i64 7),(.int .i64 0),(.lst [[(.int .i64 2)], 
 [(.int .i64 1)]])]]),(.int .i64 6),(.int .i64 5)],[(.str [103]),(.int .i64 1),(.lst [[(.int .i64 26),(.int .i64 0),(.lst [])],[(.int .i64 2),(.int .i64 0),(.lst [])],[(.int .i64 1),(.int .i64 0),(.lst [])], 
 [(.int .i64 17),(.int .i64 0),(.lst [[(.int .i64 2)],[(.int .i64 1)]])],[(.int .i64 3),(.int .i64 0),(.lst [])],[(.int .i64 3),(.int .i64 1),(.lst [])],[(.int .i64 29),(.int .i64 0),(.lst [[(.int .i64 4)], 
 [(.int .i64 5)]])],[(.int .i64 1),(.int .i64 1),(.lst [])],[(.int .i64 4),(.int .i64 0),(.lst [[(.int .i64 5)],[(.int .i64 7)]])],[(.int .i64 17),(.int .i64 0),(.lst [[(.int .i64 8)],[(.int .i64 1)]])],[(.int .i64 31), 
 (.int .i64 0),(.lst [[(.int .i64 0)],[(.int .i64 2)],[(.int .i64 9)],[(.int .i64 6)],[(.int .i64 8)]])],[(.int .i64 25),(.int .i64 0),(.lst [[(.int .i64 10)]])],[(.int .i64 22),(.int .i64 0),(.lst [[(.int .i64 3)], 
 [(.int .i64 11)],[(.int .i64 0)]])],[(.int .i64 25),(.int .i64 1),(.lst [[(.int .i64 10)]])],[(.int .i64 22),(.int .i64 0),(.lst [[(.int .i64 3)],[(.int .i64 13)],[(.int .i64 2)]])]]),(.int .i64 14),(.int .i64 12)]])]), 
 (.int .i64 0)])
theorem c3(ρ:Nat->Int):bc Tryz.prog ρ 38 a3 zfz:=zf6 fit (pls:=pls) (k3 ρ) (n:=100000) (m:=100) (k:=100) af af
def l4:List (FuncId×List AV×AV):=(38,a3,zfz)::zgm
theorem zfZ(ρ:Nat->Int):j5 Tryz.prog ρ l4:=⟨c3 ρ,k3 ρ⟩
def a4:List AV:=[(.agg [(.lst []),(.lst [[(.str [102]),.nilS,.nilS,.nilS,(.int .i64 1),(.int .i64 0),(.str []),(.int .i64 0),.nilS],[(.str [103]),.nilS,.nilS,.nilS,(.int .i64 1),(.int .i64 0),(.str []),(.int .i64 0),.nilS]])])]
def zgn:AV:=(.int .i64 0)
theorem c4(ρ:Nat->Int):bc Tryz.prog ρ 55 a4 zgn:=zf6 fit (pls:=pls) (zfZ ρ) (n:=100000) (m:=100) (k:=100) af af
def l5:List (FuncId×List AV×AV):=(55,a4,zgn)::l4
theorem zfi(ρ:Nat->Int):j5 Tryz.prog ρ l5:=⟨c4 ρ,zfZ ρ⟩
def zeD:List AV:=[(.agg [(.lst []),(.lst [[(.str [102]),(.int .i64 1),(.lst [[(.int .i64 26),(.int .i64 0),(.lst [])],[(.int .i64 2),(.int .i64 0),(.lst [])],[(.int .i64 1),(.int .i64 1),(.lst [])],[(.int .i64 1),(.int .i64 0), 
 (.lst [])],[(.int .i64 16),(.int .i64 0),(.lst [[(.int .i64 1)],[(.int .i64 3)]])],[(.int .i64 27),(.int .i64 1),(.lst [[(.int .i64 0)],[(.int .i64 4)]])],[(.int .i64 7),(.int .i64 0),(.lst [[(.int .i64 2)], 
 [(.int .i64 1)]])]]),(.int .i64 6),(.int .i64 5)],[(.str [103]),(.int .i64 1),(.lst [[(.int .i64 26),(.int .i64 0),(.lst [])],[(.int .i64 2),(.int .i64 0),(.lst [])],[(.int .i64 1),(.int .i64 0),(.lst [])], 
 [(.int .i64 17),(.int .i64 0),(.lst [[(.int .i64 2)],[(.int .i64 1)]])],[(.int .i64 3),(.int .i64 0),(.lst [])],[(.int .i64 3),(.int .i64 1),(.lst [])],[(.int .i64 29),(.int .i64 0),(.lst [[(.int .i64 4)], 
 [(.int .i64 5)]])],[(.int .i64 1),(.int .i64 1),(.lst [])],[(.int .i64 4),(.int .i64 0),(.lst [[(.int .i64 5)],[(.int .i64 7)]])],[(.int .i64 17),(.int .i64 0),(.lst [[(.int .i64 8)],[(.int .i64 1)]])],[(.int .i64 31), 
 (.int .i64 0),(.lst [[(.int .i64 0)],[(.int .i64 2)],[(.int .i64 9)],[(.int .i64 6)],[(.int .i64 8)]])],[(.int .i64 25),(.int .i64 0),(.lst [[(.int .i64 10)]])],[(.int .i64 22),(.int .i64 0),(.lst [[(.int .i64 3)], 
 [(.int .i64 11)],[(.int .i64 0)]])],[(.int .i64 25),(.int .i64 1),(.lst [[(.int .i64 10)]])],[(.int .i64 22),(.int .i64 0),(.lst [[(.int .i64 3)],[(.int .i64 13)],[(.int .i64 2)]])]]),(.int .i64 14),(.int .i64 12)]])])]
def r5:AV:=(.bool true)
theorem c5(ρ:Nat->Int):bc Tryz.prog ρ 31 zeD r5:=zf6 fit (pls:=pls) (zfi ρ) (n:=100000) (m:=100) (k:=100) af af
def l6:List (FuncId×List AV×AV):=(31,zeD,r5)::l5
theorem zf0(ρ:Nat->Int):j5 Tryz.prog ρ l6:=⟨c5 ρ,zfi ρ⟩
def a6:List AV:=[(.agg [(.lst []),(.lst [[(.str [102]),(.int .i64 1),(.lst [[(.int .i64 26),(.int .i64 0),(.lst [])],[(.int .i64 2),(.int .i64 0),(.lst [])],[(.int .i64 1),(.int .i64 1),(.lst [])],[(.int .i64 1),(.int .i64 0), 
 (.lst [])],[(.int .i64 16),(.int .i64 0),(.lst [[(.int .i64 1)],[(.int .i64 3)]])],[(.int .i64 27),(.int .i64 1),(.lst [[(.int .i64 0)],[(.int .i64 4)]])],[(.int .i64 7),(.int .i64 0),(.lst [[(.int .i64 2)], 
 [(.int .i64 1)]])]]),(.int .i64 6),(.int .i64 5)],[(.str [103]),(.int .i64 1),(.lst [[(.int .i64 26),(.int .i64 0),(.lst [])],[(.int .i64 2),(.int .i64 0),(.lst [])],[(.int .i64 1),(.int .i64 0),(.lst [])], 
 [(.int .i64 17),(.int .i64 0),(.lst [[(.int .i64 2)],[(.int .i64 1)]])],[(.int .i64 3),(.int .i64 0),(.lst [])],[(.int .i64 3),(.int .i64 1),(.lst [])],[(.int .i64 29),(.int .i64 0),(.lst [[(.int .i64 4)], 
 [(.int .i64 5)]])],[(.int .i64 1),(.int .i64 1),(.lst [])],[(.int .i64 4),(.int .i64 0),(.lst [[(.int .i64 5)],[(.int .i64 7)]])],[(.int .i64 17),(.int .i64 0),(.lst [[(.int .i64 8)],[(.int .i64 1)]])],[(.int .i64 31), 
 (.int .i64 0),(.lst [[(.int .i64 0)],[(.int .i64 2)],[(.int .i64 9)],[(.int .i64 6)],[(.int .i64 8)]])],[(.int .i64 25),(.int .i64 0),(.lst [[(.int .i64 10)]])],[(.int .i64 22),(.int .i64 0),(.lst [[(.int .i64 3)], 
 [(.int .i64 11)],[(.int .i64 0)]])],[(.int .i64 25),(.int .i64 1),(.lst [[(.int .i64 10)]])],[(.int .i64 22),(.int .i64 0),(.lst [[(.int .i64 3)],[(.int .i64 13)],[(.int .i64 2)]])]]),(.int .i64 14),(.int .i64 12)]])]), 
 (.str [102]),(.lst [[(.int .i64 0)]]),(.int .i64 0)]
def r6:AV:=(.agg [(.int .i64 2),(.int .i64 1),(.lst []),(.int .i64 0)])
theorem c6(ρ:Nat->Int):bc Tryz.prog ρ 14 a6 r6:=zf6 fit (pls:=pls) (zf0 ρ) (n:=100000) (m:=100) (k:=100) af af
def zgo:List (FuncId×List AV×AV):=(14,a6,r6)::l6
theorem zge(ρ:Nat->Int):j5 Tryz.prog ρ zgo:=⟨c6 ρ,zf0 ρ⟩
def a7:List AV:=[(.agg [(.lst []),(.lst [[(.str [102]),(.int .i64 1),(.lst [[(.int .i64 26),(.int .i64 0),(.lst [])],[(.int .i64 2),(.int .i64 0),(.lst [])],[(.int .i64 1),(.int .i64 1),(.lst [])],[(.int .i64 1),(.int .i64 0), 
 (.lst [])],[(.int .i64 16),(.int .i64 0),(.lst [[(.int .i64 1)],[(.int .i64 3)]])],[(.int .i64 27),(.int .i64 1),(.lst [[(.int .i64 0)],[(.int .i64 4)]])],[(.int .i64 7),(.int .i64 0),(.lst [[(.int .i64 2)], 
 [(.int .i64 1)]])]]),(.int .i64 6),(.int .i64 5)],[(.str [103]),(.int .i64 1),(.lst [[(.int .i64 26),(.int .i64 0),(.lst [])],[(.int .i64 2),(.int .i64 0),(.lst [])],[(.int .i64 1),(.int .i64 0),(.lst [])], 
 [(.int .i64 17),(.int .i64 0),(.lst [[(.int .i64 2)],[(.int .i64 1)]])],[(.int .i64 3),(.int .i64 0),(.lst [])],[(.int .i64 3),(.int .i64 1),(.lst [])],[(.int .i64 29),(.int .i64 0),(.lst [[(.int .i64 4)], 
 [(.int .i64 5)]])],[(.int .i64 1),(.int .i64 1),(.lst [])],[(.int .i64 4),(.int .i64 0),(.lst [[(.int .i64 5)],[(.int .i64 7)]])],[(.int .i64 17),(.int .i64 0),(.lst [[(.int .i64 8)],[(.int .i64 1)]])],[(.int .i64 31), 
 (.int .i64 0),(.lst [[(.int .i64 0)],[(.int .i64 2)],[(.int .i64 9)],[(.int .i64 6)],[(.int .i64 8)]])],[(.int .i64 25),(.int .i64 0),(.lst [[(.int .i64 10)]])],[(.int .i64 22),(.int .i64 0),(.lst [[(.int .i64 3)], 
 [(.int .i64 11)],[(.int .i64 0)]])],[(.int .i64 25),(.int .i64 1),(.lst [[(.int .i64 10)]])],[(.int .i64 22),(.int .i64 0),(.lst [[(.int .i64 3)],[(.int .i64 13)],[(.int .i64 2)]])]]),(.int .i64 14),(.int .i64 12)]])]), 
 (.str [103]),(.lst [[(.int .i64 2)]]),(.int .i64 5)]
def zgg:AV:=(.agg [(.int .i64 1),(.int .i64 0),(.lst [[(.int .i64 0)],[(.int .i64 1)]]),(.int .i64 2)])
theorem c7(ρ:Nat->Int):bc Tryz.prog ρ 14 a7 zgg:=zf6 fit (pls:=pls) (zge ρ) (n:=100000) (m:=100) (k:=100) af af
def zgp:List (FuncId×List AV×AV):=(14,a7,zgg)::zgo
theorem zgl(ρ:Nat->Int):j5 Tryz.prog ρ zgp:=⟨c7 ρ,zge ρ⟩
def zgf:List AV:=[(.agg [(.lst []),(.lst [[(.str [102]),(.int .i64 1),(.lst [[(.int .i64 26),(.int .i64 0),(.lst [])],[(.int .i64 2),(.int .i64 0),(.lst [])],[(.int .i64 1),(.int .i64 1),(.lst [])],[(.int .i64 1),(.int .i64 0), 
 (.lst [])],[(.int .i64 16),(.int .i64 0),(.lst [[(.int .i64 1)],[(.int .i64 3)]])],[(.int .i64 27),(.int .i64 1),(.lst [[(.int .i64 0)],[(.int .i64 4)]])],[(.int .i64 7),(.int .i64 0),(.lst [[(.int .i64 2)], 
 [(.int .i64 1)]])]]),(.int .i64 6),(.int .i64 5)],[(.str [103]),(.int .i64 1),(.lst [[(.int .i64 26),(.int .i64 0),(.lst [])],[(.int .i64 2),(.int .i64 0),(.lst [])],[(.int .i64 1),(.int .i64 0),(.lst [])], 
 [(.int .i64 17),(.int .i64 0),(.lst [[(.int .i64 2)],[(.int .i64 1)]])],[(.int .i64 3),(.int .i64 0),(.lst [])],[(.int .i64 3),(.int .i64 1),(.lst [])],[(.int .i64 29),(.int .i64 0),(.lst [[(.int .i64 4)], 
 [(.int .i64 5)]])],[(.int .i64 1),(.int .i64 1),(.lst [])],[(.int .i64 4),(.int .i64 0),(.lst [[(.int .i64 5)],[(.int .i64 7)]])],[(.int .i64 17),(.int .i64 0),(.lst [[(.int .i64 8)],[(.int .i64 1)]])],[(.int .i64 31), 
 (.int .i64 0),(.lst [[(.int .i64 0)],[(.int .i64 2)],[(.int .i64 9)],[(.int .i64 6)],[(.int .i64 8)]])],[(.int .i64 25),(.int .i64 0),(.lst [[(.int .i64 10)]])],[(.int .i64 22),(.int .i64 0),(.lst [[(.int .i64 3)], 
 [(.int .i64 11)],[(.int .i64 0)]])],[(.int .i64 25),(.int .i64 1),(.lst [[(.int .i64 10)]])],[(.int .i64 22),(.int .i64 0),(.lst [[(.int .i64 3)],[(.int .i64 13)],[(.int .i64 2)]])]]),(.int .i64 14),(.int .i64 12)]])]), 
 (.str [103]),(.lst [[(.int .i64 9)]]),(.int .i64 1)]
def zgq:AV:=(.agg [(.int .i64 3),(.int .i64 0),(.lst [[(.int .i64 0)]]),(.int .i64 0)])
theorem c8(ρ:Nat->Int):bc Tryz.prog ρ 14 zgf zgq:=zf6 fit (pls:=pls) (zgl ρ) (n:=100000) (m:=100) (k:=100) af af
def zgs:List (FuncId×List AV×AV):=(14,zgf,zgq)::zgp
theorem k9(ρ:Nat->Int):j5 Tryz.prog ρ zgs:=⟨c8 ρ,zgl ρ⟩
def zgr:List AV:=[]
def r9:AV:=(.bool true)
theorem c9(ρ:Nat->Int):bc Tryz.prog ρ 15 zgr r9:=zf6 fit (pls:=pls) (k9 ρ) (n:=100000) (m:=100) (k:=100) af af
def list:List (FuncId×List AV×AV):=[(15,zgr,r9)]
theorem ok(ρ:Nat->Int):j5 Tryz.prog ρ list:=⟨c9 ρ,trivial⟩
end Go.Proofs.YtljebeflbbgibaaGreat.knEvEx
