/- Parts: KnEvEx. -/
import Derived.KernelRfl
import Derived.Test.YtljebeflbbgibaaGreatRows
import Derived.Test.YtljebeflbbgibaaGreatWCL
set_option linter.unusedSimpArgs false
set_option linter.unusedVariables false
set_option linter.unusedSectionVars false
set_option linter.defProp false
set_option maxHeartbeats 32000000
namespace Go.Proofs.YtljebeflbbgibaaGreat.knEvEx
set_option maxRecDepth 20000
open Go Go.Ab
def Th:List (FuncId×List AV×AV):=[]
theorem k0(ρ:Nat->Int):gM Tryz.prog ρ Th:=trivial
def a0:List AV:=[(.str [102,117,110,99,32,102,40,120,41,32,123,32,114,101,116,117,114,110,32,49,32,47,32,120,59,32,125,32,102,117,110,99,32,103,40,110,41,32,118,97,114,32,105,32,123,32,119,104,105, 
 108,101,32,40,105,32,60,32,110,41,32,123,32,111,117,116,32,105,59,32,105,32,61,32,105,32,43,32,49,59,32,125,32,114,101,116,117,114,110,32,105,59,32,125])]
def Qa:AV:=(.tup [(.lst [[(.int .i64 1),(.str [102,117,110,99]),(.int .i64 0)],[(.int .i64 1),(.str [102]),(.int .i64 5)],[(.int .i64 3),(.str [40]),(.int .i64 6)],[(.int .i64 1),(.str [120]),(.int .i64 7)],[(.int .i64 3), 
 (.str [41]),(.int .i64 8)],[(.int .i64 3),(.str [123]),(.int .i64 10)],[(.int .i64 1),(.str [114,101,116,117,114,110]),(.int .i64 12)],[(.int .i64 2),(.str [49]),(.int .i64 19)],[(.int .i64 3),(.str [47]), 
 (.int .i64 21)],[(.int .i64 1),(.str [120]),(.int .i64 23)],[(.int .i64 3),(.str [59]),(.int .i64 24)],[(.int .i64 3),(.str [125]),(.int .i64 26)],[(.int .i64 1),(.str [102,117,110,99]),(.int .i64 28)], 
 [(.int .i64 1),(.str [103]),(.int .i64 33)],[(.int .i64 3),(.str [40]),(.int .i64 34)],[(.int .i64 1),(.str [110]),(.int .i64 35)],[(.int .i64 3),(.str [41]),(.int .i64 36)],[(.int .i64 1),(.str [118,97,114]), 
 (.int .i64 38)],[(.int .i64 1),(.str [105]),(.int .i64 42)],[(.int .i64 3),(.str [123]),(.int .i64 44)],[(.int .i64 1),(.str [119,104,105,108,101]),(.int .i64 46)],[(.int .i64 3),(.str [40]),(.int .i64 52)], 
 [(.int .i64 1),(.str [105]),(.int .i64 53)],[(.int .i64 3),(.str [60]),(.int .i64 55)],[(.int .i64 1),(.str [110]),(.int .i64 57)],[(.int .i64 3),(.str [41]),(.int .i64 58)],[(.int .i64 3),(.str [123]), 
 (.int .i64 60)],[(.int .i64 1),(.str [111,117,116]),(.int .i64 62)],[(.int .i64 1),(.str [105]),(.int .i64 66)],[(.int .i64 3),(.str [59]),(.int .i64 67)],[(.int .i64 1),(.str [105]),(.int .i64 69)],[(.int .i64 3), 
 (.str [61]),(.int .i64 71)],[(.int .i64 1),(.str [105]),(.int .i64 73)],[(.int .i64 3),(.str [43]),(.int .i64 75)],[(.int .i64 2),(.str [49]),(.int .i64 77)],[(.int .i64 3),(.str [59]),(.int .i64 78)],[(.int .i64 3), 
 (.str [125]),(.int .i64 80)],[(.int .i64 1),(.str [114,101,116,117,114,110]),(.int .i64 82)],[(.int .i64 1),(.str [105]),(.int .i64 89)],[(.int .i64 3),(.str [59]),(.int .i64 90)],[(.int .i64 3),(.str [125]), 
 (.int .i64 92)]]),(.agg [(.int .i64 0),(.int .i64 0)])])
theorem c0(ρ:Nat->Int):aX Tryz.prog ρ 66 a0 Qa:=SJ fit (pls:=pls) (k0 ρ) (n:=100000) (m:=100) (k:=100) ad ad
def SF:List (FuncId×List AV×AV):=(66,a0,Qa)::Th
theorem k1(ρ:Nat->Int):gM Tryz.prog ρ SF:=⟨c0 ρ,k0 ρ⟩
def RQ:List AV:=[(.str [102,117,110,99,32,102,40,120,41,32,123,32,114,101,116,117,114,110,32,49,32,47,32,120,59,32,125,32,102,117,110,99,32,103,40,110,41,32,118,97,114,32,105,32,123,32,119,104,105, 
 108,101,32,40,105,32,60,32,110,41,32,123,32,111,117,116,32,105,59,32,105,32,61,32,105,32,43,32,49,59,32,125,32,114,101,116,117,114,110,32,105,59,32,125])]
def PV:AV:=(.tup [(.agg [.nilS,(.lst [[(.str [102]),(.lst [[(.str [120])]]),.nilS,.nilS,(.int .i64 4),(.int .i64 0),(.str []),(.int .i64 7),(.lst [[(.int .i64 1),(.int .i64 1),(.str []),(.int .i64 0),.nilS],[(.int .i64 2), 
 (.int .i64 0),(.str [120]),(.int .i64 0),.nilS]])],[(.str [103]),(.lst [[(.str [110])]]),(.lst [[(.str [105])]]),(.lst [[(.int .i64 4),(.str []),(.str []),(.int .i64 0),(.int .i64 0),(.int .i64 0),(.str []), 
 (.int .i64 0),.nilS,(.int .i64 4),(.int .i64 0),(.str []),(.int .i64 17),(.lst [[(.int .i64 2),(.int .i64 0),(.str [105]),(.int .i64 0),.nilS],[(.int .i64 2),(.int .i64 0),(.str [110]),(.int .i64 0),.nilS]]),.nilS, 
 (.lst [[(.int .i64 5),(.str []),(.str []),(.int .i64 0),(.int .i64 0),(.int .i64 0),(.str []),(.int .i64 0),.nilS,(.int .i64 2),(.int .i64 0),(.str [105]),(.int .i64 0),.nilS,.nilS,.nilS,.nilS],[(.int .i64 1), 
 (.str [105]),(.str []),(.int .i64 0),(.int .i64 0),(.int .i64 0),(.str []),(.int .i64 0),.nilS,(.int .i64 4),(.int .i64 0),(.str []),(.int .i64 4),(.lst [[(.int .i64 2),(.int .i64 0),(.str [105]),(.int .i64 0), 
 .nilS],[(.int .i64 1),(.int .i64 1),(.str []),(.int .i64 0),.nilS]]),.nilS,.nilS,.nilS]]),.nilS]]),(.int .i64 2),(.int .i64 0),(.str [105]),(.int .i64 0),.nilS]])]),(.agg [(.int .i64 0),(.int .i64 0)])])
theorem c1(ρ:Nat->Int):aX Tryz.prog ρ 37 RQ PV:=SJ fit (pls:=pls) (k1 ρ) (n:=100000) (m:=100) (k:=100) ad ad
def SG:List (FuncId×List AV×AV):=(37,RQ,PV)::SF
theorem k2(ρ:Nat->Int):gM Tryz.prog ρ SG:=⟨c1 ρ,k1 ρ⟩
def a2:List AV:=[(.agg [.nilS,(.lst [[(.str [102]),(.lst [[(.str [120])]]),.nilS,.nilS,(.int .i64 4),(.int .i64 0),(.str []),(.int .i64 7),(.lst [[(.int .i64 1),(.int .i64 1),(.str []),(.int .i64 0),.nilS],[(.int .i64 2), 
 (.int .i64 0),(.str [120]),(.int .i64 0),.nilS]])],[(.str [103]),(.lst [[(.str [110])]]),(.lst [[(.str [105])]]),(.lst [[(.int .i64 4),(.str []),(.str []),(.int .i64 0),(.int .i64 0),(.int .i64 0),(.str []), 
 (.int .i64 0),.nilS,(.int .i64 4),(.int .i64 0),(.str []),(.int .i64 17),(.lst [[(.int .i64 2),(.int .i64 0),(.str [105]),(.int .i64 0),.nilS],[(.int .i64 2),(.int .i64 0),(.str [110]),(.int .i64 0),.nilS]]),.nilS, 
 (.lst [[(.int .i64 5),(.str []),(.str []),(.int .i64 0),(.int .i64 0),(.int .i64 0),(.str []),(.int .i64 0),.nilS,(.int .i64 2),(.int .i64 0),(.str [105]),(.int .i64 0),.nilS,.nilS,.nilS,.nilS],[(.int .i64 1), 
 (.str [105]),(.str []),(.int .i64 0),(.int .i64 0),(.int .i64 0),(.str []),(.int .i64 0),.nilS,(.int .i64 4),(.int .i64 0),(.str []),(.int .i64 4),(.lst [[(.int .i64 2),(.int .i64 0),(.str [105]),(.int .i64 0), 
 .nilS],[(.int .i64 1),(.int .i64 1),(.str []),(.int .i64 0),.nilS]]),.nilS,.nilS,.nilS]]),.nilS]]),(.int .i64 2),(.int .i64 0),(.str [105]),(.int .i64 0),.nilS]])])]
def Qq:AV:=(.int .i64 0)
theorem c2(ρ:Nat->Int):aX Tryz.prog ρ 73 a2 Qq:=SJ fit (pls:=pls) (k2 ρ) (n:=100000) (m:=100) (k:=100) ad ad
def Ti:List (FuncId×List AV×AV):=(73,a2,Qq)::SG
theorem k3(ρ:Nat->Int):gM Tryz.prog ρ Ti:=⟨c2 ρ,k2 ρ⟩
def a3:List AV:=[(.agg [.nilS,(.lst [[(.str [102]),(.lst [[(.str [120])]]),.nilS,.nilS,(.int .i64 4),(.int .i64 0),(.str []),(.int .i64 7),(.lst [[(.int .i64 1),(.int .i64 1),(.str []),(.int .i64 0),.nilS],[(.int .i64 2), 
 (.int .i64 0),(.str [120]),(.int .i64 0),.nilS]])],[(.str [103]),(.lst [[(.str [110])]]),(.lst [[(.str [105])]]),(.lst [[(.int .i64 4),(.str []),(.str []),(.int .i64 0),(.int .i64 0),(.int .i64 0),(.str []), 
 (.int .i64 0),.nilS,(.int .i64 4),(.int .i64 0),(.str []),(.int .i64 17),(.lst [[(.int .i64 2),(.int .i64 0),(.str [105]),(.int .i64 0),.nilS],[(.int .i64 2),(.int .i64 0),(.str [110]),(.int .i64 0),.nilS]]),.nilS, 
 (.lst [[(.int .i64 5),(.str []),(.str []),(.int .i64 0),(.int .i64 0),(.int .i64 0),(.str []),(.int .i64 0),.nilS,(.int .i64 2),(.int .i64 0),(.str [105]),(.int .i64 0),.nilS,.nilS,.nilS,.nilS],[(.int .i64 1), 
 (.str [105]),(.str []),(.int .i64 0),(.int .i64 0),(.int .i64 0),(.str []),(.int .i64 0),.nilS,(.int .i64 4),(.int .i64 0),(.str []),(.int .i64 4),(.lst [[(.int .i64 2),(.int .i64 0),(.str [105]),(.int .i64 0), 
 .nilS],[(.int .i64 1),(.int .i64 1),(.str []),(.int .i64 0),.nilS]]),.nilS,.nilS,.nilS]]),.nilS]]),(.int .i64 2),(.int .i64 0),(.str [105]),(.int .i64 0),.nilS]])])]
def r3:AV:=(.tup [(.agg [(.lst []),(.lst [[(.str [102]),(.int .i64 1),(.lst [[(.int .i64 26),(.int .i64 0),(.lst [])],[(.int .i64 2),(.int .i64 0),(.lst [])],[(.int .i64 1),(.int .i64 1),(.lst [])],[(.int .i64 1),(.int .i64 0), 
 (.lst [])],[(.int .i64 16),(.int .i64 0),(.lst [[(.int .i64 1)],[(.int .i64 3)]])],[(.int .i64 27),(.int .i64 1),(.lst [[(.int .i64 0)],[(.int .i64 4)]])],[(.int .i64 7),(.int .i64 0),(.lst [[(.int .i64 2)], 
 [(.int .i64 1)]])]]),(.int .i64 6),(.int .i64 5)],[(.str [103]),(.int .i64 1),(.lst [[(.int .i64 26),(.int .i64 0),(.lst [])],[(.int .i64 2),(.int .i64 0),(.lst [])],[(.int .i64 1),(.int .i64 0),(.lst [])], 
 [(.int .i64 17),(.int .i64 0),(.lst [[(.int .i64 2)],[(.int .i64 1)]])],[(.int .i64 3),(.int .i64 0),(.lst [])],[(.int .i64 3),(.int .i64 1),(.lst [])],[(.int .i64 29),(.int .i64 0),(.lst [[(.int .i64 4)], 
 [(.int .i64 5)]])],[(.int .i64 1),(.int .i64 1),(.lst [])],[(.int .i64 4),(.int .i64 0),(.lst [[(.int .i64 5)],[(.int .i64 7)]])],[(.int .i64 17),(.int .i64 0),(.lst [[(.int .i64 8)],[(.int .i64 1)]])],[(.int .i64 31), 
 (.int .i64 0),(.lst [[(.int .i64 0)],[(.int .i64 2)],[(.int .i64 9)],[(.int .i64 6)],[(.int .i64 8)]])],[(.int .i64 25),(.int .i64 0),(.lst [[(.int .i64 10)]])],[(.int .i64 22),(.int .i64 0),(.lst [[(.int .i64 3)], 
 [(.int .i64 11)],[(.int .i64 0)]])],[(.int .i64 25),(.int .i64 1),(.lst [[(.int .i64 10)]])],[(.int .i64 22),(.int .i64 0),(.lst [[(.int .i64 3)],[(.int .i64 13)],[(.int .i64 2)]])]]),(.int .i64 14),(.int .i64 12)]])]), 
 (.int .i64 0)])
theorem c3(ρ:Nat->Int):aX Tryz.prog ρ 38 a3 r3:=SJ fit (pls:=pls) (k3 ρ) (n:=100000) (m:=100) (k:=100) ad ad
def Tj:List (FuncId×List AV×AV):=(38,a3,r3)::Ti
theorem k4(ρ:Nat->Int):gM Tryz.prog ρ Tj:=⟨c3 ρ,k3 ρ⟩
def a4:List AV:=[(.agg [(.lst []),(.lst [[(.str [102]),.nilS,.nilS,.nilS,(.int .i64 1),(.int .i64 0),(.str []),(.int .i64 0),.nilS],[(.str [103]),.nilS,.nilS,.nilS,(.int .i64 1),(.int .i64 0),(.str []),(.int .i64 0),.nilS]])])]
def Tc:AV:=(.int .i64 0)
theorem c4(ρ:Nat->Int):aX Tryz.prog ρ 55 a4 Tc:=SJ fit (pls:=pls) (k4 ρ) (n:=100000) (m:=100) (k:=100) ad ad
def Tl:List (FuncId×List AV×AV):=(55,a4,Tc)::Tj
theorem k5(ρ:Nat->Int):gM Tryz.prog ρ Tl:=⟨c4 ρ,k4 ρ⟩
def a5:List AV:=[(.agg [(.lst []),(.lst [[(.str [102]),(.int .i64 1),(.lst [[(.int .i64 26),(.int .i64 0),(.lst [])],[(.int .i64 2),(.int .i64 0),(.lst [])],[(.int .i64 1),(.int .i64 1),(.lst [])],[(.int .i64 1),(.int .i64 0), 
 (.lst [])],[(.int .i64 16),(.int .i64 0),(.lst [[(.int .i64 1)],[(.int .i64 3)]])],[(.int .i64 27),(.int .i64 1),(.lst [[(.int .i64 0)],[(.int .i64 4)]])],[(.int .i64 7),(.int .i64 0),(.lst [[(.int .i64 2)], 
 [(.int .i64 1)]])]]),(.int .i64 6),(.int .i64 5)],[(.str [103]),(.int .i64 1),(.lst [[(.int .i64 26),(.int .i64 0),(.lst [])],[(.int .i64 2),(.int .i64 0),(.lst [])],[(.int .i64 1),(.int .i64 0),(.lst [])], 
 [(.int .i64 17),(.int .i64 0),(.lst [[(.int .i64 2)],[(.int .i64 1)]])],[(.int .i64 3),(.int .i64 0),(.lst [])],[(.int .i64 3),(.int .i64 1),(.lst [])],[(.int .i64 29),(.int .i64 0),(.lst [[(.int .i64 4)], 
 [(.int .i64 5)]])],[(.int .i64 1),(.int .i64 1),(.lst [])],[(.int .i64 4),(.int .i64 0),(.lst [[(.int .i64 5)],[(.int .i64 7)]])],[(.int .i64 17),(.int .i64 0),(.lst [[(.int .i64 8)],[(.int .i64 1)]])],[(.int .i64 31), 
 (.int .i64 0),(.lst [[(.int .i64 0)],[(.int .i64 2)],[(.int .i64 9)],[(.int .i64 6)],[(.int .i64 8)]])],[(.int .i64 25),(.int .i64 0),(.lst [[(.int .i64 10)]])],[(.int .i64 22),(.int .i64 0),(.lst [[(.int .i64 3)], 
 [(.int .i64 11)],[(.int .i64 0)]])],[(.int .i64 25),(.int .i64 1),(.lst [[(.int .i64 10)]])],[(.int .i64 22),(.int .i64 0),(.lst [[(.int .i64 3)],[(.int .i64 13)],[(.int .i64 2)]])]]),(.int .i64 14),(.int .i64 12)]])])]
def Td:AV:=(.bool true)
theorem c5(ρ:Nat->Int):aX Tryz.prog ρ 31 a5 Td:=SJ fit (pls:=pls) (k5 ρ) (n:=100000) (m:=100) (k:=100) ad ad
def Tm:List (FuncId×List AV×AV):=(31,a5,Td)::Tl
theorem k6(ρ:Nat->Int):gM Tryz.prog ρ Tm:=⟨c5 ρ,k5 ρ⟩
def S1:List AV:=[(.agg [(.lst []),(.lst [[(.str [102]),(.int .i64 1),(.lst [[(.int .i64 26),(.int .i64 0),(.lst [])],[(.int .i64 2),(.int .i64 0),(.lst [])],[(.int .i64 1),(.int .i64 1),(.lst [])],[(.int .i64 1),(.int .i64 0), 
 (.lst [])],[(.int .i64 16),(.int .i64 0),(.lst [[(.int .i64 1)],[(.int .i64 3)]])],[(.int .i64 27),(.int .i64 1),(.lst [[(.int .i64 0)],[(.int .i64 4)]])],[(.int .i64 7),(.int .i64 0),(.lst [[(.int .i64 2)], 
 [(.int .i64 1)]])]]),(.int .i64 6),(.int .i64 5)],[(.str [103]),(.int .i64 1),(.lst [[(.int .i64 26),(.int .i64 0),(.lst [])],[(.int .i64 2),(.int .i64 0),(.lst [])],[(.int .i64 1),(.int .i64 0),(.lst [])], 
 [(.int .i64 17),(.int .i64 0),(.lst [[(.int .i64 2)],[(.int .i64 1)]])],[(.int .i64 3),(.int .i64 0),(.lst [])],[(.int .i64 3),(.int .i64 1),(.lst [])],[(.int .i64 29),(.int .i64 0),(.lst [[(.int .i64 4)], 
 [(.int .i64 5)]])],[(.int .i64 1),(.int .i64 1),(.lst [])],[(.int .i64 4),(.int .i64 0),(.lst [[(.int .i64 5)],[(.int .i64 7)]])],[(.int .i64 17),(.int .i64 0),(.lst [[(.int .i64 8)],[(.int .i64 1)]])],[(.int .i64 31), 
 (.int .i64 0),(.lst [[(.int .i64 0)],[(.int .i64 2)],[(.int .i64 9)],[(.int .i64 6)],[(.int .i64 8)]])],[(.int .i64 25),(.int .i64 0),(.lst [[(.int .i64 10)]])],[(.int .i64 22),(.int .i64 0),(.lst [[(.int .i64 3)], 
 [(.int .i64 11)],[(.int .i64 0)]])],[(.int .i64 25),(.int .i64 1),(.lst [[(.int .i64 10)]])],[(.int .i64 22),(.int .i64 0),(.lst [[(.int .i64 3)],[(.int .i64 13)],[(.int .i64 2)]])]]),(.int .i64 14),(.int .i64 12)]])]), 
 (.str [102]),(.lst [[(.int .i64 0)]]),(.int .i64 0)]
def S7:AV:=(.agg [(.int .i64 2),(.int .i64 1),(.lst []),(.int .i64 0)])
theorem c6(ρ:Nat->Int):aX Tryz.prog ρ 14 S1 S7:=SJ fit (pls:=pls) (k6 ρ) (n:=100000) (m:=100) (k:=100) ad ad
def Tn:List (FuncId×List AV×AV):=(14,S1,S7)::Tm
theorem k7(ρ:Nat->Int):gM Tryz.prog ρ Tn:=⟨c6 ρ,k6 ρ⟩
def SZ:List AV:=[(.agg [(.lst []),(.lst [[(.str [102]),(.int .i64 1),(.lst [[(.int .i64 26),(.int .i64 0),(.lst [])],[(.int .i64 2),(.int .i64 0),(.lst [])],[(.int .i64 1),(.int .i64 1),(.lst [])],[(.int .i64 1),(.int .i64 0), 
 (.lst [])],[(.int .i64 16),(.int .i64 0),(.lst [[(.int .i64 1)],[(.int .i64 3)]])],[(.int .i64 27),(.int .i64 1),(.lst [[(.int .i64 0)],[(.int .i64 4)]])],[(.int .i64 7),(.int .i64 0),(.lst [[(.int .i64 2)], 
 [(.int .i64 1)]])]]),(.int .i64 6),(.int .i64 5)],[(.str [103]),(.int .i64 1),(.lst [[(.int .i64 26),(.int .i64 0),(.lst [])],[(.int .i64 2),(.int .i64 0),(.lst [])],[(.int .i64 1),(.int .i64 0),(.lst [])], 
 [(.int .i64 17),(.int .i64 0),(.lst [[(.int .i64 2)],[(.int .i64 1)]])],[(.int .i64 3),(.int .i64 0),(.lst [])],[(.int .i64 3),(.int .i64 1),(.lst [])],[(.int .i64 29),(.int .i64 0),(.lst [[(.int .i64 4)], 
 [(.int .i64 5)]])],[(.int .i64 1),(.int .i64 1),(.lst [])],[(.int .i64 4),(.int .i64 0),(.lst [[(.int .i64 5)],[(.int .i64 7)]])],[(.int .i64 17),(.int .i64 0),(.lst [[(.int .i64 8)],[(.int .i64 1)]])],[(.int .i64 31), 
 (.int .i64 0),(.lst [[(.int .i64 0)],[(.int .i64 2)],[(.int .i64 9)],[(.int .i64 6)],[(.int .i64 8)]])],[(.int .i64 25),(.int .i64 0),(.lst [[(.int .i64 10)]])],[(.int .i64 22),(.int .i64 0),(.lst [[(.int .i64 3)], 
 [(.int .i64 11)],[(.int .i64 0)]])],[(.int .i64 25),(.int .i64 1),(.lst [[(.int .i64 10)]])],[(.int .i64 22),(.int .i64 0),(.lst [[(.int .i64 3)],[(.int .i64 13)],[(.int .i64 2)]])]]),(.int .i64 14),(.int .i64 12)]])]), 
 (.str [103]),(.lst [[(.int .i64 2)]]),(.int .i64 5)]
def To:AV:=(.agg [(.int .i64 1),(.int .i64 0),(.lst [[(.int .i64 0)],[(.int .i64 1)]]),(.int .i64 2)])
theorem c7(ρ:Nat->Int):aX Tryz.prog ρ 14 SZ To:=SJ fit (pls:=pls) (k7 ρ) (n:=100000) (m:=100) (k:=100) ad ad
def Tp:List (FuncId×List AV×AV):=(14,SZ,To)::Tn
theorem k8(ρ:Nat->Int):gM Tryz.prog ρ Tp:=⟨c7 ρ,k7 ρ⟩
def a8:List AV:=[(.agg [(.lst []),(.lst [[(.str [102]),(.int .i64 1),(.lst [[(.int .i64 26),(.int .i64 0),(.lst [])],[(.int .i64 2),(.int .i64 0),(.lst [])],[(.int .i64 1),(.int .i64 1),(.lst [])],[(.int .i64 1),(.int .i64 0), 
 (.lst [])],[(.int .i64 16),(.int .i64 0),(.lst [[(.int .i64 1)],[(.int .i64 3)]])],[(.int .i64 27),(.int .i64 1),(.lst [[(.int .i64 0)],[(.int .i64 4)]])],[(.int .i64 7),(.int .i64 0),(.lst [[(.int .i64 2)], 
 [(.int .i64 1)]])]]),(.int .i64 6),(.int .i64 5)],[(.str [103]),(.int .i64 1),(.lst [[(.int .i64 26),(.int .i64 0),(.lst [])],[(.int .i64 2),(.int .i64 0),(.lst [])],[(.int .i64 1),(.int .i64 0),(.lst [])], 
 [(.int .i64 17),(.int .i64 0),(.lst [[(.int .i64 2)],[(.int .i64 1)]])],[(.int .i64 3),(.int .i64 0),(.lst [])],[(.int .i64 3),(.int .i64 1),(.lst [])],[(.int .i64 29),(.int .i64 0),(.lst [[(.int .i64 4)], 
 [(.int .i64 5)]])],[(.int .i64 1),(.int .i64 1),(.lst [])],[(.int .i64 4),(.int .i64 0),(.lst [[(.int .i64 5)],[(.int .i64 7)]])],[(.int .i64 17),(.int .i64 0),(.lst [[(.int .i64 8)],[(.int .i64 1)]])],[(.int .i64 31), 
 (.int .i64 0),(.lst [[(.int .i64 0)],[(.int .i64 2)],[(.int .i64 9)],[(.int .i64 6)],[(.int .i64 8)]])],[(.int .i64 25),(.int .i64 0),(.lst [[(.int .i64 10)]])],[(.int .i64 22),(.int .i64 0),(.lst [[(.int .i64 3)], 
 [(.int .i64 11)],[(.int .i64 0)]])],[(.int .i64 25),(.int .i64 1),(.lst [[(.int .i64 10)]])],[(.int .i64 22),(.int .i64 0),(.lst [[(.int .i64 3)],[(.int .i64 13)],[(.int .i64 2)]])]]),(.int .i64 14),(.int .i64 12)]])]), 
 (.str [103]),(.lst [[(.int .i64 9)]]),(.int .i64 1)]
def Tq:AV:=(.agg [(.int .i64 3),(.int .i64 0),(.lst [[(.int .i64 0)]]),(.int .i64 0)])
theorem c8(ρ:Nat->Int):aX Tryz.prog ρ 14 a8 Tq:=SJ fit (pls:=pls) (k8 ρ) (n:=100000) (m:=100) (k:=100) ad ad
def Tt:List (FuncId×List AV×AV):=(14,a8,Tq)::Tp
theorem k9(ρ:Nat->Int):gM Tryz.prog ρ Tt:=⟨c8 ρ,k8 ρ⟩
def Tr:List AV:=[]
def Ts:AV:=(.bool true)
theorem c9(ρ:Nat->Int):aX Tryz.prog ρ 15 Tr Ts:=SJ fit (pls:=pls) (k9 ρ) (n:=100000) (m:=100) (k:=100) ad ad
def list:List (FuncId×List AV×AV):=[(15,Tr,Ts)]
theorem ok(ρ:Nat->Int):gM Tryz.prog ρ list:=⟨c9 ρ,trivial⟩
end Go.Proofs.YtljebeflbbgibaaGreat.knEvEx
