/- Lemmas for the last file. -/
import Derived.KernelRfl
import Derived.Test.YtbflaciihaijgaaGreatRows
import Derived.Test.YtbflaciihaijgaaGreatUER
set_option linter.all false
set_option maxHeartbeats 32000000
namespace Go.Proofs.YtbflaciihaijgaaGreat.knEvEx
set_option maxRecDepth 20000
open Go Go.Ab Proofs.Tryz
def l0:List (FuncId×qB×AV):=[]
variable(ρ:Nat->Int)
def k0:oI prog ρ l0:=trivial
def fD:qB:=[(.ay [102,117,110,99,32,102,40,120,41,32,123,32,114,101,116,117,114,110,32,49,32,47,32,120,59,32,125,32,102,117,110,99,32,103,40,110,41,32,118,97,114,32,105,32,123,32,119,104,105, 
 108,101,32,40,105,32,60,32,110,41,32,123,32,111,117,116,32,105,59,32,105,32,61,32,105,32,43,32,49,59,32,125,32,114,101,116,117,114,110,32,105,59,32,125])]
def au:AV:=(.bH [(.aE [[(.int .i64 1),(.ay [102,117,110,99]),(.int .i64 0)],[(.int .i64 1),(.ay [102]),(.int .i64 5)],[(.int .i64 3),(.ay [40]),(.int .i64 6)],[(.int .i64 1),(.ay [120]),(.int .i64 7)],[(.int .i64 3), 
 (.ay [41]),(.int .i64 8)],[(.int .i64 3),(.ay [123]),(.int .i64 10)],[(.int .i64 1),(.ay [114,101,116,117,114,110]),(.int .i64 12)],[(.int .i64 2),(.ay [49]),(.int .i64 19)],[(.int .i64 3),(.ay [47]), 
 (.int .i64 21)],[(.int .i64 1),(.ay [120]),(.int .i64 23)],[(.int .i64 3),(.ay [59]),(.int .i64 24)],[(.int .i64 3),(.ay [125]),(.int .i64 26)],[(.int .i64 1),(.ay [102,117,110,99]),(.int .i64 28)], 
 [(.int .i64 1),(.ay [103]),(.int .i64 33)],[(.int .i64 3),(.ay [40]),(.int .i64 34)],[(.int .i64 1),(.ay [110]),(.int .i64 35)],[(.int .i64 3),(.ay [41]),(.int .i64 36)],[(.int .i64 1),(.ay [118,97,114]), 
 (.int .i64 38)],[(.int .i64 1),(.ay [105]),(.int .i64 42)],[(.int .i64 3),(.ay [123]),(.int .i64 44)],[(.int .i64 1),(.ay [119,104,105,108,101]),(.int .i64 46)],[(.int .i64 3),(.ay [40]),(.int .i64 52)], 
 [(.int .i64 1),(.ay [105]),(.int .i64 53)],[(.int .i64 3),(.ay [60]),(.int .i64 55)],[(.int .i64 1),(.ay [110]),(.int .i64 57)],[(.int .i64 3),(.ay [41]),(.int .i64 58)],[(.int .i64 3),(.ay [123]), 
 (.int .i64 60)],[(.int .i64 1),(.ay [111,117,116]),(.int .i64 62)],[(.int .i64 1),(.ay [105]),(.int .i64 66)],[(.int .i64 3),(.ay [59]),(.int .i64 67)],[(.int .i64 1),(.ay [105]),(.int .i64 69)],[(.int .i64 3), 
 (.ay [61]),(.int .i64 71)],[(.int .i64 1),(.ay [105]),(.int .i64 73)],[(.int .i64 3),(.ay [43]),(.int .i64 75)],[(.int .i64 2),(.ay [49]),(.int .i64 77)],[(.int .i64 3),(.ay [59]),(.int .i64 78)],[(.int .i64 3), 
 (.ay [125]),(.int .i64 80)],[(.int .i64 1),(.ay [114,101,116,117,114,110]),(.int .i64 82)],[(.int .i64 1),(.ay [105]),(.int .i64 89)],[(.int .i64 3),(.ay [59]),(.int .i64 90)],[(.int .i64 3),(.ay [125]), 
 (.int .i64 92)]]),(.agg [(.int .i64 0),(.int .i64 0)])])
def c0(ρ:Nat->Int):bA prog ρ 60 fD au:=ut fit (pls:=pls) (k0 ρ) (n:=100000) (m:=100) (k:=100) ax ax
def l1:List (FuncId×qB×AV):=(60,fD,au)::l0
def k1:oI prog ρ l1:=⟨c0 ρ,k0 ρ⟩
def aI:qB:=[(.ay [102,117,110,99,32,102,40,120,41,32,123,32,114,101,116,117,114,110,32,49,32,47,32,120,59,32,125,32,102,117,110,99,32,103,40,110,41,32,118,97,114,32,105,32,123,32,119,104,105, 
 108,101,32,40,105,32,60,32,110,41,32,123,32,111,117,116,32,105,59,32,105,32,61,32,105,32,43,32,49,59,32,125,32,114,101,116,117,114,110,32,105,59,32,125])]
def aq:AV:=(.bH [(.agg [.ao,(.aE [[(.ay [102]),(.aE [[(.ay [120])]]),.ao,.ao,(.int .i64 4),(.int .i64 0),(.ay []),(.int .i64 7),(.aE [[(.int .i64 1),(.int .i64 1),(.ay []),(.int .i64 0),.ao],[(.int .i64 2), 
 (.int .i64 0),(.ay [120]),(.int .i64 0),.ao]])],[(.ay [103]),(.aE [[(.ay [110])]]),(.aE [[(.ay [105])]]),(.aE [[(.int .i64 4),(.ay []),(.ay []),(.int .i64 0),(.int .i64 0),(.int .i64 0),(.ay []), 
 (.int .i64 0),.ao,(.int .i64 4),(.int .i64 0),(.ay []),(.int .i64 17),(.aE [[(.int .i64 2),(.int .i64 0),(.ay [105]),(.int .i64 0),.ao],[(.int .i64 2),(.int .i64 0),(.ay [110]),(.int .i64 0),.ao]]),.ao, 
 (.aE [[(.int .i64 5),(.ay []),(.ay []),(.int .i64 0),(.int .i64 0),(.int .i64 0),(.ay []),(.int .i64 0),.ao,(.int .i64 2),(.int .i64 0),(.ay [105]),(.int .i64 0),.ao,.ao,.ao,.ao],[(.int .i64 1), 
 (.ay [105]),(.ay []),(.int .i64 0),(.int .i64 0),(.int .i64 0),(.ay []),(.int .i64 0),.ao,(.int .i64 4),(.int .i64 0),(.ay []),(.int .i64 4),(.aE [[(.int .i64 2),(.int .i64 0),(.ay [105]),(.int .i64 0), 
 .ao],[(.int .i64 1),(.int .i64 1),(.ay []),(.int .i64 0),.ao]]),.ao,.ao,.ao]]),.ao]]),(.int .i64 2),(.int .i64 0),(.ay [105]),(.int .i64 0),.ao]])]),(.agg [(.int .i64 0),(.int .i64 0)])])
def c1(ρ:Nat->Int):bA prog ρ 35 aI aq:=ut fit (pls:=pls) (k1 ρ) (n:=100000) (m:=100) (k:=100) ax ax
def l2:List (FuncId×qB×AV):=(35,aI,aq)::l1
def k2:oI prog ρ l2:=⟨c1 ρ,k1 ρ⟩
def a6:qB:=[(.agg [.ao,(.aE [[(.ay [102]),(.aE [[(.ay [120])]]),.ao,.ao,(.int .i64 4),(.int .i64 0),(.ay []),(.int .i64 7),(.aE [[(.int .i64 1),(.int .i64 1),(.ay []),(.int .i64 0),.ao],[(.int .i64 2), 
 (.int .i64 0),(.ay [120]),(.int .i64 0),.ao]])],[(.ay [103]),(.aE [[(.ay [110])]]),(.aE [[(.ay [105])]]),(.aE [[(.int .i64 4),(.ay []),(.ay []),(.int .i64 0),(.int .i64 0),(.int .i64 0),(.ay []), 
 (.int .i64 0),.ao,(.int .i64 4),(.int .i64 0),(.ay []),(.int .i64 17),(.aE [[(.int .i64 2),(.int .i64 0),(.ay [105]),(.int .i64 0),.ao],[(.int .i64 2),(.int .i64 0),(.ay [110]),(.int .i64 0),.ao]]),.ao, 
 (.aE [[(.int .i64 5),(.ay []),(.ay []),(.int .i64 0),(.int .i64 0),(.int .i64 0),(.ay []),(.int .i64 0),.ao,(.int .i64 2),(.int .i64 0),(.ay [105]),(.int .i64 0),.ao,.ao,.ao,.ao],[(.int .i64 1), 
 (.ay [105]),(.ay []),(.int .i64 0),(.int .i64 0),(.int .i64 0),(.ay []),(.int .i64 0),.ao,(.int .i64 4),(.int .i64 0),(.ay []),(.int .i64 4),(.aE [[(.int .i64 2),(.int .i64 0),(.ay [105]),(.int .i64 0), 
 .ao],[(.int .i64 1),(.int .i64 1),(.ay []),(.int .i64 0),.ao]]),.ao,.ao,.ao]]),.ao]]),(.int .i64 2),(.int .i64 0),(.ay [105]),(.int .i64 0),.ao]])])]
def r2:AV:=(.int .i64 0)
def c2(ρ:Nat->Int):bA prog ρ 54 a6 r2:=ut fit (pls:=pls) (k2 ρ) (n:=100000) (m:=100) (k:=100) ax ax
def l3:List (FuncId×qB×AV):=(54,a6,r2)::l2
def ee:oI prog ρ l3:=⟨c2 ρ,k2 ρ⟩
def cp:qB:=[(.agg [.ao,(.aE [[(.ay [102]),(.aE [[(.ay [120])]]),.ao,.ao,(.int .i64 4),(.int .i64 0),(.ay []),(.int .i64 7),(.aE [[(.int .i64 1),(.int .i64 1),(.ay []),(.int .i64 0),.ao],[(.int .i64 2), 
 (.int .i64 0),(.ay [120]),(.int .i64 0),.ao]])],[(.ay [103]),(.aE [[(.ay [110])]]),(.aE [[(.ay [105])]]),(.aE [[(.int .i64 4),(.ay []),(.ay []),(.int .i64 0),(.int .i64 0),(.int .i64 0),(.ay []), 
 (.int .i64 0),.ao,(.int .i64 4),(.int .i64 0),(.ay []),(.int .i64 17),(.aE [[(.int .i64 2),(.int .i64 0),(.ay [105]),(.int .i64 0),.ao],[(.int .i64 2),(.int .i64 0),(.ay [110]),(.int .i64 0),.ao]]),.ao, 
 (.aE [[(.int .i64 5),(.ay []),(.ay []),(.int .i64 0),(.int .i64 0),(.int .i64 0),(.ay []),(.int .i64 0),.ao,(.int .i64 2),(.int .i64 0),(.ay [105]),(.int .i64 0),.ao,.ao,.ao,.ao],[(.int .i64 1), 
 (.ay [105]),(.ay []),(.int .i64 0),(.int .i64 0),(.int .i64 0),(.ay []),(.int .i64 0),.ao,(.int .i64 4),(.int .i64 0),(.ay []),(.int .i64 4),(.aE [[(.int .i64 2),(.int .i64 0),(.ay [105]),(.int .i64 0), 
 .ao],[(.int .i64 1),(.int .i64 1),(.ay []),(.int .i64 0),.ao]]),.ao,.ao,.ao]]),.ao]]),(.int .i64 2),(.int .i64 0),(.ay [105]),(.int .i64 0),.ao]])])]
def r8:AV:=(.bH [(.agg [(.aE []),(.aE [[(.ay [102]),(.int .i64 1),(.aE [[(.int .i64 26),(.int .i64 0),(.aE [])],[(.int .i64 2),(.int .i64 0),(.aE [])],[(.int .i64 1),(.int .i64 1),(.aE [])],[(.int .i64 1),(.int .i64 0), 
 (.aE [])],[(.int .i64 16),(.int .i64 0),(.aE [[(.int .i64 1)],[(.int .i64 3)]])],[(.int .i64 27),(.int .i64 1),(.aE [[(.int .i64 0)],[(.int .i64 4)]])],[(.int .i64 7),(.int .i64 0),(.aE [[(.int .i64 2)], 
 [(.int .i64 1)]])]]),(.int .i64 6),(.int .i64 5)],[(.ay [103]),(.int .i64 1),(.aE [[(.int .i64 26),(.int .i64 0),(.aE [])],[(.int .i64 2),(.int .i64 0),(.aE [])],[(.int .i64 1),(.int .i64 0),(.aE [])], 
 [(.int .i64 17),(.int .i64 0),(.aE [[(.int .i64 2)],[(.int .i64 1)]])],[(.int .i64 3),(.int .i64 0),(.aE [])],[(.int .i64 3),(.int .i64 1),(.aE [])],[(.int .i64 29),(.int .i64 0),(.aE [[(.int .i64 4)], 
 [(.int .i64 5)]])],[(.int .i64 1),(.int .i64 1),(.aE [])],[(.int .i64 4),(.int .i64 0),(.aE [[(.int .i64 5)],[(.int .i64 7)]])],[(.int .i64 17),(.int .i64 0),(.aE [[(.int .i64 8)],[(.int .i64 1)]])],[(.int .i64 31), 
 (.int .i64 0),(.aE [[(.int .i64 0)],[(.int .i64 2)],[(.int .i64 9)],[(.int .i64 6)],[(.int .i64 8)]])],[(.int .i64 25),(.int .i64 0),(.aE [[(.int .i64 10)]])],[(.int .i64 22),(.int .i64 0),(.aE [[(.int .i64 3)], 
 [(.int .i64 11)],[(.int .i64 0)]])],[(.int .i64 25),(.int .i64 1),(.aE [[(.int .i64 10)]])],[(.int .i64 22),(.int .i64 0),(.aE [[(.int .i64 3)],[(.int .i64 13)],[(.int .i64 2)]])]]),(.int .i64 14),(.int .i64 12)]])]), 
 (.int .i64 0)])
def c3(ρ:Nat->Int):bA prog ρ 36 cp r8:=ut fit (pls:=pls) (ee ρ) (n:=100000) (m:=100) (k:=100) ax ax
def l4:List (FuncId×qB×AV):=(36,cp,r8)::l3
def fm:oI prog ρ l4:=⟨c3 ρ,ee ρ⟩
def dO:qB:=[(.agg [(.aE []),(.aE [[(.ay [102]),.ao,.ao,.ao,(.int .i64 1),(.int .i64 0),(.ay []),(.int .i64 0),.ao],[(.ay [103]),.ao,.ao,.ao,(.int .i64 1),(.int .i64 0),(.ay []),(.int .i64 0),.ao]])])]
def wI:AV:=(.int .i64 0)
def c4(ρ:Nat->Int):bA prog ρ 38 dO wI:=ut fit (pls:=pls) (fm ρ) (n:=100000) (m:=100) (k:=100) ax ax
def YJ:List (FuncId×qB×AV):=(38,dO,wI)::l4
def dF:oI prog ρ YJ:=⟨c4 ρ,fm ρ⟩
def cI:qB:=[(.agg [(.aE []),(.aE [[(.ay [102]),(.int .i64 1),(.aE [[(.int .i64 26),(.int .i64 0),(.aE [])],[(.int .i64 2),(.int .i64 0),(.aE [])],[(.int .i64 1),(.int .i64 1),(.aE [])],[(.int .i64 1),(.int .i64 0), 
 (.aE [])],[(.int .i64 16),(.int .i64 0),(.aE [[(.int .i64 1)],[(.int .i64 3)]])],[(.int .i64 27),(.int .i64 1),(.aE [[(.int .i64 0)],[(.int .i64 4)]])],[(.int .i64 7),(.int .i64 0),(.aE [[(.int .i64 2)], 
 [(.int .i64 1)]])]]),(.int .i64 6),(.int .i64 5)],[(.ay [103]),(.int .i64 1),(.aE [[(.int .i64 26),(.int .i64 0),(.aE [])],[(.int .i64 2),(.int .i64 0),(.aE [])],[(.int .i64 1),(.int .i64 0),(.aE [])], 
 [(.int .i64 17),(.int .i64 0),(.aE [[(.int .i64 2)],[(.int .i64 1)]])],[(.int .i64 3),(.int .i64 0),(.aE [])],[(.int .i64 3),(.int .i64 1),(.aE [])],[(.int .i64 29),(.int .i64 0),(.aE [[(.int .i64 4)], 
 [(.int .i64 5)]])],[(.int .i64 1),(.int .i64 1),(.aE [])],[(.int .i64 4),(.int .i64 0),(.aE [[(.int .i64 5)],[(.int .i64 7)]])],[(.int .i64 17),(.int .i64 0),(.aE [[(.int .i64 8)],[(.int .i64 1)]])],[(.int .i64 31), 
 (.int .i64 0),(.aE [[(.int .i64 0)],[(.int .i64 2)],[(.int .i64 9)],[(.int .i64 6)],[(.int .i64 8)]])],[(.int .i64 25),(.int .i64 0),(.aE [[(.int .i64 10)]])],[(.int .i64 22),(.int .i64 0),(.aE [[(.int .i64 3)], 
 [(.int .i64 11)],[(.int .i64 0)]])],[(.int .i64 25),(.int .i64 1),(.aE [[(.int .i64 10)]])],[(.int .i64 22),(.int .i64 0),(.aE [[(.int .i64 3)],[(.int .i64 13)],[(.int .i64 2)]])]]),(.int .i64 14),(.int .i64 12)]])])]
def Jy:AV:=(.bool true)
def c5(ρ:Nat->Int):bA prog ρ 17 cI Jy:=ut fit (pls:=pls) (dF ρ) (n:=100000) (m:=100) (k:=100) ax ax
def zU:List (FuncId×qB×AV):=(17,cI,Jy)::YJ
def k6:oI prog ρ zU:=⟨c5 ρ,dF ρ⟩
def eO:qB:=[(.agg [(.aE []),(.aE [[(.ay [102]),(.int .i64 1),(.aE [[(.int .i64 26),(.int .i64 0),(.aE [])],[(.int .i64 2),(.int .i64 0),(.aE [])],[(.int .i64 1),(.int .i64 1),(.aE [])],[(.int .i64 1),(.int .i64 0), 
 (.aE [])],[(.int .i64 16),(.int .i64 0),(.aE [[(.int .i64 1)],[(.int .i64 3)]])],[(.int .i64 27),(.int .i64 1),(.aE [[(.int .i64 0)],[(.int .i64 4)]])],[(.int .i64 7),(.int .i64 0),(.aE [[(.int .i64 2)], 
 [(.int .i64 1)]])]]),(.int .i64 6),(.int .i64 5)],[(.ay [103]),(.int .i64 1),(.aE [[(.int .i64 26),(.int .i64 0),(.aE [])],[(.int .i64 2),(.int .i64 0),(.aE [])],[(.int .i64 1),(.int .i64 0),(.aE [])], 
 [(.int .i64 17),(.int .i64 0),(.aE [[(.int .i64 2)],[(.int .i64 1)]])],[(.int .i64 3),(.int .i64 0),(.aE [])],[(.int .i64 3),(.int .i64 1),(.aE [])],[(.int .i64 29),(.int .i64 0),(.aE [[(.int .i64 4)], 
 [(.int .i64 5)]])],[(.int .i64 1),(.int .i64 1),(.aE [])],[(.int .i64 4),(.int .i64 0),(.aE [[(.int .i64 5)],[(.int .i64 7)]])],[(.int .i64 17),(.int .i64 0),(.aE [[(.int .i64 8)],[(.int .i64 1)]])],[(.int .i64 31), 
 (.int .i64 0),(.aE [[(.int .i64 0)],[(.int .i64 2)],[(.int .i64 9)],[(.int .i64 6)],[(.int .i64 8)]])],[(.int .i64 25),(.int .i64 0),(.aE [[(.int .i64 10)]])],[(.int .i64 22),(.int .i64 0),(.aE [[(.int .i64 3)], 
 [(.int .i64 11)],[(.int .i64 0)]])],[(.int .i64 25),(.int .i64 1),(.aE [[(.int .i64 10)]])],[(.int .i64 22),(.int .i64 0),(.aE [[(.int .i64 3)],[(.int .i64 13)],[(.int .i64 2)]])]]),(.int .i64 14),(.int .i64 12)]])]), 
 (.ay [102]),(.aE [[(.int .i64 0)]]),(.int .i64 0)]
def YK:AV:=(.agg [(.int .i64 2),(.int .i64 1),(.aE []),(.int .i64 0)])
def c6(ρ:Nat->Int):bA prog ρ 22 eO YK:=ut fit (pls:=pls) (k6 ρ) (n:=100000) (m:=100) (k:=100) ax ax
def YL:List (FuncId×qB×AV):=(22,eO,YK)::zU
def iU:oI prog ρ YL:=⟨c6 ρ,k6 ρ⟩
def nN:qB:=[(.agg [(.aE []),(.aE [[(.ay [102]),(.int .i64 1),(.aE [[(.int .i64 26),(.int .i64 0),(.aE [])],[(.int .i64 2),(.int .i64 0),(.aE [])],[(.int .i64 1),(.int .i64 1),(.aE [])],[(.int .i64 1),(.int .i64 0), 
 (.aE [])],[(.int .i64 16),(.int .i64 0),(.aE [[(.int .i64 1)],[(.int .i64 3)]])],[(.int .i64 27),(.int .i64 1),(.aE [[(.int .i64 0)],[(.int .i64 4)]])],[(.int .i64 7),(.int .i64 0),(.aE [[(.int .i64 2)], 
 [(.int .i64 1)]])]]),(.int .i64 6),(.int .i64 5)],[(.ay [103]),(.int .i64 1),(.aE [[(.int .i64 26),(.int .i64 0),(.aE [])],[(.int .i64 2),(.int .i64 0),(.aE [])],[(.int .i64 1),(.int .i64 0),(.aE [])], 
 [(.int .i64 17),(.int .i64 0),(.aE [[(.int .i64 2)],[(.int .i64 1)]])],[(.int .i64 3),(.int .i64 0),(.aE [])],[(.int .i64 3),(.int .i64 1),(.aE [])],[(.int .i64 29),(.int .i64 0),(.aE [[(.int .i64 4)], 
 [(.int .i64 5)]])],[(.int .i64 1),(.int .i64 1),(.aE [])],[(.int .i64 4),(.int .i64 0),(.aE [[(.int .i64 5)],[(.int .i64 7)]])],[(.int .i64 17),(.int .i64 0),(.aE [[(.int .i64 8)],[(.int .i64 1)]])],[(.int .i64 31), 
 (.int .i64 0),(.aE [[(.int .i64 0)],[(.int .i64 2)],[(.int .i64 9)],[(.int .i64 6)],[(.int .i64 8)]])],[(.int .i64 25),(.int .i64 0),(.aE [[(.int .i64 10)]])],[(.int .i64 22),(.int .i64 0),(.aE [[(.int .i64 3)], 
 [(.int .i64 11)],[(.int .i64 0)]])],[(.int .i64 25),(.int .i64 1),(.aE [[(.int .i64 10)]])],[(.int .i64 22),(.int .i64 0),(.aE [[(.int .i64 3)],[(.int .i64 13)],[(.int .i64 2)]])]]),(.int .i64 14),(.int .i64 12)]])]), 
 (.ay [103]),(.aE [[(.int .i64 2)]]),(.int .i64 5)]
def EO:AV:=(.agg [(.int .i64 1),(.int .i64 0),(.aE [[(.int .i64 0)],[(.int .i64 1)]]),(.int .i64 2)])
def c7(ρ:Nat->Int):bA prog ρ 22 nN EO:=ut fit (pls:=pls) (iU ρ) (n:=100000) (m:=100) (k:=100) ax ax
def YM:List (FuncId×qB×AV):=(22,nN,EO)::YL
def k8:oI prog ρ YM:=⟨c7 ρ,iU ρ⟩
def sZ:qB:=[(.agg [(.aE []),(.aE [[(.ay [102]),(.int .i64 1),(.aE [[(.int .i64 26),(.int .i64 0),(.aE [])],[(.int .i64 2),(.int .i64 0),(.aE [])],[(.int .i64 1),(.int .i64 1),(.aE [])],[(.int .i64 1),(.int .i64 0), 
 (.aE [])],[(.int .i64 16),(.int .i64 0),(.aE [[(.int .i64 1)],[(.int .i64 3)]])],[(.int .i64 27),(.int .i64 1),(.aE [[(.int .i64 0)],[(.int .i64 4)]])],[(.int .i64 7),(.int .i64 0),(.aE [[(.int .i64 2)], 
 [(.int .i64 1)]])]]),(.int .i64 6),(.int .i64 5)],[(.ay [103]),(.int .i64 1),(.aE [[(.int .i64 26),(.int .i64 0),(.aE [])],[(.int .i64 2),(.int .i64 0),(.aE [])],[(.int .i64 1),(.int .i64 0),(.aE [])], 
 [(.int .i64 17),(.int .i64 0),(.aE [[(.int .i64 2)],[(.int .i64 1)]])],[(.int .i64 3),(.int .i64 0),(.aE [])],[(.int .i64 3),(.int .i64 1),(.aE [])],[(.int .i64 29),(.int .i64 0),(.aE [[(.int .i64 4)], 
 [(.int .i64 5)]])],[(.int .i64 1),(.int .i64 1),(.aE [])],[(.int .i64 4),(.int .i64 0),(.aE [[(.int .i64 5)],[(.int .i64 7)]])],[(.int .i64 17),(.int .i64 0),(.aE [[(.int .i64 8)],[(.int .i64 1)]])],[(.int .i64 31), 
 (.int .i64 0),(.aE [[(.int .i64 0)],[(.int .i64 2)],[(.int .i64 9)],[(.int .i64 6)],[(.int .i64 8)]])],[(.int .i64 25),(.int .i64 0),(.aE [[(.int .i64 10)]])],[(.int .i64 22),(.int .i64 0),(.aE [[(.int .i64 3)], 
 [(.int .i64 11)],[(.int .i64 0)]])],[(.int .i64 25),(.int .i64 1),(.aE [[(.int .i64 10)]])],[(.int .i64 22),(.int .i64 0),(.aE [[(.int .i64 3)],[(.int .i64 13)],[(.int .i64 2)]])]]),(.int .i64 14),(.int .i64 12)]])]), 
 (.ay [103]),(.aE [[(.int .i64 9)]]),(.int .i64 1)]
def YN:AV:=(.agg [(.int .i64 3),(.int .i64 0),(.aE [[(.int .i64 0)]]),(.int .i64 0)])
def c8(ρ:Nat->Int):bA prog ρ 22 sZ YN:=ut fit (pls:=pls) (k8 ρ) (n:=100000) (m:=100) (k:=100) ax ax
def znp:List (FuncId×qB×AV):=(22,sZ,YN)::YM
def k9:oI prog ρ znp:=⟨c8 ρ,k8 ρ⟩
def ro:qB:=[]
def BL:AV:=(.bool true)
def c9(ρ:Nat->Int):bA prog ρ 24 ro BL:=ut fit (pls:=pls) (k9 ρ) (n:=100000) (m:=100) (k:=100) ax ax
def list:List (FuncId×qB×AV):=[(24,ro,BL)]
def ok:oI prog ρ list:=⟨c9 ρ,trivial⟩
end Go.Proofs.YtbflaciihaijgaaGreat.knEvEx
