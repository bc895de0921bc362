/- Lemmas for the last file. -/
import Derived.KernelRfl
import Derived.Test.YtbflaciihaijgaaGreatRES
import Derived.Test.YtbflaciihaijgaaGreatRows
set_option linter.all false
set_option maxHeartbeats 32000000
namespace Go.Proofs.YtbflaciihaijgaaGreat.knIr
set_option maxRecDepth 20000
open Go Go.Ab Proofs.Tryz
def xG:List (FuncId×qm×AV):=[]
variable(ρ:Nat->Int)
def k0:nR prog ρ xG:=trivial
def gM:qm:=[(.ae [97,114,114,97,121,32,97,32,50,59,32,102,117,110,99,32,102,40,41,32,123,32,119,104,105,108,101,32,40,49,41,32,123,32,111,117,116,32,55,59,32,125,32,114,101,116,117,114,110,32, 
 48,59,32,125,32,102,117,110,99,32,103,40,110,41,32,123,32,97,91,110,93,32,61,32,53,59,32,114,101,116,117,114,110,32,97,91,110,93,32,47,32,40,110,32,45,32,49,41,59,32,125,32,102, 
 117,110,99,32,104,40,110,41,32,123,32,110,32,61,32,103,40,110,41,59,32,111,117,116,32,110,59,32,114,101,116,117,114,110,32,110,32,43,32,49,59,32,125])]
def ee:AV:=(.aW [(.ai [[(.int .i64 1),(.ae [97,114,114,97,121]),(.int .i64 0)],[(.int .i64 1),(.ae [97]),(.int .i64 6)],[(.int .i64 2),(.ae [50]),(.int .i64 8)],[(.int .i64 3),(.ae [59]),(.int .i64 9)],[(.int .i64 1), 
 (.ae [102,117,110,99]),(.int .i64 11)],[(.int .i64 1),(.ae [102]),(.int .i64 16)],[(.int .i64 3),(.ae [40]),(.int .i64 17)],[(.int .i64 3),(.ae [41]),(.int .i64 18)],[(.int .i64 3),(.ae [123]),(.int .i64 20)], 
 [(.int .i64 1),(.ae [119,104,105,108,101]),(.int .i64 22)],[(.int .i64 3),(.ae [40]),(.int .i64 28)],[(.int .i64 2),(.ae [49]),(.int .i64 29)],[(.int .i64 3),(.ae [41]),(.int .i64 30)],[(.int .i64 3), 
 (.ae [123]),(.int .i64 32)],[(.int .i64 1),(.ae [111,117,116]),(.int .i64 34)],[(.int .i64 2),(.ae [55]),(.int .i64 38)],[(.int .i64 3),(.ae [59]),(.int .i64 39)],[(.int .i64 3),(.ae [125]),(.int .i64 41)], 
 [(.int .i64 1),(.ae [114,101,116,117,114,110]),(.int .i64 43)],[(.int .i64 2),(.ae [48]),(.int .i64 50)],[(.int .i64 3),(.ae [59]),(.int .i64 51)],[(.int .i64 3),(.ae [125]),(.int .i64 53)],[(.int .i64 1), 
 (.ae [102,117,110,99]),(.int .i64 55)],[(.int .i64 1),(.ae [103]),(.int .i64 60)],[(.int .i64 3),(.ae [40]),(.int .i64 61)],[(.int .i64 1),(.ae [110]),(.int .i64 62)],[(.int .i64 3),(.ae [41]),(.int .i64 63)], 
 [(.int .i64 3),(.ae [123]),(.int .i64 65)],[(.int .i64 1),(.ae [97]),(.int .i64 67)],[(.int .i64 3),(.ae [91]),(.int .i64 68)],[(.int .i64 1),(.ae [110]),(.int .i64 69)],[(.int .i64 3),(.ae [93]),(.int .i64 70)], 
 [(.int .i64 3),(.ae [61]),(.int .i64 72)],[(.int .i64 2),(.ae [53]),(.int .i64 74)],[(.int .i64 3),(.ae [59]),(.int .i64 75)],[(.int .i64 1),(.ae [114,101,116,117,114,110]),(.int .i64 77)],[(.int .i64 1), 
 (.ae [97]),(.int .i64 84)],[(.int .i64 3),(.ae [91]),(.int .i64 85)],[(.int .i64 1),(.ae [110]),(.int .i64 86)],[(.int .i64 3),(.ae [93]),(.int .i64 87)],[(.int .i64 3),(.ae [47]),(.int .i64 89)],[(.int .i64 3), 
 (.ae [40]),(.int .i64 91)],[(.int .i64 1),(.ae [110]),(.int .i64 92)],[(.int .i64 3),(.ae [45]),(.int .i64 94)],[(.int .i64 2),(.ae [49]),(.int .i64 96)],[(.int .i64 3),(.ae [41]),(.int .i64 97)],[(.int .i64 3), 
 (.ae [59]),(.int .i64 98)],[(.int .i64 3),(.ae [125]),(.int .i64 100)],[(.int .i64 1),(.ae [102,117,110,99]),(.int .i64 102)],[(.int .i64 1),(.ae [104]),(.int .i64 107)],[(.int .i64 3),(.ae [40]), 
 (.int .i64 108)],[(.int .i64 1),(.ae [110]),(.int .i64 109)],[(.int .i64 3),(.ae [41]),(.int .i64 110)],[(.int .i64 3),(.ae [123]),(.int .i64 112)],[(.int .i64 1),(.ae [110]),(.int .i64 114)],[(.int .i64 3), 
 (.ae [61]),(.int .i64 116)],[(.int .i64 1),(.ae [103]),(.int .i64 118)],[(.int .i64 3),(.ae [40]),(.int .i64 119)],[(.int .i64 1),(.ae [110]),(.int .i64 120)],[(.int .i64 3),(.ae [41]),(.int .i64 121)], 
 [(.int .i64 3),(.ae [59]),(.int .i64 122)],[(.int .i64 1),(.ae [111,117,116]),(.int .i64 124)],[(.int .i64 1),(.ae [110]),(.int .i64 128)],[(.int .i64 3),(.ae [59]),(.int .i64 129)],[(.int .i64 1),(.ae [114, 
 101,116,117,114,110]),(.int .i64 131)],[(.int .i64 1),(.ae [110]),(.int .i64 138)],[(.int .i64 3),(.ae [43]),(.int .i64 140)],[(.int .i64 2),(.ae [49]),(.int .i64 142)],[(.int .i64 3),(.ae [59]), 
 (.int .i64 143)],[(.int .i64 3),(.ae [125]),(.int .i64 145)]]),(.agg [(.int .i64 0),(.int .i64 0)])])
def c0(ρ:Nat->Int):bJ prog ρ 60 gM ee:=tj fit (pls:=pls) (k0 ρ) (n:=100000) (m:=100) (k:=100) aA aA
def l1:List (FuncId×qm×AV):=(60,gM,ee)::xG
def k1:nR prog ρ l1:=⟨c0 ρ,k0 ρ⟩
def b7:qm:=[(.ae [97,114,114,97,121,32,97,32,50,59,32,102,117,110,99,32,102,40,41,32,123,32,119,104,105,108,101,32,40,49,41,32,123,32,111,117,116,32,55,59,32,125,32,114,101,116,117,114,110,32, 
 48,59,32,125,32,102,117,110,99,32,103,40,110,41,32,123,32,97,91,110,93,32,61,32,53,59,32,114,101,116,117,114,110,32,97,91,110,93,32,47,32,40,110,32,45,32,49,41,59,32,125,32,102, 
 117,110,99,32,104,40,110,41,32,123,32,110,32,61,32,103,40,110,41,59,32,111,117,116,32,110,59,32,114,101,116,117,114,110,32,110,32,43,32,49,59,32,125])]
def aw:AV:=(.aW [(.agg [(.ai [[(.ae [97]),(.int .i64 2)]]),(.ai [[(.ae [102]),.ab,.ab,(.ai [[(.int .i64 4),(.ae []),(.ae []),(.int .i64 0),(.int .i64 0),(.int .i64 0),(.ae []),(.int .i64 0),.ab,(.int .i64 1), 
 (.int .i64 1),(.ae []),(.int .i64 0),.ab,.ab,(.ai [[(.int .i64 5),(.ae []),(.ae []),(.int .i64 0),(.int .i64 0),(.int .i64 0),(.ae []),(.int .i64 0),.ab,(.int .i64 1),(.int .i64 7),(.ae []), 
 (.int .i64 0),.ab,.ab,.ab,.ab]]),.ab]]),(.int .i64 1),(.int .i64 0),(.ae []),(.int .i64 0),.ab],[(.ae [103]),(.ai [[(.ae [110])]]),.ab,(.ai [[(.int .i64 2),(.ae [97]),(.ae []),(.int .i64 0), 
 (.int .i64 2),(.int .i64 0),(.ae [110]),(.int .i64 0),.ab,(.int .i64 1),(.int .i64 5),(.ae []),(.int .i64 0),.ab,.ab,.ab,.ab]]),(.int .i64 4),(.int .i64 0),(.ae []),(.int .i64 7),(.ai [[(.int .i64 3), 
 (.int .i64 0),(.ae [97]),(.int .i64 0),(.ai [[(.int .i64 2),(.int .i64 0),(.ae [110]),(.int .i64 0),.ab]])],[(.int .i64 4),(.int .i64 0),(.ae []),(.int .i64 5),(.ai [[(.int .i64 2),(.int .i64 0),(.ae [110]), 
 (.int .i64 0),.ab],[(.int .i64 1),(.int .i64 1),(.ae []),(.int .i64 0),.ab]])]])],[(.ae [104]),(.ai [[(.ae [110])]]),.ab,(.ai [[(.int .i64 6),(.ae [110]),(.ae [103]),(.int .i64 0),(.int .i64 0), 
 (.int .i64 0),(.ae []),(.int .i64 0),.ab,(.int .i64 0),(.int .i64 0),(.ae []),(.int .i64 0),.ab,(.ai [[(.int .i64 2),(.int .i64 0),(.ae [110]),(.int .i64 0),.ab]]),.ab,.ab],[(.int .i64 5),(.ae []), 
 (.ae []),(.int .i64 0),(.int .i64 0),(.int .i64 0),(.ae []),(.int .i64 0),.ab,(.int .i64 2),(.int .i64 0),(.ae [110]),(.int .i64 0),.ab,.ab,.ab,.ab]]),(.int .i64 4),(.int .i64 0),(.ae []), 
 (.int .i64 4),(.ai [[(.int .i64 2),(.int .i64 0),(.ae [110]),(.int .i64 0),.ab],[(.int .i64 1),(.int .i64 1),(.ae []),(.int .i64 0),.ab]])]])]),(.agg [(.int .i64 0),(.int .i64 0)])])
def c1(ρ:Nat->Int):bJ prog ρ 35 b7 aw:=tj fit (pls:=pls) (k1 ρ) (n:=100000) (m:=100) (k:=100) aA aA
def l2:List (FuncId×qm×AV):=(35,b7,aw)::l1
def k2:nR prog ρ l2:=⟨c1 ρ,k1 ρ⟩
def ci:qm:=[(.agg [(.ai [[(.ae [97]),(.int .i64 2)]]),(.ai [[(.ae [102]),.ab,.ab,(.ai [[(.int .i64 4),(.ae []),(.ae []),(.int .i64 0),(.int .i64 0),(.int .i64 0),(.ae []),(.int .i64 0),.ab,(.int .i64 1), 
 (.int .i64 1),(.ae []),(.int .i64 0),.ab,.ab,(.ai [[(.int .i64 5),(.ae []),(.ae []),(.int .i64 0),(.int .i64 0),(.int .i64 0),(.ae []),(.int .i64 0),.ab,(.int .i64 1),(.int .i64 7),(.ae []), 
 (.int .i64 0),.ab,.ab,.ab,.ab]]),.ab]]),(.int .i64 1),(.int .i64 0),(.ae []),(.int .i64 0),.ab],[(.ae [103]),(.ai [[(.ae [110])]]),.ab,(.ai [[(.int .i64 2),(.ae [97]),(.ae []),(.int .i64 0), 
 (.int .i64 2),(.int .i64 0),(.ae [110]),(.int .i64 0),.ab,(.int .i64 1),(.int .i64 5),(.ae []),(.int .i64 0),.ab,.ab,.ab,.ab]]),(.int .i64 4),(.int .i64 0),(.ae []),(.int .i64 7),(.ai [[(.int .i64 3), 
 (.int .i64 0),(.ae [97]),(.int .i64 0),(.ai [[(.int .i64 2),(.int .i64 0),(.ae [110]),(.int .i64 0),.ab]])],[(.int .i64 4),(.int .i64 0),(.ae []),(.int .i64 5),(.ai [[(.int .i64 2),(.int .i64 0),(.ae [110]), 
 (.int .i64 0),.ab],[(.int .i64 1),(.int .i64 1),(.ae []),(.int .i64 0),.ab]])]])],[(.ae [104]),(.ai [[(.ae [110])]]),.ab,(.ai [[(.int .i64 6),(.ae [110]),(.ae [103]),(.int .i64 0),(.int .i64 0), 
 (.int .i64 0),(.ae []),(.int .i64 0),.ab,(.int .i64 0),(.int .i64 0),(.ae []),(.int .i64 0),.ab,(.ai [[(.int .i64 2),(.int .i64 0),(.ae [110]),(.int .i64 0),.ab]]),.ab,.ab],[(.int .i64 5),(.ae []), 
 (.ae []),(.int .i64 0),(.int .i64 0),(.int .i64 0),(.ae []),(.int .i64 0),.ab,(.int .i64 2),(.int .i64 0),(.ae [110]),(.int .i64 0),.ab,.ab,.ab,.ab]]),(.int .i64 4),(.int .i64 0),(.ae []), 
 (.int .i64 4),(.ai [[(.int .i64 2),(.int .i64 0),(.ae [110]),(.int .i64 0),.ab],[(.int .i64 1),(.int .i64 1),(.ae []),(.int .i64 0),.ab]])]])])]
def a1:AV:=(.int .i64 0)
def c2(ρ:Nat->Int):bJ prog ρ 38 ci a1:=tj fit (pls:=pls) (k2 ρ) (n:=100000) (m:=100) (k:=100) aA aA
def xH:List (FuncId×qm×AV):=(38,ci,a1)::l2
def lT:nR prog ρ xH:=⟨c2 ρ,k2 ρ⟩
def bX:qm:=[(.agg [(.ai [[(.ae [97]),(.int .i64 2)]]),(.ai [[(.ae [102]),.ab,.ab,(.ai [[(.int .i64 4),(.ae []),(.ae []),(.int .i64 0),(.int .i64 0),(.int .i64 0),(.ae []),(.int .i64 0),.ab,(.int .i64 1), 
 (.int .i64 1),(.ae []),(.int .i64 0),.ab,.ab,(.ai [[(.int .i64 5),(.ae []),(.ae []),(.int .i64 0),(.int .i64 0),(.int .i64 0),(.ae []),(.int .i64 0),.ab,(.int .i64 1),(.int .i64 7),(.ae []), 
 (.int .i64 0),.ab,.ab,.ab,.ab]]),.ab]]),(.int .i64 1),(.int .i64 0),(.ae []),(.int .i64 0),.ab],[(.ae [103]),(.ai [[(.ae [110])]]),.ab,(.ai [[(.int .i64 2),(.ae [97]),(.ae []),(.int .i64 0), 
 (.int .i64 2),(.int .i64 0),(.ae [110]),(.int .i64 0),.ab,(.int .i64 1),(.int .i64 5),(.ae []),(.int .i64 0),.ab,.ab,.ab,.ab]]),(.int .i64 4),(.int .i64 0),(.ae []),(.int .i64 7),(.ai [[(.int .i64 3), 
 (.int .i64 0),(.ae [97]),(.int .i64 0),(.ai [[(.int .i64 2),(.int .i64 0),(.ae [110]),(.int .i64 0),.ab]])],[(.int .i64 4),(.int .i64 0),(.ae []),(.int .i64 5),(.ai [[(.int .i64 2),(.int .i64 0),(.ae [110]), 
 (.int .i64 0),.ab],[(.int .i64 1),(.int .i64 1),(.ae []),(.int .i64 0),.ab]])]])],[(.ae [104]),(.ai [[(.ae [110])]]),.ab,(.ai [[(.int .i64 6),(.ae [110]),(.ae [103]),(.int .i64 0),(.int .i64 0), 
 (.int .i64 0),(.ae []),(.int .i64 0),.ab,(.int .i64 0),(.int .i64 0),(.ae []),(.int .i64 0),.ab,(.ai [[(.int .i64 2),(.int .i64 0),(.ae [110]),(.int .i64 0),.ab]]),.ab,.ab],[(.int .i64 5),(.ae []), 
 (.ae []),(.int .i64 0),(.int .i64 0),(.int .i64 0),(.ae []),(.int .i64 0),.ab,(.int .i64 2),(.int .i64 0),(.ae [110]),(.int .i64 0),.ab,.ab,.ab,.ab]]),(.int .i64 4),(.int .i64 0),(.ae []), 
 (.int .i64 4),(.ai [[(.int .i64 2),(.int .i64 0),(.ae [110]),(.int .i64 0),.ab],[(.int .i64 1),(.int .i64 1),(.ae []),(.int .i64 0),.ab]])]])]),(.ae [102]),.ab,(.int .i64 2)]
def im:AV:=(.agg [(.int .i64 3),(.int .i64 0),(.ai [[(.int .i64 7)],[(.int .i64 7)]]),(.int .i64 0)])
def c3(ρ:Nat->Int):bJ prog ρ 23 bX im:=tj fit (pls:=pls) (lT ρ) (n:=100000) (m:=100) (k:=100) aA aA
def xI:List (FuncId×qm×AV):=(23,bX,im)::xH
def kK:nR prog ρ xI:=⟨c3 ρ,lT ρ⟩
def bQ:qm:=[(.agg [(.ai [[(.ae [97]),(.int .i64 2)]]),(.ai [[(.ae [102]),.ab,.ab,(.ai [[(.int .i64 4),(.ae []),(.ae []),(.int .i64 0),(.int .i64 0),(.int .i64 0),(.ae []),(.int .i64 0),.ab,(.int .i64 1), 
 (.int .i64 1),(.ae []),(.int .i64 0),.ab,.ab,(.ai [[(.int .i64 5),(.ae []),(.ae []),(.int .i64 0),(.int .i64 0),(.int .i64 0),(.ae []),(.int .i64 0),.ab,(.int .i64 1),(.int .i64 7),(.ae []), 
 (.int .i64 0),.ab,.ab,.ab,.ab]]),.ab]]),(.int .i64 1),(.int .i64 0),(.ae []),(.int .i64 0),.ab],[(.ae [103]),(.ai [[(.ae [110])]]),.ab,(.ai [[(.int .i64 2),(.ae [97]),(.ae []),(.int .i64 0), 
 (.int .i64 2),(.int .i64 0),(.ae [110]),(.int .i64 0),.ab,(.int .i64 1),(.int .i64 5),(.ae []),(.int .i64 0),.ab,.ab,.ab,.ab]]),(.int .i64 4),(.int .i64 0),(.ae []),(.int .i64 7),(.ai [[(.int .i64 3), 
 (.int .i64 0),(.ae [97]),(.int .i64 0),(.ai [[(.int .i64 2),(.int .i64 0),(.ae [110]),(.int .i64 0),.ab]])],[(.int .i64 4),(.int .i64 0),(.ae []),(.int .i64 5),(.ai [[(.int .i64 2),(.int .i64 0),(.ae [110]), 
 (.int .i64 0),.ab],[(.int .i64 1),(.int .i64 1),(.ae []),(.int .i64 0),.ab]])]])],[(.ae [104]),(.ai [[(.ae [110])]]),.ab,(.ai [[(.int .i64 6),(.ae [110]),(.ae [103]),(.int .i64 0),(.int .i64 0), 
 (.int .i64 0),(.ae []),(.int .i64 0),.ab,(.int .i64 0),(.int .i64 0),(.ae []),(.int .i64 0),.ab,(.ai [[(.int .i64 2),(.int .i64 0),(.ae [110]),(.int .i64 0),.ab]]),.ab,.ab],[(.int .i64 5),(.ae []), 
 (.ae []),(.int .i64 0),(.int .i64 0),(.int .i64 0),(.ae []),(.int .i64 0),.ab,(.int .i64 2),(.int .i64 0),(.ae [110]),(.int .i64 0),.ab,.ab,.ab,.ab]]),(.int .i64 4),(.int .i64 0),(.ae []), 
 (.int .i64 4),(.ai [[(.int .i64 2),(.int .i64 0),(.ae [110]),(.int .i64 0),.ab],[(.int .i64 1),(.int .i64 1),(.ae []),(.int .i64 0),.ab]])]])]),(.ae [103]),(.ai [[(.int .i64 1)]]),(.int .i64 0)]
def pD:AV:=(.agg [(.int .i64 2),(.int .i64 1),.ab,(.int .i64 0)])
def c4(ρ:Nat->Int):bJ prog ρ 23 bQ pD:=tj fit (pls:=pls) (kK ρ) (n:=100000) (m:=100) (k:=100) aA aA
def l5:List (FuncId×qm×AV):=(23,bQ,pD)::xI
def sM:nR prog ρ l5:=⟨c4 ρ,kK ρ⟩
def dt:qm:=[(.agg [(.ai [[(.ae [97]),(.int .i64 2)]]),(.ai [[(.ae [102]),.ab,.ab,(.ai [[(.int .i64 4),(.ae []),(.ae []),(.int .i64 0),(.int .i64 0),(.int .i64 0),(.ae []),(.int .i64 0),.ab,(.int .i64 1), 
 (.int .i64 1),(.ae []),(.int .i64 0),.ab,.ab,(.ai [[(.int .i64 5),(.ae []),(.ae []),(.int .i64 0),(.int .i64 0),(.int .i64 0),(.ae []),(.int .i64 0),.ab,(.int .i64 1),(.int .i64 7),(.ae []), 
 (.int .i64 0),.ab,.ab,.ab,.ab]]),.ab]]),(.int .i64 1),(.int .i64 0),(.ae []),(.int .i64 0),.ab],[(.ae [103]),(.ai [[(.ae [110])]]),.ab,(.ai [[(.int .i64 2),(.ae [97]),(.ae []),(.int .i64 0), 
 (.int .i64 2),(.int .i64 0),(.ae [110]),(.int .i64 0),.ab,(.int .i64 1),(.int .i64 5),(.ae []),(.int .i64 0),.ab,.ab,.ab,.ab]]),(.int .i64 4),(.int .i64 0),(.ae []),(.int .i64 7),(.ai [[(.int .i64 3), 
 (.int .i64 0),(.ae [97]),(.int .i64 0),(.ai [[(.int .i64 2),(.int .i64 0),(.ae [110]),(.int .i64 0),.ab]])],[(.int .i64 4),(.int .i64 0),(.ae []),(.int .i64 5),(.ai [[(.int .i64 2),(.int .i64 0),(.ae [110]), 
 (.int .i64 0),.ab],[(.int .i64 1),(.int .i64 1),(.ae []),(.int .i64 0),.ab]])]])],[(.ae [104]),(.ai [[(.ae [110])]]),.ab,(.ai [[(.int .i64 6),(.ae [110]),(.ae [103]),(.int .i64 0),(.int .i64 0), 
 (.int .i64 0),(.ae []),(.int .i64 0),.ab,(.int .i64 0),(.int .i64 0),(.ae []),(.int .i64 0),.ab,(.ai [[(.int .i64 2),(.int .i64 0),(.ae [110]),(.int .i64 0),.ab]]),.ab,.ab],[(.int .i64 5),(.ae []), 
 (.ae []),(.int .i64 0),(.int .i64 0),(.int .i64 0),(.ae []),(.int .i64 0),.ab,(.int .i64 2),(.int .i64 0),(.ae [110]),(.int .i64 0),.ab,.ab,.ab,.ab]]),(.int .i64 4),(.int .i64 0),(.ae []), 
 (.int .i64 4),(.ai [[(.int .i64 2),(.int .i64 0),(.ae [110]),(.int .i64 0),.ab],[(.int .i64 1),(.int .i64 1),(.ae []),(.int .i64 0),.ab]])]])]),(.ae [103]),(.ai [[(.int .i64 2)]]),(.int .i64 0)]
def r5:AV:=(.agg [(.int .i64 2),(.int .i64 2),.ab,(.int .i64 0)])
def c5(ρ:Nat->Int):bJ prog ρ 23 dt r5:=tj fit (pls:=pls) (sM ρ) (n:=100000) (m:=100) (k:=100) aA aA
def l6:List (FuncId×qm×AV):=(23,dt,r5)::l5
def k6:nR prog ρ l6:=⟨c5 ρ,sM ρ⟩
def fD:qm:=[(.agg [(.ai [[(.ae [97]),(.int .i64 2)]]),(.ai [[(.ae [102]),.ab,.ab,(.ai [[(.int .i64 4),(.ae []),(.ae []),(.int .i64 0),(.int .i64 0),(.int .i64 0),(.ae []),(.int .i64 0),.ab,(.int .i64 1), 
 (.int .i64 1),(.ae []),(.int .i64 0),.ab,.ab,(.ai [[(.int .i64 5),(.ae []),(.ae []),(.int .i64 0),(.int .i64 0),(.int .i64 0),(.ae []),(.int .i64 0),.ab,(.int .i64 1),(.int .i64 7),(.ae []), 
 (.int .i64 0),.ab,.ab,.ab,.ab]]),.ab]]),(.int .i64 1),(.int .i64 0),(.ae []),(.int .i64 0),.ab],[(.ae [103]),(.ai [[(.ae [110])]]),.ab,(.ai [[(.int .i64 2),(.ae [97]),(.ae []),(.int .i64 0), 
 (.int .i64 2),(.int .i64 0),(.ae [110]),(.int .i64 0),.ab,(.int .i64 1),(.int .i64 5),(.ae []),(.int .i64 0),.ab,.ab,.ab,.ab]]),(.int .i64 4),(.int .i64 0),(.ae []),(.int .i64 7),(.ai [[(.int .i64 3), 
 (.int .i64 0),(.ae [97]),(.int .i64 0),(.ai [[(.int .i64 2),(.int .i64 0),(.ae [110]),(.int .i64 0),.ab]])],[(.int .i64 4),(.int .i64 0),(.ae []),(.int .i64 5),(.ai [[(.int .i64 2),(.int .i64 0),(.ae [110]), 
 (.int .i64 0),.ab],[(.int .i64 1),(.int .i64 1),(.ae []),(.int .i64 0),.ab]])]])],[(.ae [104]),(.ai [[(.ae [110])]]),.ab,(.ai [[(.int .i64 6),(.ae [110]),(.ae [103]),(.int .i64 0),(.int .i64 0), 
 (.int .i64 0),(.ae []),(.int .i64 0),.ab,(.int .i64 0),(.int .i64 0),(.ae []),(.int .i64 0),.ab,(.ai [[(.int .i64 2),(.int .i64 0),(.ae [110]),(.int .i64 0),.ab]]),.ab,.ab],[(.int .i64 5),(.ae []), 
 (.ae []),(.int .i64 0),(.int .i64 0),(.int .i64 0),(.ae []),(.int .i64 0),.ab,(.int .i64 2),(.int .i64 0),(.ae [110]),(.int .i64 0),.ab,.ab,.ab,.ab]]),(.int .i64 4),(.int .i64 0),(.ae []), 
 (.int .i64 4),(.ai [[(.int .i64 2),(.int .i64 0),(.ae [110]),(.int .i64 0),.ab],[(.int .i64 1),(.int .i64 1),(.ae []),(.int .i64 0),.ab]])]])]),(.ae [104]),(.ai [[(.int .i64 0)]]),(.int .i64 1)]
def r6:AV:=(.agg [(.int .i64 1),(.int .i64 0),(.ai [[(.int .i64 (-5))]]),(.int .i64 (-4))])
def c6(ρ:Nat->Int):bJ prog ρ 23 fD r6:=tj fit (pls:=pls) (k6 ρ) (n:=100000) (m:=100) (k:=100) aA aA
def zcR:List (FuncId×qm×AV):=(23,fD,r6)::l6
def k7:nR prog ρ zcR:=⟨c6 ρ,k6 ρ⟩
def hY:qm:=[]
def zU:AV:=(.bool true)
def c7(ρ:Nat->Int):bJ prog ρ 14 hY zU:=tj fit (pls:=pls) (k7 ρ) (n:=100000) (m:=100) (k:=100) aA aA
def list:List (FuncId×qm×AV):=[(14,hY,zU)]
def ok:nR prog ρ list:=⟨c7 ρ,trivial⟩
end Go.Proofs.YtbflaciihaijgaaGreat.knIr
