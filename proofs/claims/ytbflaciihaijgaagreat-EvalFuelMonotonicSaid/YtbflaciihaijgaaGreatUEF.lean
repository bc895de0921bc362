/- Lemmas for the last file. -/
import Derived.KernelRfl
import Derived.Test.YtbflaciihaijgaaGreatRows
import Derived.Test.YtbflaciihaijgaaGreatUEE
set_option linter.all false
set_option maxHeartbeats 32000000
namespace Go.Ab
set_option maxRecDepth 20000
open Go
variable{qn:Prop}
def yX(h:qn:=by cases k<;>kernel_rfl):=h
def GS(h:qn:=by first|(dsimp only[oJ,uu];first|done|exact rfl)|(dsimp only[];first|done|exact rfl)|exact rfl):=h
def vV(h:qn:=by first|(dsimp only[a0];first|done|exact rfl)|exact rfl):=h
def eS(h:qn:=by ((first|simp only[aK,Nat.reduceBEq,ne_eq,not_false_eq_true, *,-hK]|simp only[aK,Nat.reduceBEq,ne_eq,not_false_eq_true, *]|skip);first|done|with_reducible rfl)):=h
def lE(h:qn:=by ((first|simp only[aK,bb,tyF,Nat.reduceBEq,Nat.reduceAdd,Nat.reduceLeDiff,ne_eq,not_false_eq_true, *,-hK]|simp only[aK,bb,tyF,Nat.reduceBEq,Nat.reduceAdd,Nat.reduceLeDiff,ne_eq,not_false_eq_true, *]|skip);first|done|with_reducible rfl)):=h
def AA(h:qn:=by ((try simp only[aS,bK,cL,Nat.add_assoc,Nat.reduceAdd,Nat.zero_add]);with_reducible rfl)):=h
def QT(h:qn:=by ((first|simp only[aK,Nat.reduceBEq,mV,ne_eq,not_false_eq_true, *,-hK]|simp only[aK,Nat.reduceBEq,mV,ne_eq,not_false_eq_true, *]|skip);first|done|with_reducible rfl)):=h
def QU(h:qn:=by ((first|simp only[aK,Nat.reduceBEq,jE,List.cons_append,List.nil_append,ne_eq,not_false_eq_true, *,-hK]|simp only[aK,Nat.reduceBEq,jE,List.cons_append,List.nil_append,ne_eq,not_false_eq_true, *]|skip);first|done|with_reducible rfl)):=h
def QV(h:qn:=by ((first|simp only[aK,Nat.reduceBEq,mB,ne_eq,not_false_eq_true, *,-hK]|simp only[aK,Nat.reduceBEq,mB,ne_eq,not_false_eq_true, *]|skip);first|done|with_reducible rfl)):=h
def eT(h:qn:=by ((first|simp only[aK,Nat.reduceBEq,ne_eq,not_false_eq_true,decide_true,decide_false,Int.reduceEq,Int.reduceLE,Int.reduceToNat,Nat.mul_one, *,-hK]|simp only[aK,Nat.reduceBEq,ne_eq,not_false_eq_true,decide_true,decide_false,Int.reduceEq,Int.reduceLE,Int.reduceToNat,Nat.mul_one, *]|skip);first|done|with_reducible rfl)):=h
def lF(h:qn:=by ((first|simp only[aK,bb,tyF,Nat.reduceBEq,Nat.reduceAdd,Nat.reduceLeDiff,ne_eq,not_false_eq_true,decide_true,decide_false,Int.reduceEq,Int.reduceLE,Int.reduceToNat,Nat.mul_one, *,-hK]|simp only[aK,bb,tyF,Nat.reduceBEq,Nat.reduceAdd,Nat.reduceLeDiff,ne_eq,not_false_eq_true,decide_true,decide_false,Int.reduceEq,Int.reduceLE,Int.reduceToNat,Nat.mul_one, *]|skip);first|done|with_reducible rfl)):=h
def QW(h:qn:=by ((first|simp only[aK,Nat.reduceBEq,mV,ne_eq,not_false_eq_true,decide_true,decide_false,Int.reduceEq,Int.reduceLE,Int.reduceToNat,Nat.mul_one, *,-hK]|simp only[aK,Nat.reduceBEq,mV,ne_eq,not_false_eq_true,decide_true,decide_false,Int.reduceEq,Int.reduceLE,Int.reduceToNat,Nat.mul_one, *]|skip);first|done|with_reducible rfl)):=h
def QX(h:qn:=by ((first|simp only[aK,Nat.reduceBEq,jE,List.cons_append,List.nil_append,ne_eq,not_false_eq_true,decide_true,decide_false,Int.reduceEq,Int.reduceLE,Int.reduceToNat,Nat.mul_one, *,-hK]|simp only[aK,Nat.reduceBEq,jE,List.cons_append,List.nil_append,ne_eq,not_false_eq_true,decide_true,decide_false,Int.reduceEq,Int.reduceLE,Int.reduceToNat,Nat.mul_one, *]|skip);first|done|with_reducible rfl)):=h
def QY(h:qn:=by ((first|simp only[aK,Nat.reduceBEq,mB,ne_eq,not_false_eq_true,decide_true,decide_false,Int.reduceEq,Int.reduceLE,Int.reduceToNat,Nat.mul_one, *,-hK]|simp only[aK,Nat.reduceBEq,mB,ne_eq,not_false_eq_true,decide_true,decide_false,Int.reduceEq,Int.reduceLE,Int.reduceToNat,Nat.mul_one, *]|skip);first|done|with_reducible rfl)):=h
def Lo(h:qn:=by first|(simp only[aK,Nat.reduceBEq, *];done)|rfl):=h
def Lp(h:qn:=by first|rfl|exact hplan _|(rw[hS.cD];rfl)):=h
def QZ(h:qn:=by simp only[j5,wS,List.filterMap_cons,List.filterMap_nil,List.getElem?_cons_succ,List.getElem?_cons_zero,bw,bI,bJ,Nat.blt,Nat.ble];rfl):=h
def Q0(h:qn:=by show dU l g (enc x)=_;rw[L];exact LO j I):=h
def yY(h:qn:=by simpa using e):=h
def ad:=@And.intro
def mJ:=@Bool.not_false
def aV:=@and_true
def sG:=@List.getElem?_cons_succ
def xo:=@List.getElem?_cons_zero
def oP:=@decide_eq_false_iff_not
def kI:=@List.append_assoc
def Lq:=@List.getElem?_nil
def Lr:=And.intro @yN.{0} @tg.{0}
def ii:=And.intro Lr @bq.{0}
end Go.Ab
namespace Go.Proofs.YtbflaciihaijgaaGreat
set_option maxRecDepth 20000
open Go Go.Ab Proofs.Tryz
variable{t:Nat}
def aK:=ad @zbQ (ad @List.toList_toArray.{0} (ad @cL (ad @vG (ad @pE (ad @uz (ad @mJ (ad @List.length_map.{0,0} (ad @Int.natCast_zero (ad @zaP (ad @zaQ (ad @zaR (ad @zaS (ad @zaT (ad @KR (ad @cond_true.{1} (ad @cond_false.{1} (@bR)))))))))))))))))
def bb:=ad @Ex.bY (ad @Ex.c0 (ad @Ex.c1 (ad @Ex.c2 (ad @Ex.c3 (ad @Ex.c4 (ad @Ex.bB (ad @Ex.one (ad @St.bY (ad @St.c0 (ad @St.c1 (ad @St.c2 (ad @St.c3 (ad @St.c4 (ad @St.c5 (ad @St.c6 (ad @St.c7 (ad @St.c8 (ad @St.c9 (ad @St.c10 (ad @St.c11 (ad @St.c12 (ad @St.c13 (ad @St.c14 (ad @St.c15 (ad @St.c16 (ad @St.bB (ad @St.one (ad @zbF (ad @St.cb (ad @Fu.bY (ad @Fu.c0 (ad @Fu.c1 (ad @Fu.c2 (ad @Fu.c3 (ad @Fu.c4 (ad @Fu.c5 (ad @Fu.c6 (ad @Fu.c7 (ad @Fu.c8 (ad @Fu.bB (ad @Fu.one (ad @Fu.cb (ad @Ar.bY (ad @Ar.c0 (ad @Ar.c1 (ad @Ar.bB (ad @Ar.one (ad @Pr.bY (ad @Pr.c0 (ad @Pr.c1 (ad @Pr.bB (ad @Pr.one (ad @Tk.bY (ad @Tk.c0 (ad @Tk.c1 (ad @Tk.c2 (ad @Tk.bB (ad @Tk.one (ad @Nd.bY (ad @Nd.c0 (ad @Nd.c1 (ad @Nd.c2 (ad @Nd.bB (ad @Nd.one (ad @Gr.bY (ad @Gr.c0 (ad @Gr.c1 (ad @Gr.c2 (ad @Gr.c3 (ad @Gr.c4 (ad @Gr.bB (ad @Gr.one (ad @Un.bY (ad @Un.c0 (ad @Un.c1 (ad @Un.bB (ad @Un.one (ad @zby (ad @zbz (ad @zbA (ad @zbB (ad @List.getElem?_drop.{0} (ad @wY (ad @if_true.{1} (ad @yJ (ad @CK (ad @Qf (ad @zbi (ad @cells_int (ad @Qg (ad @zbj (ad @zbk (ad @zbl (ad @zbm (ad @zbn (ad @zbo (ad @zbp (ad @Qh (ad @zbq (ad @zbr (ad @zbs (ad @zbt (ad @zbu (ad @zbv (ad @zbw (ad @zbx (ad @List.all_cons.{0} (ad @List.all_nil.{0} (ad @fV (ad @gW (ad @aV (ad @j6 (ad @eR (ad @aG (ad @List.nil_append.{0} (ad @List.append_nil.{0} (ad @List.cons_append.{0} (ad @aS (ad @bK (ad @cL (ad @beq_self_eq_true.{0} (ad @zbC (ad @zbD (ad @zbE (ad @lS (ad @List.getElem?_map.{0,0} (ad @Option.map_some.{0,0} (ad @nr (ad @zbg (ad @zbf (ad @zbb (ad @zbc (ad @get_set (ad @zbh (ad @List.getElem?_cons_succ.{0} (ad @List.getElem?_cons_zero.{0} (ad @List.drop_succ_cons.{0} (ad @List.drop_zero.{0} (ad @List.take_succ_cons.{0} (ad @List.take_zero.{0} (ad @List.length_cons.{0} (ad @List.length_nil.{0} (ad @Cg (ad @eM (ad @zaU (ad @zaV (ad @zaW (ad @zaX (ad @zaY (ad @zaZ (ad @za0 (ad @za1 (ad @za2 (ad @za3 (ad @za4 (ad @za5 (ad @za6 (ad @za7 (ad @za8 (@za9))))))))))))))))))))))))))))))))))))))))))))))))))))))))))))))))))))))))))))))))))))))))))))))))))))))))))))))))))))))))))))))))))))))))))))))))))))))))))))))))
structure zd0 (cfg:Cfg) (f:FuncId):Prop where
 call:∀args,cfg.call f args=none
 bU:cfg.bU f=false
 cm:cfg.cm f=false
abbrev b7(t i k u:Nat):Prop:=(∀r o:Nat,wL prog t (.ptr r o) i=some (.ptr r (o+k)))/\(∀O:qB,wL prog t (.bP O) i=some (.bP (O.drop k)))/\∀O:qB,yk prog t (.agg O) i=cF prog u O k
def ca{i k u:Nat}(h:b7 t i k u:=by exact⟨fun _ _=>ax,fun _=>ax,fun _=>ax⟩):b7 t i k u:=h
abbrev nD(t s:Nat):Prop:=∀(r o l z:Nat) {n:Int} (_:0<=n) (k:IntKind),dK prog t (.sl r o l z) (.int k n)=bif decide (n.toNat<l)then some (.ptr r (o+n.toNat*s))else none
abbrev mK(t s:Nat):Prop:=(∀(Z:List qB) {n:Int} (_:0<=n) (k:IntKind),dK prog t (.aE Z) (.int k n)=Gw s (Z[n.toNat]?))/\(∀(H:Hp) (Z:List qB),jP prog H t (.aE Z)=some (.int .i64 Z.length))/\(∀(H:Hp) (r o n z:Nat),jP prog H t (.sl r o n z)=some (.int .i64 n))/\∀H:Hp,jP prog H t .ao=some (.int .i64 0)
def nE{e s:Nat}(h:prog.underlying t=some (.slice e))(V:bp prog e=some s):mK t s:=⟨fun Z _ J k=>zbd h V Z J k,fun _ Z=>Qd h Z,fun _ r o n z=>CI h r o n z,fun _=>Gv h⟩
def AB:bp prog 2=some 1:=ax
def GT:cT prog 2=some 8:=ax
def zcg(cs:qB)(o:Nat):cF prog 2 cs o=cs[o]?:=gU underlying2 rfl cs o
def GU:cC prog 2=some [(.int .i64 0)]:=ax
def dm:=ad @AB (ad @zcg (ad @GT (@GU)))
def jI:bp prog 3=some 1:=ax
def rM:cT prog 3=some 8:=ax
def zch(cs:qB)(o:Nat):cF prog 3 cs o=cs[o]?:=gU underlying3 rfl cs o
def rN:cC prog 3=some [(.int .i64 0)]:=ax
def cG:=ad @jI (ad @zch (ad @rM (@rN)))
def GV:bp prog 4=some 1:=ax
def Q1:cT prog 4=some 1:=ax
def zci(cs:qB)(o:Nat):cF prog 4 cs o=cs[o]?:=gU underlying4 rfl cs o
def Q3:cC prog 4=some [(.bool false)]:=ax
def l7:=ad @GV (ad @zci (ad @Q1 (@Q3)))
def Ls:bp prog 5=some 1:=ax
def Lt:cT prog 5=some 1:=ax
def zcj(cs:qB)(o:Nat):cF prog 5 cs o=cs[o]?:=gU underlying5 rfl cs o
def Lu:cC prog 5=some [(.int .u8 0)]:=ax
def Q4:=ad @Ls (ad @zcj (ad @Lt (@Lu)))
def yZ:bp prog 9=some 1:=ax
def AC:cT prog 9=some 16:=ax
def zck(cs:qB)(o:Nat):cF prog 9 cs o=cs[o]?:=gU underlying9 rfl cs o
def AD:cC prog 9=some [(.ay [])]:=ax
def zcl(H:Hp)(s:qD):jP prog H 9 (.ay s)=some (.int .i64 s.length):=zba underlying9 s
def zcm(s:qD){n:Int}(J:0<=n)(k:IntKind):ud prog 9 (.ay s) (.int k n)=Gx (s[n.toNat]?):=zbe underlying9 s J k
def eG:=ad @yZ (ad @zck (ad @AC (ad @AD (ad @zcl (@zcm)))))
def zcn:bp prog 22=some 1:=ax
def zco:cT prog 22=some 24:=ax
def zcp(cs:qB)(o:Nat):cF prog 22 cs o=cs[o]?:=gU underlying22 rfl cs o
def zcq:cC prog 22=some [.ao]:=ax
def zcr:nD 22 2:=fun r o l z _ J k=>nn underlying22 (show bp prog 75=some 2 from by kernel_rfl) r o l z J k
def zcs:mK 22 2:=nE underlying22 (show bp prog 75=some 2 from by kernel_rfl)
def ij:=ad @zcn (ad @zcp (ad @zco (ad @zcq (ad @zcr (@zcs)))))
def zct:bp prog 23=some 1:=ax
def zcu:cT prog 23=some 24:=ax
def zcv(cs:qB)(o:Nat):cF prog 23 cs o=cs[o]?:=gU underlying23 rfl cs o
def zcw:cC prog 23=some [.ao]:=ax
def zcx:nD 23 9:=fun r o l z _ J k=>nn underlying23 (show bp prog 72=some 9 from by kernel_rfl) r o l z J k
def zcy:mK 23 9:=nE underlying23 (show bp prog 72=some 9 from by kernel_rfl)
def l8:=ad @zct (ad @zcv (ad @zcu (ad @zcw (ad @zcx (@zcy)))))
def Q5:bp prog 25=some 2:=ax
def zcz:cT prog 25=some 48:=ax
def zcA(cs:qB)(o:Nat):cF prog 25 cs o=cr 2 (cs.drop o):=lC underlying25 rfl Q5 cs o
def zcB:cC prog 25=some [.ao,.ao]:=ax
def zcC:b7 25 0 0 22/\b7 25 1 1 23:=⟨ca,ca⟩
def jU:=ad @Q5 (ad @zcA (ad @zcz (ad @zcB (@zcC))))
def zcD:bp prog 26=some 1:=ax
def zcE:cT prog 26=some 24:=ax
def zcF(cs:qB)(o:Nat):cF prog 26 cs o=cs[o]?:=gU underlying26 rfl cs o
def zcG:cC prog 26=some [.ao]:=ax
def Q6:nD 26 1:=fun r o l z _ J k=>nn underlying26 (show bp prog 3=some 1 from by kernel_rfl) r o l z J k
def zcH:mK 26 1:=nE underlying26 (show bp prog 3=some 1 from by kernel_rfl)
def ey:=ad @zcD (ad @zcF (ad @zcE (ad @zcG (ad @Q6 (@zcH)))))
def CZ:bp prog 27=some 1:=ax
def Lw:cT prog 27=some 24:=ax
def zcI(cs:qB)(o:Nat):cF prog 27 cs o=cs[o]?:=gU underlying27 rfl cs o
def Ly:cC prog 27=some [.ao]:=ax
def zcJ:nD 27 1:=fun r o l z _ J k=>nn underlying27 (show bp prog 2=some 1 from by kernel_rfl) r o l z J k
def zcK:mK 27 1:=nE underlying27 (show bp prog 2=some 1 from by kernel_rfl)
def kJ:=ad @CZ (ad @zcI (ad @Lw (ad @Ly (ad @zcJ (@zcK)))))
def zcL:bp prog 35=some 1:=ax
def zcM:cT prog 35=some 24:=ax
def zcN(cs:qB)(o:Nat):cF prog 35 cs o=cs[o]?:=gU underlying35 rfl cs o
def zcO:cC prog 35=some [.ao]:=ax
def zcP:nD 35 5:=fun r o l z _ J k=>nn underlying35 (show bp prog 44=some 5 from by kernel_rfl) r o l z J k
def zcQ:mK 35 5:=nE underlying35 (show bp prog 44=some 5 from by kernel_rfl)
def oQ:=ad @zcL (ad @zcN (ad @zcM (ad @zcO (ad @zcP (@zcQ)))))
def Q7:bp prog 37=some 2:=ax
def zcR:cT prog 37=some 48:=ax
def Q8(cs:qB)(o:Nat):cF prog 37 cs o=cr 2 (cs.drop o):=lC underlying37 rfl Q7 cs o
def zcS:cC prog 37=some [.ao,.ao]:=ax
def zcT:b7 37 0 0 22/\b7 37 1 1 35:=⟨ca,ca⟩
def jJ:=ad @Q7 (ad @Q8 (ad @zcR (ad @zcS (@zcT))))
def zcU:bp prog 42=some 1:=ax
def zcV:cT prog 42=some 24:=ax
def zcW(cs:qB)(o:Nat):cF prog 42 cs o=cs[o]?:=gU underlying42 rfl cs o
def zcX:cC prog 42=some [.ao]:=ax
def zcY:nD 42 3:=fun r o l z _ J k=>nn underlying42 (show bp prog 58=some 3 from by kernel_rfl) r o l z J k
def zcZ:mK 42 3:=nE underlying42 (show bp prog 58=some 3 from by kernel_rfl)
def gC:=ad @zcU (ad @zcW (ad @zcV (ad @zcX (ad @zcY (@zcZ)))))
def Lz:bp prog 44=some 5:=ax
def Ra:cT prog 44=some 64:=ax
def zc0(cs:qB)(o:Nat):cF prog 44 cs o=cr 5 (cs.drop o):=lC underlying44 rfl Lz cs o
def Rd:cC prog 44=some [(.ay []),(.int .i64 0),.ao,(.int .i64 0),(.int .i64 0)]:=ax
def zc1:b7 44 0 0 9/\b7 44 1 1 3/\b7 44 2 2 42/\b7 44 3 3 3/\b7 44 4 4 3:=⟨ca,ca,ca,ca,ca⟩
def rO:=ad @Lz (ad @zc0 (ad @Ra (ad @Rd (@zc1))))
def zc2:bp prog 46=some 1:=ax
def zc3:cT prog 46=some 8:=ax
def zc4(cs:qB)(o:Nat):cF prog 46 cs o=cs[o]?:=gU underlying46 rfl cs o
def zc5:cC prog 46=some [(.int .i64 0)]:=ax
def LA:=ad @zc2 (ad @zc4 (ad @zc3 (@zc5)))
def Re:bp prog 51=some 4:=ax
def zc6:cT prog 51=some 48:=ax
def zc7(cs:qB)(o:Nat):cF prog 51 cs o=cr 4 (cs.drop o):=lC underlying51 rfl Re cs o
def zc8:cC prog 51=some [(.int .i64 0),(.int .i64 0),.ao,(.int .i64 0)]:=ax
def zc9:b7 51 0 0 3/\b7 51 1 1 3/\b7 51 2 2 27/\b7 51 3 3 2:=⟨ca,ca,ca,ca⟩
def GW:=ad @Re (ad @zc7 (ad @zc6 (ad @zc8 (@zc9))))
def GX:bp prog 58=some 3:=ax
def Rf:cT prog 58=some 40:=ax
def zda(cs:qB)(o:Nat):cF prog 58 cs o=cr 3 (cs.drop o):=lC underlying58 rfl GX cs o
def Rg:cC prog 58=some [(.int .i64 0),(.int .i64 0),.ao]:=ax
def zdb:b7 58 0 0 3/\b7 58 1 1 2/\b7 58 2 2 26:=⟨ca,ca,ca⟩
def ik:=ad @GX (ad @zda (ad @Rf (ad @Rg (@zdb))))
def zdc:bp prog 66=some 1:=ax
def zdd:cT prog 66=some 24:=ax
def zde(cs:qB)(o:Nat):cF prog 66 cs o=cs[o]?:=gU underlying66 rfl cs o
def zdf:cC prog 66=some [.ao]:=ax
def Rh:nD 66 1:=fun r o l z _ J k=>nn underlying66 (show bp prog 9=some 1 from by kernel_rfl) r o l z J k
def zdg:mK 66 1:=nE underlying66 (show bp prog 9=some 1 from by kernel_rfl)
def jx:=ad @zdc (ad @zde (ad @zdd (ad @zdf (ad @Rh (@zdg)))))
def zdh:bp prog 67=some 1:=ax
def zdi:cT prog 67=some 24:=ax
def zdj(cs:qB)(o:Nat):cF prog 67 cs o=cs[o]?:=gU underlying67 rfl cs o
def zdk:cC prog 67=some [.ao]:=ax
def zdl:nD 67 17:=fun r o l z _ J k=>nn underlying67 (show bp prog 78=some 17 from by kernel_rfl) r o l z J k
def zdm:mK 67 17:=nE underlying67 (show bp prog 78=some 17 from by kernel_rfl)
def i7:=ad @zdh (ad @zdj (ad @zdi (ad @zdk (ad @zdl (@zdm)))))
def zdn:bp prog 68=some 1:=ax
def zdo:cT prog 68=some 24:=ax
def zdp(cs:qB)(o:Nat):cF prog 68 cs o=cs[o]?:=gU underlying68 rfl cs o
def zdq:cC prog 68=some [.ao]:=ax
def zdr:nD 68 5:=fun r o l z _ J k=>nn underlying68 (show bp prog 70=some 5 from by kernel_rfl) r o l z J k
def zds:mK 68 5:=nE underlying68 (show bp prog 70=some 5 from by kernel_rfl)
def jh:=ad @zdn (ad @zdp (ad @zdo (ad @zdq (ad @zdr (@zds)))))
def LB:bp prog 70=some 5:=ax
def Rk:cT prog 70=some 64:=ax
def zdt(cs:qB)(o:Nat):cF prog 70 cs o=cr 5 (cs.drop o):=lC underlying70 rfl LB cs o
def Rl:cC prog 70=some [(.int .i64 0),(.int .i64 0),(.ay []),(.int .i64 0),.ao]:=ax
def zdu:b7 70 0 0 3/\b7 70 1 1 2/\b7 70 2 2 9/\b7 70 3 3 3/\b7 70 4 4 68:=⟨ca,ca,ca,ca,ca⟩
def iC:=ad @LB (ad @zdt (ad @Rk (ad @Rl (@zdu))))
def LC:bp prog 72=some 9:=ax
def Rm:cT prog 72=some 152:=ax
def zdv(cs:qB)(o:Nat):cF prog 72 cs o=cr 9 (cs.drop o):=lC underlying72 rfl LC cs o
def Rn:cC prog 72=some [(.ay []),.ao,.ao,.ao,(.int .i64 0),(.int .i64 0),(.ay []),(.int .i64 0),.ao]:=ax
def zdw:b7 72 0 0 9/\b7 72 1 1 66/\b7 72 2 2 66/\b7 72 3 3 67/\b7 72 4 4 70:=⟨ca,ca,ca,ca,ca⟩
def tG:=ad @LC (ad @zdv (ad @Rm (ad @Rn (@zdw))))
def zdx:bp prog 73=some 1:=ax
def zdy:cT prog 73=some 24:=ax
def zdz(cs:qB)(o:Nat):cF prog 73 cs o=cs[o]?:=gU underlying73 rfl cs o
def zdA:cC prog 73=some [.ao]:=ax
def zdB:nD 73 1:=fun r o l z _ J k=>nn underlying73 (show bp prog 5=some 1 from by kernel_rfl) r o l z J k
def zdC:mK 73 1:=nE underlying73 (show bp prog 5=some 1 from by kernel_rfl)
def zdD:=ad @zdx (ad @zdz (ad @zdy (ad @zdA (ad @zdB (@zdC)))))
def GY:bp prog 75=some 2:=ax
def LD:cT prog 75=some 24:=ax
def zdE(cs:qB)(o:Nat):cF prog 75 cs o=cr 2 (cs.drop o):=lC underlying75 rfl GY cs o
def LF:cC prog 75=some [(.ay []),(.int .i64 0)]:=ax
def zdF:b7 75 0 0 9/\b7 75 1 1 3:=⟨ca,ca⟩
def nZ:=ad @GY (ad @zdE (ad @LD (ad @LF (@zdF))))
def LH:bp prog 78=some 17:=ax
def Ro:cT prog 78=some 248:=ax
def zdG(cs:qB)(o:Nat):cF prog 78 cs o=cr 17 (cs.drop o):=lC underlying78 rfl LH cs o
def Rp:cC prog 78=some [(.int .i64 0),(.ay []),(.ay []),(.int .i64 0),(.int .i64 0),(.int .i64 0),(.ay []),(.int .i64 0),.ao,(.int .i64 0),(.int .i64 0),(.ay []),(.int .i64 0),.ao,.ao,.ao,.ao]:=ax
def zdH:b7 78 0 0 3/\b7 78 1 1 9/\b7 78 2 2 9/\b7 78 3 3 3/\b7 78 4 4 70/\b7 78 5 9 70/\b7 78 6 14 68/\b7 78 7 15 67/\b7 78 8 16 67:=⟨ca,ca,ca,ca,ca,ca,ca,ca,ca⟩
def kg:=ad @LH (ad @zdG (ad @Ro (ad @Rp (@zdH))))
def Rq:bp prog 82=some 2:=ax
def zdI:cT prog 82=some 32:=ax
def zdJ(cs:qB)(o:Nat):cF prog 82 cs o=cr 2 (cs.drop o):=lC underlying82 rfl Rq cs o
def zdK:cC prog 82=some [.ao,(.int .i64 0)]:=ax
def zdL:b7 82 0 0 26/\b7 82 1 1 3:=⟨ca,ca⟩
def AE:=ad @Rq (ad @zdJ (ad @zdI (ad @zdK (@zdL))))
def zdM:bp prog 98=some 1:=ax
def zdN:cT prog 98=some 8:=ax
def zdO(cs:qB)(o:Nat):cF prog 98 cs o=cs[o]?:=gU underlying98 rfl cs o
def zdP:cC prog 98=some [.bV]:=ax
def C0:=ad @zdM (ad @zdO (ad @zdN (@zdP)))
def Rr:bp prog 101=some 10:=ax
def zdQ:cT prog 101=some 144:=ax
def zdR(cs:qB)(o:Nat):cF prog 101 cs o=cr 10 (cs.drop o):=lC underlying101 rfl Rr cs o
def zdS:cC prog 101=some [.ao,.ao,.bV,.bV,.ao,.bV,.bV,.ao,(.int .i64 0),(.int .i64 0)]:=ax
def zdT:b7 101 0 0 25/\b7 101 1 2 98/\b7 101 2 3 98/\b7 101 3 4 42/\b7 101 4 5 98/\b7 101 5 6 98/\b7 101 6 7 26/\b7 101 7 8 3/\b7 101 8 9 3:=⟨ca,ca,ca,ca,ca,ca,ca,ca,ca⟩
def C1:=ad @Rr (ad @zdR (ad @zdQ (ad @zdS (@zdT))))
def zdU:bp prog 103=some 1:=ax
def zdV:cT prog 103=some 24:=ax
def zdW(cs:qB)(o:Nat):cF prog 103 cs o=cs[o]?:=gU underlying103 rfl cs o
def zdX:cC prog 103=some [.ao]:=ax
def zdY:nD 103 1:=fun r o l z _ J k=>nn underlying103 (show bp prog 104=some 1 from by kernel_rfl) r o l z J k
def zdZ:mK 103 1:=nE underlying103 (show bp prog 104=some 1 from by kernel_rfl)
def nF:=ad @zdU (ad @zdW (ad @zdV (ad @zdX (ad @zdY (@zdZ)))))
def LJ:bp prog 104=some 1:=ax
def Rs:cT prog 104=some 24:=ax
def zea(cs:qB)(o:Nat):cF prog 104 cs o=cs[o]?:=gU underlying104 rfl cs o
def Rt:cC prog 104=some [.ao]:=ax
def zeb:nD 104 1:=fun r o l z _ J k=>nn underlying104 (show bp prog 148=some 1 from by kernel_rfl) r o l z J k
def zec:mK 104 1:=nE underlying104 (show bp prog 148=some 1 from by kernel_rfl)
def xq:=ad @LJ (ad @zea (ad @Rs (ad @Rt (ad @zeb (@zec)))))
def zed:bp prog 106=some 1:=ax
def zee:cT prog 106=some 8:=ax
def zef(cs:qB)(o:Nat):cF prog 106 cs o=cs[o]?:=gU underlying106 rfl cs o
def zeg:cC prog 106=some [.aF]:=ax
def oR:=ad @zed (ad @zef (ad @zee (@zeg)))
def zeh:bp prog 107=some 1:=ax
def zei:cT prog 107=some 24:=ax
def zej(cs:qB)(o:Nat):cF prog 107 cs o=cs[o]?:=gU underlying107 rfl cs o
def zek:cC prog 107=some [.ao]:=ax
def zel:nD 107 1:=fun r o l z _ J k=>nn underlying107 (show bp prog 27=some 1 from by kernel_rfl) r o l z J k
def zem:mK 107 1:=nE underlying107 (show bp prog 27=some 1 from by kernel_rfl)
def rQ:=ad @zeh (ad @zej (ad @zei (ad @zek (ad @zel (@zem)))))
def zen:bp prog 108=some 1:=ax
def zeo:cT prog 108=some 8:=ax
def zep(cs:qB)(o:Nat):cF prog 108 cs o=cs[o]?:=gU underlying108 rfl cs o
def zeq:cC prog 108=some [.aF]:=ax
def pL:=ad @zen (ad @zep (ad @zeo (@zeq)))
def Ru:bp prog 110=some 6:=ax
def zer:cT prog 110=some 64:=ax
def zes(cs:qB)(o:Nat):cF prog 110 cs o=cr 6 (cs.drop o):=lC underlying110 rfl Ru cs o
def zet:cC prog 110=some [.ao,.aF,(.int .i64 0),(.int .i64 0),(.int .i64 0),(.int .i64 0)]:=ax
def zeu:b7 110 0 0 107/\b7 110 1 1 108/\b7 110 2 2 3/\b7 110 3 3 3/\b7 110 4 4 3/\b7 110 5 5 2:=⟨ca,ca,ca,ca,ca,ca⟩
def rR:=ad @Ru (ad @zes (ad @zer (ad @zet (@zeu))))
def Rv:bp prog 140=some 7:=ax
def zev:cT prog 140=some 136:=ax
def zew(cs:qB)(o:Nat):cF prog 140 cs o=cr 7 (cs.drop o):=lC underlying140 rfl Rv cs o
def zex:cC prog 140=some [.ao,.ao,.ao,.ao,.ao,(.int .i64 0),(.int .i64 0)]:=ax
def zey:b7 140 0 0 25/\b7 140 1 2 42/\b7 140 2 3 66/\b7 140 3 4 26/\b7 140 4 5 3/\b7 140 5 6 3:=⟨ca,ca,ca,ca,ca,ca⟩
def vW:=ad @Rv (ad @zew (ad @zev (ad @zex (@zey))))
def GZ:bp prog 148=some 1:=ax
def Rw:cT prog 148=some 4:=ax
def zez(cs:qB)(o:Nat):cF prog 148 cs o=cs[o]?:=gU underlying148 rfl cs o
def Rz:cC prog 148=some [(.int .u32 0)]:=ax
def C2:=ad @GZ (ad @zez (ad @Rw (@Rz)))
def zeA:bp prog 149=some 1:=ax
def zeB:cT prog 149=some 24:=ax
def zeC(cs:qB)(o:Nat):cF prog 149 cs o=cs[o]?:=gU underlying149 rfl cs o
def zeD:cC prog 149=some [.ao]:=ax
def zeE:nD 149 1:=fun r o l z _ J k=>nn underlying149 (show bp prog 4=some 1 from by kernel_rfl) r o l z J k
def zeF:mK 149 1:=nE underlying149 (show bp prog 4=some 1 from by kernel_rfl)
def C3:=ad @zeA (ad @zeC (ad @zeB (ad @zeD (ad @zeE (@zeF)))))
def zeG:bp prog 151=some 1:=ax
def zeH:cT prog 151=some 24:=ax
def zeI(cs:qB)(o:Nat):cF prog 151 cs o=cs[o]?:=gU underlying151 rfl cs o
def zeJ:cC prog 151=some [.ao]:=ax
def zeK:nD 151 1:=fun r o l z _ J k=>nn underlying151 (show bp prog 149=some 1 from by kernel_rfl) r o l z J k
def zeL:mK 151 1:=nE underlying151 (show bp prog 149=some 1 from by kernel_rfl)
def zeM:=ad @zeG (ad @zeI (ad @zeH (ad @zeJ (ad @zeK (@zeL)))))
def zeN:bp prog 154=some 1:=ax
def zeO:cT prog 154=some 8:=ax
def zeP(cs:qB)(o:Nat):cF prog 154 cs o=cs[o]?:=gU underlying154 rfl cs o
def zeQ:cC prog 154=some [(.int .u64 0)]:=ax
def AF:=ad @zeN (ad @zeP (ad @zeO (@zeQ)))
def zeR:bp prog 155=some 1:=ax
def zeS:cT prog 155=some 24:=ax
def zeT(cs:qB)(o:Nat):cF prog 155 cs o=cs[o]?:=gU underlying155 rfl cs o
def zeU:cC prog 155=some [.ao]:=ax
def zeV:nD 155 4:=fun r o l z _ J k=>nn underlying155 (show bp prog 162=some 4 from by kernel_rfl) r o l z J k
def zeW:mK 155 4:=nE underlying155 (show bp prog 162=some 4 from by kernel_rfl)
def oS:=ad @zeR (ad @zeT (ad @zeS (ad @zeU (ad @zeV (@zeW)))))
def zeX:bp prog 156=some 1:=ax
def zeY:cT prog 156=some 8:=ax
def zeZ(cs:qB)(o:Nat):cF prog 156 cs o=cs[o]?:=gU underlying156 rfl cs o
def ze0:cC prog 156=some [.aF]:=ax
def pM:=ad @zeX (ad @zeZ (ad @zeY (@ze0)))
def RA:bp prog 157=some 16:=ax
def ze1:cT prog 157=some 128:=ax
def ze2(cs:qB)(o:Nat):cF prog 157 cs o=cr 16 (cs.drop o):=lC underlying157 rfl RA cs o
def ze3:cC prog 157=some [.aF,.aF,.aF,.aF,.aF,.aF,.aF,.aF,.aF,.aF,.aF,.aF,.aF,.aF,.aF,.aF]:=ax
def oT:=ad @RA (ad @ze2 (ad @ze1 (@ze3)))
def RB:bp prog 159=some 23:=ax
def ze4:cT prog 159=some 264:=ax
def ze5(cs:qB)(o:Nat):cF prog 159 cs o=cr 23 (cs.drop o):=lC underlying159 rfl RB cs o
def ze7:cC prog 159=some [.ao,.ao,.ao,(.int .i64 0),.aF,.ao,.ao,.aF,.aF,.aF,.aF,.aF,.aF,.aF,.aF,.aF,.aF,.aF,.aF,.aF,.aF,.aF,.aF]:=ax
def ze8:b7 159 0 0 37/\b7 159 1 2 103/\b7 159 2 3 3/\b7 159 3 4 106/\b7 159 4 5 27/\b7 159 5 6 155/\b7 159 6 7 157:=⟨ca,ca,ca,ca,ca,ca,ca⟩
def oU:=ad @RB (ad @ze5 (ad @ze4 (ad @ze7 (@ze8))))
def AG:bp prog 162=some 4:=ax
def RC:cT prog 162=some 32:=ax
def ze9(cs:qB)(o:Nat):cF prog 162 cs o=cr 4 (cs.drop o):=lC underlying162 rfl AG cs o
def RD:cC prog 162=some [(.bool false),(.int .i64 0),.aF,.aF]:=ax
def zfa:b7 162 0 0 4/\b7 162 1 1 2/\b7 162 2 2 106/\b7 162 3 3 156:=⟨ca,ca,ca,ca⟩
def oV:=ad @AG (ad @ze9 (ad @RC (ad @RD (@zfa))))
def RE:bp prog 164=some 2:=ax
def zfb:cT prog 164=some 16:=ax
def zfc(cs:qB)(o:Nat):cF prog 164 cs o=cr 2 (cs.drop o):=lC underlying164 rfl RE cs o
def zfd:cC prog 164=some [(.int .i64 0),.aF]:=ax
def zfe:b7 164 0 0 2/\b7 164 1 1 108:=⟨ca,ca⟩
def LK:=ad @RE (ad @zfc (ad @zfb (ad @zfd (@zfe))))
def RF:bp prog 169=some 4:=ax
def zff:cT prog 169=some 96:=ax
def zfg(cs:qB)(o:Nat):cF prog 169 cs o=cr 4 (cs.drop o):=lC underlying169 rfl RF cs o
def zfh:cC prog 169=some [.ao,.ao,.ao,.ao]:=ax
def zfi:b7 169 0 0 66/\b7 169 1 1 66/\b7 169 2 2 25:=⟨ca,ca,ca⟩
def LL:=ad @RF (ad @zfg (ad @zff (ad @zfh (@zfi))))
def zfj:bp prog 180=some 1:=ax
def zfk:cT prog 180=some 8:=ax
def zfl(cs:qB)(o:Nat):cF prog 180 cs o=cs[o]?:=gU underlying180 rfl cs o
def zfm:cC prog 180=some [(.int .u64 0)]:=ax
def RG:=ad @zfj (ad @zfl (ad @zfk (@zfm)))
def zfn:bp prog 200=some 1:=ax
def zfo:cT prog 200=some 8:=ax
def zfp(cs:qB)(o:Nat):cF prog 200 cs o=cs[o]?:=gU underlying200 rfl cs o
def zfq:cC prog 200=some [.bV]:=ax
def RH:=ad @zfn (ad @zfp (ad @zfo (@zfq)))
def RI:bp prog 204=some 16:=ax
def zfr:cT prog 204=some 128:=ax
def zfs(cs:qB)(o:Nat):cF prog 204 cs o=cr 16 (cs.drop o):=lC underlying204 rfl RI cs o
def zft:cC prog 204=some [(.int .i64 0),(.int .i64 0),(.int .i64 0),(.int .i64 0),(.int .i64 0),(.int .i64 0),(.int .i64 0),(.int .i64 0),(.int .i64 0),(.int .i64 0),(.int .i64 0),(.int .i64 0),(.int .i64 0),(.int .i64 0),(.int .i64 0),(.int .i64 0)]:=ax
def zfu:=ad @RI (ad @zfs (ad @zfr (@zft)))
def zfv:bp prog 228=some 1:=ax
def zfw:cT prog 228=some 24:=ax
def zfx(cs:qB)(o:Nat):cF prog 228 cs o=cs[o]?:=gU underlying228 rfl cs o
def zfy:cC prog 228=some [.ao]:=ax
def zfz:nD 228 1:=fun r o l z _ J k=>nn underlying228 (show bp prog 66=some 1 from by kernel_rfl) r o l z J k
def zfA:mK 228 1:=nE underlying228 (show bp prog 66=some 1 from by kernel_rfl)
def zfB:=ad @zfv (ad @zfx (ad @zfw (ad @zfy (ad @zfz (@zfA)))))
def RJ:bp prog 234=some 2:=ax
def zfC:cT prog 234=some 32:=ax
def zfD(cs:qB)(o:Nat):cF prog 234 cs o=cr 2 (cs.drop o):=lC underlying234 rfl RJ cs o
def zfE:cC prog 234=some [.aF,.ao]:=ax
def zfF:b7 234 0 0 106/\b7 234 1 1 27:=⟨ca,ca⟩
def LM:=ad @RJ (ad @zfD (ad @zfC (ad @zfE (@zfF))))
def Da(H:Hp)(k:IntKind)(n:Int):mW prog H 2 154 (.int k n)=some (.int .u64 (IntKind.wrap .u64 n)):=yX
def RK(H:Hp)(k:IntKind)(n:Int):mW prog H 2 180 (.int k n)=some (.int .u64 (IntKind.wrap .u64 n)):=yX
def zfG(H:Hp)(k:IntKind)(n:Int):mW prog H 3 5 (.int k n)=some (.int .u8 (IntKind.wrap .u8 n)):=yX
def zfH(H:Hp)(k:IntKind)(n:Int):mW prog H 3 154 (.int k n)=some (.int .u64 (IntKind.wrap .u64 n)):=yX
def zfI(H:Hp)(k:IntKind)(n:Int):mW prog H 3 180 (.int k n)=some (.int .u64 (IntKind.wrap .u64 n)):=yX
def zfJ(H:Hp)(k:IntKind)(n:Int):mW prog H 180 2 (.int k n)=some (.int .i64 (IntKind.wrap .i64 n)):=yX
def zfK(H:Hp)(k:IntKind)(n:Int):mW prog H 180 5 (.int k n)=some (.int .u8 (IntKind.wrap .u8 n)):=yX
end Go.Proofs.YtbflaciihaijgaaGreat
namespace Go.Ab
set_option maxRecDepth 20000
open Go
variable {P:Program} {cfg:Cfg} {f N:Nat}
variable{a:Nat}{E:aw}{H:Hp}{Q:AX->aw->Hp->Prop}{p:Nat->Prop}
def cP{a:SC}(cs rs:qG)(C n:Nat)(J:Nat->aw->Hp->Prop)(L:E.at C=.int .i64 0)(Y:J 0 E H)
 (h:∀(i:Nat) (E':aw) (H':Hp),i<=n->(∀k∈cs,E'.at k=E.at k)->(∀r∈rs,H'.get r=H.get r)->H.next<=H'.next->E'.at C=.int .i64 i->J i E' H' ->
   bX P cfg f N a E' H' (oJ Q fun I Z=>i<n/\(∀k∈cs,I.at k=E.at k)/\(∀r∈rs,Z.get r=H.get r)/\H.next<=Z.next/\I.at C=.int .i64 ((i+1:Nat):Int)/\J (i+1) I Z)):bX P cfg f N (.loop a) E H Q:=
 zaO (fun i E' H'=>(∀k∈cs,E'.at k=E.at k)/\(∀r∈rs,H'.get r=H.get r)/\H.next<=H'.next/\E'.at C=.int .i64 i/\J i E' H') n (fun i E' H' O ⟨j,m,V,z,h5⟩=>h i E' H' O j m V z h5) ⟨fun _ _=>rfl,fun _ _=>rfl,aG _,L,Y⟩
theorem G3{a:SC}(cs rs:qG)(J:Nat->aw->Hp->Prop)(n:Nat)(Y:J n E H)
 (h:∀(i:Nat) (E':aw) (H':Hp),(∀k∈cs,E'.at k=E.at k)->(∀r∈rs,H'.get r=H.get r)->H.next<=H'.next->J i E' H' ->
   bX P cfg f N a E' H' (oJ Q fun I Z=>(∀k∈cs,I.at k=E.at k)/\(∀r∈rs,Z.get r=H.get r)/\H.next<=Z.next/\∃m,m<i/\J m I Z)):bX P cfg f N (.loop a) E H Q:=
 CG (fun i E' H'=>(∀k∈cs,E'.at k=E.at k)/\(∀r∈rs,H'.get r=H.get r)/\H.next<=H'.next/\J i E' H') (fun i E' H' ⟨j,V,C,O⟩=>Ao (fun x I Z L=>by
  grind) (h i E' H' j V C O)) (n:=n) ⟨fun _ _=>rfl,fun _ _=>rfl,aG _,Y⟩
def bz{l:qG}:(∀k∈a::l,p k)↔p a/\∀k∈l,p k:=List.forall_mem_cons
def a7:(∀k∈([]:qG),p k)↔True:=⟨fun _=>trivial,fun _ _ h=>rD⟩
def aZ{b:Nat}(h:a≠b):(a == b)=false:=lV
def il{i n:Nat}(h:i<n)(J:n<2^62):AV.int .i64 (IntKind.wrap .i64 ((i:Int)+1))=.int .i64 ((i+1:Nat):Int):=by rw[uw ac]
end Go.Ab
namespace Go.Proofs.YtbflaciihaijgaaGreat
set_option maxRecDepth 20000
open Go Go.Ab
variable{g:FuncId}{z:qN}{r i n s N:Nat}{cs vs:qB}{C:Array (Nat×Operand)}{c:AV}{lo O:Option Operand}{j:qI}{L:Array TypeId}{I:IntKind}{J:Int}{Y q1 q2 V p:Prop}{tb:Bool}{Z:List Rc}
def sH:=ad uz mJ
def sI:=ad @kE @oP
section
variable {P:Program} {cfg:Cfg} {f:FuncId} {l:List SOp} {E:aw} {H H':Hp} {Q:aw -> Hp -> Prop} {d:Nat} {v a b:AV} {x y:Operand} {t u:TypeId}
def cE(P:Program)(cfg:Cfg)(f:FuncId)(op:Op)(E:aw)(H:Hp)(v:AV)(H':Hp):Prop:=∃n,eQ P cfg (bG P cfg n) f E H op=.val v H'
def cE.of{op:Op}(h:∀Q:aw->Hp->Prop,aH P cfg f [] (T.set E 0 (some v)) H' Q->aH P cfg f [⟨some 0,op,none⟩] E H Q):cE P cfg f op E H v H':=by
 have j:=h (fun I Z=>I.at 0=v/\Z=H') (CH ⟨by rw[KR];rfl,rfl⟩);unfold aH at j;simp only[]at j;unfold j7 at j;obtain⟨n,w,Z,m,C⟩:=j;unfold aH at C;obtain⟨Y,rfl⟩:=C;have:(a0 E (some 0) w).at 0=w:=Qn;rw[this]at Y;exact⟨n,by rw[m,Y]⟩
def dN:=@cE.of
def G5{op:Op}(h:∀Q:aw->Hp->Prop,aH P cfg f [] E H' Q->aH P cfg f [⟨none,op,none⟩] E H Q):∃v,cE P cfg f op E H v H':=by
 have j:=h (fun I Z=>Z=H') (CH rfl);unfold aH at j;simp only[]at j;unfold j7 at j;obtain⟨n,w,Z,m,C⟩:=j;unfold aH at C;subst C;exact⟨w,n,m⟩
def cE.go{op:Op}(z:aH P cfg f l (T.set E d (some v)) H' Q)(h:cE P cfg f op E H v H'):aH P cfg f (⟨some d,op,none⟩::l) E H Q:=by
 obtain⟨n,h⟩:=h;unfold aH;show j7 _ _ _ _ _ _ _;unfold j7;exact⟨n,v,H',h,z⟩
def RL{op:Op}(z:aH P cfg f l E H' Q)(h:∃v,cE P cfg f op E H v H'):aH P cfg f (⟨none,op,none⟩::l) E H Q:=by
 obtain⟨v,n,h⟩:=h;unfold aH;show j7 _ _ _ _ _ _ _;unfold j7;exact⟨n,v,H',h,z⟩
attribute [irreducible] cE
def Rx.nl{Z K:aw->Hp->Prop}{R:Prop}(h:R)(hK:∀E H,Z E H->K E H:=by assumption)(e:Z E H=R:=by exact GS):aH P cfg f [] E H K:=CH (hK _ _ (e▸h))
def ay:=@Rx.nl
def bB{R:Prop}(h:R)(e:Q E H=R:=by first|(dsimp only[];first|done|exact rfl)|exact rfl):aH P cfg f [] E H Q:=CH (e▸h)
def bY{need:qS}{Z:List Rc}{Y:aw->Hp->Prop}{K:List Rc->aw->Hp->Prop}{R:Prop}(j:vU P cfg need Z H)(h:R)(hK:∀Z E' H',vU P cfg need Z H'->Y E' H'->K Z E' H':=by assumption)(e:Y E H=R:=by exact GS):dD P cfg f [] Z E H K:=dD.nil (hK _ _ _ j (e▸h))
def Rx.k{ar:qB}{r:AV}{K:AV->Hp->Prop}{R:Prop}(c:aR P cfg g ar H fun v H'=>v=r/\H'=H)(h:R)(e:K r H=R:=by exact vV):aR P cfg g ar H K:=a8 aU c
def Ox.mv(h:aM E x=some v:=by exact eS):cE P cfg f (.move x) E H v H:=dN fun Q z=>aH.move h z
def Ox.as(h:aM E x=some v:=by exact eS):cE P cfg f (.assign x) E H v H:=dN fun Q z=>aH.assign h z
def Ox.pk{z:Operand}{t:Bool}(h:aM E x=some (.bool t):=by exact eS)(j:aM E y=some a:=by exact eS)(m:aM E z=some b:=by exact eS):cE P cfg f (.pick x y z) E H (mU t a b) H:=dN fun Q Z=>aH.pick h j m Z
def Ox.ld(h:aM E x=some a:=by exact eS)(j:eP P H t a=some v:=by exact lE):cE P cfg f (.load t x) E H v H:=dN fun Q z=>aH.load h j z
def Ox.st(h:aM E x=some a:=by exact eS)(j:aM E y=some b:=by exact eS)(m:jY P H t a b=some H':=by exact lE):∃v,cE P cfg f (.store t x y) E H v H':=G5 fun Q z=>oK h j m z
def Ox.nc{o:Nat}(h:aM E x=some (.ptr r o):=by exact eS):cE P cfg f (.nilCheck x) E H (.ptr r o) H:=dN fun Q z=>aH.nilCheck h z
def Ox.bn{op:BinOp}(h:aM E x=some a:=by exact eS)(j:aM E y=some b:=by exact eS)(m:dQ P cfg.cS op t a b=some v:=by exact lE):cE P cfg f (.binOp op t x y u) E H v H:=dN fun Q z=>aH.de h j m z
def Ox.un{op:UnOp}(h:aM E x=some a:=by exact eS)(m:vA op a=some v:=by exact lE):cE P cfg f (.unOp op t x) E H v H:=dN fun Q z=>aH.un h m z
def Ox.cv(h:aM E x=some a:=by exact eS)(m:mW P H t u a=some v:=by exact lE):cE P cfg f (.convert t u x) E H v H:=dN fun Q z=>aH.convert h m z
def Ox.fa(h:aM E x=some a:=by exact eS)(m:wL P t a i=some v:=by exact lE):cE P cfg f (.fieldAddr t x i) E H v H:=dN fun Q z=>P8 h m z
def Ox.fi(h:aM E x=some a:=by exact eS)(m:yk P t a i=some v:=by exact lE):cE P cfg f (.field t x i) E H v H:=dN fun Q z=>aH.field h m z
def Ox.ia(h:aM E x=some a:=by exact eS)(j:aM E y=some b:=by exact eS)(m:dK P t a b=some v:=by exact lE):cE P cfg f (.indexAddr t x y) E H v H:=dN fun Q z=>P9 h j m z
def Ox.ix(h:aM E x=some a:=by exact eS)(j:aM E y=some b:=by exact eS)(m:ud P t a b=some v:=by exact lE):cE P cfg f (.index t x y) E H v H:=dN fun Q z=>aH.index h j m z
def Ox.ex(h:aM E x=some a:=by exact eS)(m:Ab.extract a i=some v:=by exact lE):cE P cfg f (.extract x i) E H v H:=dN fun Q z=>aH.extract h m z
def Ox.al{z:qB}(h:cC P t=some z:=by exact lE)(J:some H.next=some n:=by exact AA):cE P cfg f (.alloc t) E H (.ptr n 0) (H.alloc (.cells z 0 true)):=dN fun Q Z=>aH.alloc h J Z
def Ox.bx(h:aM E x=some a:=by exact eS)(L:some a.cells=some cs:=by exact lE)(J:some H.next=some n:=by exact AA):cE P cfg f (.box t x) E H (.ptr n 0) (H.alloc (.cells cs 0 true)):=dN fun Q z=>aH.box h L J z
def Ox.bd{ps:qP}(h:mV E C.toList=some ps:=by exact QT)(m:eg P t ps=some v:=by exact lE):cE P cfg f (.build t C) E H v H:=dN fun Q z=>aH.build h m z
def Ox.bs{ps:qP}(h:mV E C.toList=some ps:=by exact QT)(m:eW P H t n ps=some (v,H'):=by exact lE):cE P cfg f (.buildSlice t n C) E H v H':=dN fun Q z=>Qa h m z
def Ox.mm(J:some H.next=some n:=by exact AA):cE P cfg f (.makeMap t none) E H (.map n) (H.alloc (.map [])):=dN fun Q z=>aH.makeMap J z
def Ox.ms(h:aM E x=some a:=by exact eS)(j:aM E y=some b:=by exact eS)(m:jq P H t a b=some (v,H'):=by exact lE):cE P cfg f (.makeSlice t x y) E H v H':=dN fun Q z=>Qc h j m z
def Ox.lu{ok:Bool}(h:aM E x=some a:=by exact eS)(j:aM E y=some b:=by exact eS)(m:sd P H t a b ok=some v:=by exact lE):cE P cfg f (.lookup t x y ok) E H v H:=dN fun Q z=>aH.lookup h j m z
def Ox.mu{z:Operand}(h:aM E x=some a:=by exact eS)(j:aM E y=some b:=by exact eS)(m:aM E z=some c:=by exact eS)(C:te P H t a b c=some H':=by exact lE):∃v,cE P cfg f (.mapUpdate t x y z) E H v H':=G5 fun Q Z=>Qb h j m C Z
def Ox.mf{cap:Array Operand}(h:jE E cap.toList=some vs:=by exact QU):cE P cfg f (.makeFunc (.func g) #[] cap) E H (.cw g vs) H:=dN fun Q z=>aH.makeFunc h z
def Ox.sl{lv:qI}(h:aM E x=some a:=by exact eS)(Z:mB E lo=some lv:=by exact QV)(m:mB E O=some j:=by exact QV)(C:sc P H t a lv j=some v:=by exact lE):cE P cfg f (.slice t x lo O none) E H v H:=dN fun Q z=>aH.slice h Z m C z
def Ox.ln(h:aM E x=some a:=by exact eS)(j:jP P H t a=some c:=by exact lE):cE P cfg f (.call ⟨.builtin .len,#[x],#[t]⟩) E H c H:=dN fun Q z=>aH.len h j z
def Ox.ap(h:aM E x=some a:=by exact eS)(j:aM E y=some b:=by exact eS)(m:dr P (cfg.keep f) H t u a b=some (v,H'):=by exact lE):cE P cfg f (.call ⟨.builtin .append,#[x,y],#[t,u]⟩) E H v H':=dN fun Q z=>mG h j m z
def Ox.mi{k:IntKind}{Y:Int}(h:aM E x=some (.int k J):=by exact eS)(j:aM E y=some (.int I Y):=by exact eS):cE P cfg f (.call ⟨.builtin .min,#[x,y],L⟩) E H (.int k (min J Y)) H:=dN fun Q z=>aH.min2 h j z
def Ox.ma{k:IntKind}{Y:Int}(h:aM E x=some (.int k J):=by exact eS)(j:aM E y=some (.int I Y):=by exact eS):cE P cfg f (.call ⟨.builtin .max,#[x,y],L⟩) E H (.int k (max J Y)) H:=dN fun Q z=>aH.max2 h j z
def Rx.o{op:Op}(z:aH P cfg f l (T.set E d (some v)) H' Q)(h:cE P cfg f op E H v H':=by first|apply(Ox.mv)|apply(Ox.as)|apply(Ox.pk)|apply(Ox.ld)|apply(Ox.nc)|apply(Ox.bn)|apply(Ox.un)|apply(Ox.cv)|apply(Ox.fa)|apply(Ox.fi)|apply(Ox.ia)|apply(Ox.ix)|apply(Ox.ex)|apply(Ox.al)|apply(Ox.bx)|apply(Ox.bd)|apply(Ox.bs)|apply(Ox.mm)|apply(Ox.ms)|apply(Ox.lu)|apply(Ox.mf)|apply(Ox.sl)|apply(Ox.ln)|apply(Ox.ap)|apply(Ox.mi)|apply(Ox.ma)):aH P cfg f (⟨some d,op,none⟩::l) E H Q:=cE.go z h
def Rx.on{op:Op}(z:aH P cfg f l E H' Q)(h:∃v,cE P cfg f op E H v H':=by first|apply(Ox.st)|apply(Ox.mu)):aH P cfg f (⟨none,op,none⟩::l) E H Q:=RL z h
theorem Rx.call{z:qN}{c:Call}{g:Operand}{k:FuncId}{cap vs ar:qB}(Z:aR P cfg k ar H fun v H'=>aH P cfg f l (a0 E z v) H' Q)(L:c.callee=.value g:=by rfl)(hg:aM E g=some (.cw k cap):=by exact eS)(j:jE E c.args.toList=some vs:=by exact QU)(Y:vs++cap=ar:=by simp only[ii];first|done|exact rfl):aH P cfg f (⟨z,.call c,none⟩::l) E H Q:=bc L hg j (Y▸Z)
def fq:=@Rx.call
def Rx.gu{op:Op}{t:Bool}{v:AV}{R:Prop}(Z:R)(h:some (E.at s)=some v:=by exact eS)(j:v=dq:=by with_reducible rfl)(e:aH P cfg f l (a0 E z dq) H Q=R:=by exact vV):aH P cfg f (⟨z,op,some (s,t)⟩::l) E H Q:=aH.cN h j (e▸Z)
def Rx.gd{op:Op}{t:Bool}{Z R:Prop}(j:Y->q1->aH P cfg f (⟨z,op,none⟩::l) E H Q)(m:Z->q2->R)(h:E.at s=.bool t:=by exact eS)(C:(t=tb)=Y:=by(try simp only[sH,reduceCtorEq]);first|done|exact rfl)(V:(t=!tb)=Z:=by(try simp only[sH,reduceCtorEq]);first|done|exact rfl)(O:Y=q1:=by(try simp only[sI]);first|done|exact rfl)(L:Z=q2:=by(try simp only[sI]);first|done|exact rfl)(e:aH P cfg f l (a0 E z dq) H Q=R:=by exact vV):aH P cfg f (⟨z,op,some (s,tb)⟩::l) E H Q:=aH.guard h (fun k=>j (C▸k) (O▸C▸k)) (fun k=>e▸m (V▸k) (L▸V▸k))
def gL:=@Rx.gd
def Rx.gt{op:Op}{t:Bool}{Q:List Rc->aw->Hp->Prop}{R:Prop}(j:Y->q1->dD P cfg f (⟨z,op,none⟩::l) Z E H Q)(m:V->q2->R)(h:E.at s=.bool t:=by exact eS)(C:(t=tb)=Y:=by(try simp only[sH,reduceCtorEq]);first|done|exact rfl)(O:(t=!tb)=V:=by(try simp only[sH,reduceCtorEq]);first|done|exact rfl)(L:Y=q1:=by(try simp only[sI]);first|done|exact rfl)(J:V=q2:=by(try simp only[sI]);first|done|exact rfl)(e:dD P cfg f l (Z++[⟨op,false,E,H,dq,H⟩]) (a0 E z dq) H Q=R:=by exact vV):dD P cfg f (⟨z,op,some (s,tb)⟩::l) Z E H Q:=dD.guard h (fun k=>j (C▸k) (L▸C▸k)) (fun k=>e▸m (O▸k) (J▸O▸k))
def Rx.gv{op:Op}{Q:List Rc->aw->Hp->Prop}{R:Prop}(Y:R)(h:E.at s=dq:=by exact eS)(e:dD P cfg f l (Z++[⟨op,false,E,H,dq,H⟩]) (a0 E z dq) H Q=R:=by exact vV):dD P cfg f (⟨z,op,some (s,tb)⟩::l) Z E H Q:=dD.cN h (e▸Y)
def Rx.cd{z j:SC}{Q:AX->aw->Hp->Prop}{t:Bool}{Z:Prop}(O:Y->q1->bX P cfg f N z E H Q)(m:Z->q2->bX P cfg f N j E H Q)(I:aM E x=some (.bool t):=by exact eS)(C:(t=true)=Y:=by(try simp only[sH,reduceCtorEq]);first|done|exact rfl)(V:(t=false)=Z:=by(try simp only[sH,reduceCtorEq]);first|done|exact rfl)(L:Y=q1:=by(try simp only[sI]);first|done|exact rfl)(J:Z=q2:=by(try simp only[sI]);first|done|exact rfl):bX P cfg f N (.cond x z j) E H Q:=bX.cond I (fun k=>O (C▸k) (L▸C▸k)) (fun k=>m (V▸k) (J▸V▸k))
def bU:=@Rx.cd
def Oy.mv(h:aM E x=some v:=by exact eT):cE P cfg f (.move x) E H v H:=dN fun Q z=>aH.move h z
def Oy.as(h:aM E x=some v:=by exact eT):cE P cfg f (.assign x) E H v H:=dN fun Q z=>aH.assign h z
def Oy.pk{z:Operand}{t:Bool}(h:aM E x=some (.bool t):=by exact eT)(j:aM E y=some a:=by exact eT)(m:aM E z=some b:=by exact eT):cE P cfg f (.pick x y z) E H (mU t a b) H:=dN fun Q Z=>aH.pick h j m Z
def Oy.ld(h:aM E x=some a:=by exact eT)(j:eP P H t a=some v:=by exact lF):cE P cfg f (.load t x) E H v H:=dN fun Q z=>aH.load h j z
def Oy.st(h:aM E x=some a:=by exact eT)(j:aM E y=some b:=by exact eT)(m:jY P H t a b=some H':=by exact lF):∃v,cE P cfg f (.store t x y) E H v H':=G5 fun Q z=>oK h j m z
def Oy.nc{o:Nat}(h:aM E x=some (.ptr r o):=by exact eT):cE P cfg f (.nilCheck x) E H (.ptr r o) H:=dN fun Q z=>aH.nilCheck h z
def Oy.bn{op:BinOp}(h:aM E x=some a:=by exact eT)(j:aM E y=some b:=by exact eT)(m:dQ P cfg.cS op t a b=some v:=by exact lF):cE P cfg f (.binOp op t x y u) E H v H:=dN fun Q z=>aH.de h j m z
def Oy.un{op:UnOp}(h:aM E x=some a:=by exact eT)(m:vA op a=some v:=by exact lF):cE P cfg f (.unOp op t x) E H v H:=dN fun Q z=>aH.un h m z
def Oy.cv(h:aM E x=some a:=by exact eT)(m:mW P H t u a=some v:=by exact lF):cE P cfg f (.convert t u x) E H v H:=dN fun Q z=>aH.convert h m z
def Oy.fa(h:aM E x=some a:=by exact eT)(m:wL P t a i=some v:=by exact lF):cE P cfg f (.fieldAddr t x i) E H v H:=dN fun Q z=>P8 h m z
def Oy.fi(h:aM E x=some a:=by exact eT)(m:yk P t a i=some v:=by exact lF):cE P cfg f (.field t x i) E H v H:=dN fun Q z=>aH.field h m z
def Oy.ia(h:aM E x=some a:=by exact eT)(j:aM E y=some b:=by exact eT)(m:dK P t a b=some v:=by exact lF):cE P cfg f (.indexAddr t x y) E H v H:=dN fun Q z=>P9 h j m z
def Oy.ix(h:aM E x=some a:=by exact eT)(j:aM E y=some b:=by exact eT)(m:ud P t a b=some v:=by exact lF):cE P cfg f (.index t x y) E H v H:=dN fun Q z=>aH.index h j m z
def Oy.ex(h:aM E x=some a:=by exact eT)(m:Ab.extract a i=some v:=by exact lF):cE P cfg f (.extract x i) E H v H:=dN fun Q z=>aH.extract h m z
def Oy.al{z:qB}(h:cC P t=some z:=by exact lF)(J:some H.next=some n:=by exact AA):cE P cfg f (.alloc t) E H (.ptr n 0) (H.alloc (.cells z 0 true)):=dN fun Q Z=>aH.alloc h J Z
def Oy.bx(h:aM E x=some a:=by exact eT)(L:some a.cells=some cs:=by exact lF)(J:some H.next=some n:=by exact AA):cE P cfg f (.box t x) E H (.ptr n 0) (H.alloc (.cells cs 0 true)):=dN fun Q z=>aH.box h L J z
def Oy.bd{ps:qP}(h:mV E C.toList=some ps:=by exact QW)(m:eg P t ps=some v:=by exact lF):cE P cfg f (.build t C) E H v H:=dN fun Q z=>aH.build h m z
def Oy.bs{ps:qP}(h:mV E C.toList=some ps:=by exact QW)(m:eW P H t n ps=some (v,H'):=by exact lF):cE P cfg f (.buildSlice t n C) E H v H':=dN fun Q z=>Qa h m z
def Oy.mm(J:some H.next=some n:=by exact AA):cE P cfg f (.makeMap t none) E H (.map n) (H.alloc (.map [])):=dN fun Q z=>aH.makeMap J z
def Oy.ms(h:aM E x=some a:=by exact eT)(j:aM E y=some b:=by exact eT)(m:jq P H t a b=some (v,H'):=by exact lF):cE P cfg f (.makeSlice t x y) E H v H':=dN fun Q z=>Qc h j m z
def Oy.lu{ok:Bool}(h:aM E x=some a:=by exact eT)(j:aM E y=some b:=by exact eT)(m:sd P H t a b ok=some v:=by exact lF):cE P cfg f (.lookup t x y ok) E H v H:=dN fun Q z=>aH.lookup h j m z
def Oy.mu{z:Operand}(h:aM E x=some a:=by exact eT)(j:aM E y=some b:=by exact eT)(m:aM E z=some c:=by exact eT)(C:te P H t a b c=some H':=by exact lF):∃v,cE P cfg f (.mapUpdate t x y z) E H v H':=G5 fun Q Z=>Qb h j m C Z
def Oy.mf{cap:Array Operand}(h:jE E cap.toList=some vs:=by exact QX):cE P cfg f (.makeFunc (.func g) #[] cap) E H (.cw g vs) H:=dN fun Q z=>aH.makeFunc h z
def Oy.sl{lv:qI}(h:aM E x=some a:=by exact eT)(Z:mB E lo=some lv:=by exact QY)(m:mB E O=some j:=by exact QY)(C:sc P H t a lv j=some v:=by exact lF):cE P cfg f (.slice t x lo O none) E H v H:=dN fun Q z=>aH.slice h Z m C z
def Oy.ln(h:aM E x=some a:=by exact eT)(j:jP P H t a=some c:=by exact lF):cE P cfg f (.call ⟨.builtin .len,#[x],#[t]⟩) E H c H:=dN fun Q z=>aH.len h j z
def Oy.ap(h:aM E x=some a:=by exact eT)(j:aM E y=some b:=by exact eT)(m:dr P (cfg.keep f) H t u a b=some (v,H'):=by exact lF):cE P cfg f (.call ⟨.builtin .append,#[x,y],#[t,u]⟩) E H v H':=dN fun Q z=>mG h j m z
def Oy.mi{k:IntKind}{Y:Int}(h:aM E x=some (.int k J):=by exact eT)(j:aM E y=some (.int I Y):=by exact eT):cE P cfg f (.call ⟨.builtin .min,#[x,y],L⟩) E H (.int k (min J Y)) H:=dN fun Q z=>aH.min2 h j z
def Oy.ma{k:IntKind}{Y:Int}(h:aM E x=some (.int k J):=by exact eT)(j:aM E y=some (.int I Y):=by exact eT):cE P cfg f (.call ⟨.builtin .max,#[x,y],L⟩) E H (.int k (max J Y)) H:=dN fun Q z=>aH.max2 h j z
def Ry.o{op:Op}(z:aH P cfg f l (T.set E d (some v)) H' Q)(h:cE P cfg f op E H v H':=by first|apply(Oy.mv)|apply(Oy.as)|apply(Oy.pk)|apply(Oy.ld)|apply(Oy.nc)|apply(Oy.bn)|apply(Oy.un)|apply(Oy.cv)|apply(Oy.fa)|apply(Oy.fi)|apply(Oy.ia)|apply(Oy.ix)|apply(Oy.ex)|apply(Oy.al)|apply(Oy.bx)|apply(Oy.bd)|apply(Oy.bs)|apply(Oy.mm)|apply(Oy.ms)|apply(Oy.lu)|apply(Oy.mf)|apply(Oy.sl)|apply(Oy.ln)|apply(Oy.ap)|apply(Oy.mi)|apply(Oy.ma)):aH P cfg f (⟨some d,op,none⟩::l) E H Q:=cE.go z h
def Ry.on{op:Op}(z:aH P cfg f l E H' Q)(h:∃v,cE P cfg f op E H v H':=by first|apply(Oy.st)|apply(Oy.mu)):aH P cfg f (⟨none,op,none⟩::l) E H Q:=RL z h
theorem Ry.call{z:qN}{c:Call}{g:Operand}{k:FuncId}{cap vs ar:qB}(Z:aR P cfg k ar H fun v H'=>aH P cfg f l (a0 E z v) H' Q)(L:c.callee=.value g:=by rfl)(hg:aM E g=some (.cw k cap):=by exact eT)(j:jE E c.args.toList=some vs:=by exact QX)(Y:vs++cap=ar:=by simp only[ii];first|done|exact rfl):aH P cfg f (⟨z,.call c,none⟩::l) E H Q:=bc L hg j (Y▸Z)
def eA:=@Ry.call
def Ry.gu{op:Op}{t:Bool}{v:AV}{R:Prop}(Z:R)(h:some (E.at s)=some v:=by exact eT)(j:v=dq:=by with_reducible rfl)(e:aH P cfg f l (a0 E z dq) H Q=R:=by exact vV):aH P cfg f (⟨z,op,some (s,t)⟩::l) E H Q:=aH.cN h j (e▸Z)
def Ry.gd{op:Op}{t:Bool}{Z R:Prop}(j:Y->q1->aH P cfg f (⟨z,op,none⟩::l) E H Q)(m:Z->q2->R)(h:E.at s=.bool t:=by exact eT)(C:(t=tb)=Y:=by(try simp only[sH,reduceCtorEq]);first|done|exact rfl)(V:(t=!tb)=Z:=by(try simp only[sH,reduceCtorEq]);first|done|exact rfl)(O:Y=q1:=by(try simp only[sI]);first|done|exact rfl)(L:Z=q2:=by(try simp only[sI]);first|done|exact rfl)(e:aH P cfg f l (a0 E z dq) H Q=R:=by exact vV):aH P cfg f (⟨z,op,some (s,tb)⟩::l) E H Q:=aH.guard h (fun k=>j (C▸k) (O▸C▸k)) (fun k=>e▸m (V▸k) (L▸V▸k))
def cR:=@Ry.gd
def Ry.gt{op:Op}{t:Bool}{Q:List Rc->aw->Hp->Prop}{R:Prop}(j:Y->q1->dD P cfg f (⟨z,op,none⟩::l) Z E H Q)(m:V->q2->R)(h:E.at s=.bool t:=by exact eT)(C:(t=tb)=Y:=by(try simp only[sH,reduceCtorEq]);first|done|exact rfl)(O:(t=!tb)=V:=by(try simp only[sH,reduceCtorEq]);first|done|exact rfl)(L:Y=q1:=by(try simp only[sI]);first|done|exact rfl)(J:V=q2:=by(try simp only[sI]);first|done|exact rfl)(e:dD P cfg f l (Z++[⟨op,false,E,H,dq,H⟩]) (a0 E z dq) H Q=R:=by exact vV):dD P cfg f (⟨z,op,some (s,tb)⟩::l) Z E H Q:=dD.guard h (fun k=>j (C▸k) (L▸C▸k)) (fun k=>e▸m (O▸k) (J▸O▸k))
def xr:=@Ry.gt
def Ry.gv{op:Op}{Q:List Rc->aw->Hp->Prop}{R:Prop}(Y:R)(h:E.at s=dq:=by exact eT)(e:dD P cfg f l (Z++[⟨op,false,E,H,dq,H⟩]) (a0 E z dq) H Q=R:=by exact vV):dD P cfg f (⟨z,op,some (s,tb)⟩::l) Z E H Q:=dD.cN h (e▸Y)
def Ry.cd{z j:SC}{Q:AX->aw->Hp->Prop}{t:Bool}{Z:Prop}(O:Y->q1->bX P cfg f N z E H Q)(m:Z->q2->bX P cfg f N j E H Q)(I:aM E x=some (.bool t):=by exact eT)(C:(t=true)=Y:=by(try simp only[sH,reduceCtorEq]);first|done|exact rfl)(V:(t=false)=Z:=by(try simp only[sH,reduceCtorEq]);first|done|exact rfl)(L:Y=q1:=by(try simp only[sI]);first|done|exact rfl)(J:Z=q2:=by(try simp only[sI]);first|done|exact rfl):bX P cfg f N (.cond x z j) E H Q:=bX.cond I (fun k=>O (C▸k) (L▸C▸k)) (fun k=>m (V▸k) (J▸V▸k))
def a2:=@Ry.cd
def eE(h:p:=by exact Lo):p:=h
def RM(h:p:=by first|(simp only[aK,bb,tyF,Nat.reduceBEq,Nat.reduceAdd,Nat.reduceLeDiff, *];done)|rfl):p:=h
def cS(h:p:=by((try simp only[aK,Nat.reduceBEq, *]);first|done|with_reducible rfl)):p:=h
def za(h:p:=by((try simp only[aK,bb,tyF,Nat.reduceBEq,Nat.reduceAdd,Nat.reduceLeDiff, *]);first|done|with_reducible rfl)):p:=h
def aO(h:p:=by((try simp only[aK,Nat.reduceBEq,dR,eh, *]);first|done|with_reducible rfl)):p:=h
def rS(h:p:=by((try simp only[aK,bb,tyF,Nat.reduceBEq,Nat.reduceAdd,Nat.reduceLeDiff,dR,eh, *]);first|done|with_reducible rfl)):p:=h
def bj(h:p:=by((try simp only[aK,Nat.reduceBEq, *,-hK]);first|done|with_reducible rfl)):p:=h
def bm(h:p:=by((try simp only[aK,Nat.reduceBEq,jE,Lr, *,-hK]);first|done|with_reducible rfl)):p:=h
def qk{P:Program}{cfg:Cfg}{f:FuncId}{E:aw}{H:Hp}{Q:aw->Hp->Prop}{d:qN}{c:Call}{g:Operand}{k:FuncId}{cap ws:qB}{l:List SOp}(h:aR P cfg k ws H fun v H'=>aH P cfg f l (a0 E d v) H' Q)(i:c.callee=.value g:=by exact rfl)(j:aM E g=some (.cw k cap):=by exact bj)(m:jE E c.args.toList=some vs:=by exact bm)(e:vs++cap=ws:=by(try simp only[ii]);first|done|exact rfl):aH P cfg f (⟨d,.call c,none⟩::l) E H Q:=bc i j m (e▸h)
def qj{P:Program}{cfg:Cfg}{f:FuncId}{E:aw}{H:Hp}{Q:aw->Hp->Prop}{d:qN}{c:Call}{g:Operand}{k:FuncId}{cap ws:qB}{l:List SOp}(h:aR P cfg k ws H fun v H'=>aH P cfg f l (a0 E d v) H' Q)(i:c.callee=.value g:=by exact rfl)(j:aM E g=some (.cw k cap):=by exact bj)(m:jE E c.args.toList=some vs:=by exact bm)(e:vs++cap=ws:=by(try simp only[bq]);first|done|exact rfl):aH P cfg f (⟨d,.call c,none⟩::l) E H Q:=bc i j m (e▸h)
def aE(h:p:=by first|exact .inl rfl|exact .inr rfl|exact .inl trivial|exact .inr trivial):p:=h
def qi{A:Prop}{a:Option qB}{v:qB}{R:qB->Prop}{T:Prop}(h:T)(i:A:=by exact aE)(j:a=some v:=by exact aO)(k:R v=T:=by(try simp only[aD]);first|done|exact rfl):A/\∃vs,a=some vs/\R vs:=⟨i,v,j,k▸h⟩
def aW(h:p:=by simp only[bz,a7,aV,aK,bb,tyF,Nat.reduceBEq,Nat.reduceAdd,Nat.reduceLeDiff, *]):p:=h
def b8(h:p:=by(try simp only[aS,bK,cL,bR,Nat.reduceAdd]);omega):p:=h
def LN{Q:AX->aw->Hp->Prop}{R:Prop}(h:R)(e:Q .normal E H=R:=by exact GS):bX P cfg f N .skip E H Q:=bX.skip (e▸h)
def Rx.rt{Q:AX->aw->Hp->Prop}{R:Prop}(h:R)(e:Q .ret E H=R:=by exact GS):bX P cfg f N .ret E H Q:=bX.ret (e▸h)
def Rx.xt{id:Nat}{Q:AX->aw->Hp->Prop}{R:Prop}(h:R)(e:Q (.exit id) E H=R:=by first|(simp only[oJ,uu,reduceIte];first|done|exact rfl)|(dsimp only[];first|done|exact rfl)|exact rfl):bX P cfg f N (.exit id) E H Q:=bX.exit (e▸h)
def bM(h:p:=by(refine⟨?_,?_⟩<;>simp only[tg,yN,kI,sG,xo,Lq,List.forall_mem_cons,aS,bK,aG,j6,aV]<;>(repeat' apply ad)<;>first
 |(intro r hr;cases hr;done)
 |(refine zcf (by simp only[tg,yN,kI,sG,xo,Lq];rfl) (fun hd=>?_)
   simp only[CY,tg,yN,kI,sG,xo,Lq]at hd⊢;first
   |(cases hd;done)
   |exact zb9 cS za
   |exact zca cS cS za
   |exact zcb cS za
   |exact zcc cS za
   |exact zcd cS (by simp only[mB];first|rfl|simp only[aK,Nat.reduceBEq, *]) (by simp only[mB];first|rfl|simp only[aK,Nat.reduceBEq, *]) za
   |exact zce rfl za za)
 |exact aG _
 |assumption
 |omega)):p:=h
variable {N:Nat} {ops:qE} {Q2:AX -> aw -> Hp -> Prop}
def bV(id:Nat)(need:qS)(h:∀K:List Rc->aw->Hp->Prop,(∀Y E' H',vU P cfg need Y H'->Q2 .normal E' H'->K Y E' H')->dD P cfg f l [] E H K)(Z:cfg.cD f id=.text:=by exact Lp)(m:ug ops=true:=by kernel_rfl)(V:bw N ops ops=some l:=by simp only[bw,bI,bJ,Nat.blt,Nat.ble];rfl)(J:sg ops=need:=by kernel_rfl):bX P cfg f N (.co id ops) E H Q2:=zb8 Z m V J h
def l9(id:Nat)(ord:qG)(need:qS)(h:∀K:List Rc->aw->Hp->Prop,(∀Y E' H',vU P cfg need Y H'->Q2 .normal E' H'->K Y E' H')->dD P cfg f l [] E H K)(Z:cfg.cD f id=.b7 ord:=by exact Lp)(hb:Cb ord ops=true:=by kernel_rfl)(m:ug (j5 ord ops)=true:=by kernel_rfl)(V:bw N (j5 ord ops) (j5 ord ops)=some l:=by exact QZ)(J:sg (j5 ord ops)=need:=by kernel_rfl):bX P cfg f N (.co id ops) E H Q2:=QR Z hb m V J h
def uH(id:Nat)(h:∀K:aw->Hp->Prop,(∀E' H',Q2 .normal E' H'->K E' H')->aH P cfg f l E H K)(Z:cfg.cD f id=.text:=by exact Lp)(m:GE ops=true:=by kernel_rfl)(V:bw N ops ops=some l:=by simp only[bw,bI,bJ,Nat.blt,Nat.ble];rfl):bX P cfg f N (.co id ops) E H Q2:=bX.co Z m V h
end
end Go.Proofs.YtbflaciihaijgaaGreat
namespace Go.Ab
set_option maxRecDepth 20000
open Go
variable{P:Program}{m:Nat}{args:qB}{cfg:Cfg}{g:FuncId}{J:Type}{H:Hp}{x y:Ex}
def Db:BinOp->Int->Int->qK
 | .eql,a,b=>some (a == b)
 | .neq,a,b=>some (a != b)
 | .lss,a,b=>some (decide (a<b))
 | .leq,a,b=>some (decide (a<=b))
 | .gtr,a,b=>some (decide (a > b))
 | .geq,a,b=>some (decide (a>=b))
 |_,_,_=>none
theorem zfL{op:BinOp}{a b:Int}{r:Bool}(h:Db op a b=some r)(k:IntKind):kQ op k a b=some (.bool r):=by
 cases op<;>simp only[Db,reduceCtorEq,am]at h<;>subst h<;>rfl
def RN:BinOp->Bool
 | .eql=>true
 |_=>false
structure znJ where
 op:BinOp
 a:Sx
 b:Sx
 r:Bool
variable{r:AV}
def Dc:List znJ->BinOp->Sx->Sx->qK
 |[],op,a,b=>match RN op&&Sx.beq a b with
  |true=>some true
  |false=>none
 |p::l,op,a,b=>match decide (p.op=op)&&Sx.beq p.a a&&Sx.beq p.b b with
  |true=>some p.r
  |false=>Dc l op a b
def zb(ρ:Nat->Int)(l:List znJ):Prop:=∀p∈l,Db p.op (p.a.eval ρ) (p.b.eval ρ)=some p.r
def zfM(ρ:Nat->Int):zb ρ []:=by simp[zb]
def G6{ρ:Nat->Int}{p:znJ}{l:List znJ}(h:Db p.op (p.a.eval ρ) (p.b.eval ρ)=some p.r)(L:zb ρ l):zb ρ (p::l):=by
 intro q J;rcases eJ.1 J with rfl|J
 .exact h
 .exact L q J
theorem RO{ρ:Nat->Int}:∀{l:List znJ},zb ρ l->rA (Dc l) ρ
 |[],_,op,k,a,b,r,h=>by
  simp only[Dc]at h;split at h
  .rename_i hb;simp only[am]at h;subst h;rw[bT]at hb;cases op<;>simp only[RN,dV,false_and]at hb;rw[Sx.bl hb.2];simp[kQ]
  .simp at h
 |p::l,hf,op,k,a,b,r,h=>by
  simp only[Dc]at h;split at h
  .rename_i hb;simp only[am]at h;subst h;simp only[lX]at hb;obtain⟨⟨j,m⟩,C⟩:=hb;rw[<-Sx.bl m,<-Sx.bl C,<-j];exact zfL (hf p dM) k
  .exact RO (fun q J=>hf q (dh _ J)) op k a b r h
def zfN(fs:List znJ)(pls:List (Nat×Nat×zf1))(l:List (FuncId×qB×AV)):Cfg:={keep:=fun _=>false,call:=wU l,bU:=fun f=>l.any fun p=>Nat.beq p.1 f,cD:=yH pls,cS:=Dc fs}
def zfO(fit:Fit P){ρ:Nat->Int}{fs:List znJ}{pls:List (Nat×Nat×zf1)}{l:List (FuncId×qB×AV)}(L:oI P ρ l)(z:zb ρ fs){n k:Nat}{f:FuncId}
 (Z:vB k args=true) (h:FA P (zfN fs pls l) n m f args r=true):bA P ρ f args r:=PV fit (RO z) (CE L) Z h
def gD(v:AV):Prop:=∃k,∀m,k<=m->∀H,iceV H m v=some v
def iD(l:qB):Prop:=∀v∈l,gD v
def iD.nil:iD []:=fun _ h=>rD
def iD.cons{v:AV}{l:qB}(h:gD v)(L:iD l):iD (v::l):=fun w hw=>by
 rcases eJ.1 hw with rfl|hw
 .exact h
 .exact L _ hw
theorem iD.dF:∀{l:qB},iD l->∃k,∀m,k<=m->∀H,iceL (iceV H m) l=some l
 |[],_=>⟨0,fun _ _ _=>rfl⟩
 |v::l,h=>by
  obtain⟨k1,j⟩:=h v dM;obtain⟨k2,Z⟩:=iD.dF (l:=l) fun w hw=>h w (dh _ hw)
  exact⟨max k1 k2,fun m Y H=>by simp only[iceL,j m ac H,Z m ac H]⟩
theorem RP:∀{l:List qB},(∀Z∈l,iD Z)->∃k,∀m,k<=m->∀H,wT (iceV H m) l=some l
 |[],_=>⟨0,fun _ _ _=>rfl⟩
 |v::l,h=>by
  obtain⟨k1,j⟩:=(h v dM).dF;obtain⟨k2,Y⟩:=RP (l:=l) fun w hw=>h w (dh _ hw)
  exact⟨max k1 k2,fun m V H=>by simp only[wT,j m ac H,Y m ac H]⟩
def gD.one{v:AV}(h:∀m H,iceV H (m+1) v=some v):gD v:=⟨1,fun m Y H=>by
 obtain⟨m,rfl⟩:∃k,m=k+1:=⟨m-1,ac⟩;exact h m H⟩
theorem gD.int(k:IntKind)(n:Int):gD (.int k n):=.one fun _ _=>rfl
theorem gD.bool(b:Bool):gD (.bool b):=.one fun _ _=>rfl
theorem gD.ay(s:qD):gD (.ay s):=.one fun _ _=>rfl
theorem gD.ao:gD .ao:=.one fun _ _=>rfl
def gD.aE{l:List qB}(h:∀Z∈l,iD Z):gD (.aE l):=by
 obtain⟨k,z⟩:=RP h;refine⟨k+1,fun m Y H=>?_⟩;obtain⟨m,rfl⟩:∃k,m=k+1:=⟨m-1,ac⟩;simp only[iceV,z m ac H]
def gD.agg{l:qB}(h:iD l):gD (.agg l):=by
 obtain⟨k,z⟩:=h.dF;refine⟨k+1,fun m Y H=>?_⟩;obtain⟨m,rfl⟩:∃k,m=k+1:=⟨m-1,ac⟩;simp only[iceV,z m ac H]
def gD.bH{l:qB}(h:iD l):gD (.bH l):=by
 obtain⟨k,z⟩:=h.dF;refine⟨k+1,fun m Y H=>?_⟩;obtain⟨m,rfl⟩:∃k,m=k+1:=⟨m-1,ac⟩;simp only[iceV,z m ac H]
theorem gD.map{J:Type}{l:List J}{f:J->qB}(h:∀x∈l,iD (f x)):gD (.aE (l.map f)):=.aE fun Z hr=>by
 grind
def RQ(h:iD args):∃k,vB k args=true:=by
 obtain⟨k,z⟩:=h.dF;exact⟨k,by unfold vB;rw[z k (aG _) bZ];exact vO args⟩
def RR(fit:Fit P){ρ:Nat->Int}(J:rA cfg.cS ρ)(L:∀f args r,cfg.call f args=some r->bA P ρ f args r){args:qB}{r:AV}
 (Z:iD args) (hr:gD r) (h:aR P cfg g args bZ fun v _=>v=r):bA P ρ g args r:=by
 obtain⟨k,z⟩:=RQ Z;obtain⟨m,Y⟩:=hr;exact P7 (m:=m) fit J L z (a8 (fun v H' e=>aU) h)
def xu(fit:Fit P){ρ:Nat->Int}(J:rA cfg.cS ρ)(L:∀f args r,cfg.call f args=some r->bA P ρ f args r){args:qB}{r:AV}
 (Z:iD args) (h:aR P cfg g args bZ fun v H'=>iceV H' m v=some r):bA P ρ g args r:=by
 obtain⟨k,z⟩:=RQ Z;exact P7 (m:=m) fit J L z h
structure En where
 f:FuncId
 bU:Bool
 sp:qB->qI
variable{f:FuncId}
abbrev qH:=List En
variable{l:qH}
def dU:qH->FuncId->qB->qI
 |[],_,_=>none
 |e::l,f,args=>match Nat.beq e.f f with
  |true=>e.sp args
  |false=>dU l f args
def mc:qH->FuncId->Bool
 |[],_=>false
 |e::l,f=>match Nat.beq e.f f with
  |true=>e.bU
  |false=>mc l f
noncomputable def aA(pls:List (Nat×Nat×zf1))(l:qH):Cfg:={keep:=fun _=>false,call:=dU l,bU:=mc l,cD:=yH pls}
def de(P:Program)(ρ:Nat->Int)(e:En):Prop:=∀I r,e.sp I=some r->bA P ρ e.f I r
def gX(P:Program)(ρ:Nat->Int):qH->Prop
 |[]=>True
 |e::l=>de P ρ e/\gX P ρ l
theorem gX.cu{P:Program}{ρ:Nat->Int}:∀{l:qH},gX P ρ l->∀f I r,dU l f I=some r->bA P ρ f I r
 |[],_,_,_,_,h=>by simp[dU]at h
 |e::l,hl,f,I,r,h=>by
  simp only[dU]at h;split at h
  .rename_i z;rw[<-tm z];exact hl.1 I r h
  .exact gX.cu hl.2 f I r h
noncomputable def co(ok:J->Prop)(enc:J->qB)(out:J->AV)(args:qB):qI:=open Classical in
 if h:∃x,ok x/\enc x=args then some (out (Classical.choose h))else none
theorem LO{J:Type}{ok:J->Prop}{enc:J->qB}{out:J->AV}(j:∀x y,enc x=enc y->x=y){x:J}(I:ok x):co ok enc out (enc x)=some (out x):=by
 unfold co;have h:∃y,ok y/\enc y=enc x:=⟨x,I,rfl⟩
 grind
theorem LQ{J:Type}{ok:J->Prop}{enc:J->qB}{out:J->AV}(h:∀x,ok x->enc x≠args):co ok enc out args=none:=by
 unfold co;simp_all
theorem dA{ρ:Nat->Int}{J:Type}{ok:J->Prop}{ice:Bool}{enc:J->qB}{out:J->AV}(h:∀x,ok x->bA P ρ f (enc x) (out x)):de P ρ ⟨f,ice,co ok enc out⟩:=fun I r hr=>by
 change co ok enc out I=some r at hr;unfold co at hr;split at hr
 .grind
 .simp at hr
attribute [irreducible] co
def aR.kn(h:cfg.call g args=some r):aR P cfg g args H fun v H'=>v=r/\H'=H:=aR.bj h ⟨rfl,rfl⟩
def cQ{pls:List (Nat×Nat×zf1)}{J:Type}{ok:J->Prop}{enc:J->qB}{out:J->AV}(j:∀x y,enc x=enc y->x=y){x:J}(L:dU l g (enc x)=co ok enc out (enc x))(I:ok x):
 aR P (aA pls l) g (enc x) H fun v H'=>v=out x/\H'=H:=aR.kn Q0
def LR{pls:List (Nat×Nat×zf1)}{J:Type}{ok:J->Prop}{enc:J->qB}{out:J->AV}(j:∀x y,enc x=enc y->x=y){x:J}(L:∀V,dU l g V=co ok enc out V)(O:mc l g=true)(I:ok x){H':Hp}
 (Y:∀y,ok y->enc y≠args) (m:iV (fJ 100) args H=some (enc x,H')) :
 aR P (aA pls l) g args H fun v Z=>v=out x/\(Z=H'\/Z=H):=P6 (by show dU l g args=none;rw[L];exact LQ Y) O rfl m Q0 ⟨rfl,.inl rfl⟩ fun _=>⟨rfl,.inr rfl⟩
def zd{ρ:Nat->Int}(fit:Fit P){pls:List (Nat×Nat×zf1)}(L:gX P ρ l)(sz:J->Nat){ok:J->Prop}{enc:J->qB}{out:J->AV}
 (m:∀x,ok x->iD (enc x)) (hr:∀x,ok x->gD (out x))
 (h:∀x,ok x->aR P (aA pls (⟨f,false,co (fun y=>ok y/\sz y<sz x) enc out⟩::l)) f (enc x) bZ fun v _=>v=out x):∀x,ok x->bA P ρ f (enc x) (out x):=by
 have j:∀n x,sz x<n->ok x->bA P ρ f (enc x) (out x):=by
  intro n;induction n with
  |zero=>intro x Z;omega
  |succ n ih=>
   intro x Z z;exact RR (cfg:=aA pls (⟨f,false,co (fun y=>ok y/\sz y<sz x) enc out⟩::l)) fit (rG ρ) (fun g I r hg=>gX.cu (l:=⟨f,false,co (fun y=>ok y/\sz y<sz x) enc out⟩::l) ⟨dA fun y O=>ih y ac O.1,L⟩ g I r hg) (m x z) (hr x z) (h x z)
 exact fun x=>j (sz x+1) x (cn _)
def fF{ρ:Nat->Int}(fit:Fit P){pls:List (Nat×Nat×zf1)}(L:gX P ρ l)(m:iD args)(hr:gD r)(h:aR P (aA pls l) f args bZ fun v _=>v=r):bA P ρ f args r:=
 RR fit (rG ρ) (fun g V r hg=>gX.cu L g V r hg) m hr h
def Ex.pure(x:Ex):iD x.cells:=by
 have j:∀n (x:Ex),x.sz<n->iD x.cells:=by
  intro n;induction n with
  |zero=>intro x h;omega
  |succ n ih=>
   intro x h;rw[tx];refine .cons (.int _ _) (.cons (.int _ _) (.cons (.ay _) (.cons (.int _ _) (.cons (.map fun y O=>ih y ?_) .nil))));have:=ux O;have:=x.a9;omega
 exact j _ x (cn _)
def G7(l:qM):gD (.aE (l.map Ex.cells)):=.map fun x _=>x.pure
def St.pure(x:St):iD x.cells:=by
 have j:∀n (x:St),x.sz<n->iD x.cells:=by
  intro n;induction n with
  |zero=>intro x h;omega
  |succ n ih=>
   intro x h;rw[yK];have:=x.a9;refine .cons (.int _ _) (.cons (.ay _) (.cons (.ay _) (.cons (.int _ _) (.cons (.int _ _) (.cons (.int _ _) (.cons (.ay _) (.cons (.int _ _) (.cons (G7 _) (.cons (.int _ _) (.cons (.int _ _) (.cons (.ay _) (.cons (.int _ _) (.cons (G7 _) (.cons (G7 _) (.cons (.map fun y O=>ih y ?_) (.cons (.map fun y O=>ih y ?_) .nil))))))))))))))))
   .have:=tz O;omega
   .have:=tz O;omega
 exact j _ x (cn _)
def Dd(l:qJ):gD (.aE (l.map St.cells)):=.map fun x _=>x.pure
def De(l:qC):gD (gV l):=.map fun x _=>.cons (.ay _) .nil
def Fu.pure(x:Fu):iD x.cells:=by
 rw[CM];exact .cons (.ay _) (.cons (De _) (.cons (De _) (.cons (Dd _) (.cons (.int _ _) (.cons (.int _ _) (.cons (.ay _) (.cons (.int _ _) (.cons (G7 _) .nil))))))))
def Ar.pure(x:Ar):iD x.cells:=.cons (.ay _) (.cons (.int _ _) .nil)
def Pr.pure(x:Pr):iD x.cells:=.cons (.map fun x _=>x.pure) (.cons (.map fun x _=>x.pure) .nil)
theorem pN{J β:Type}{f:J->β}:∀{a b:List J},(∀x∈a,∀y,f x=f y->x=y)->a.map f=b.map f->a=b
 |[],[],_,_=>rfl
 |[],_::_,_,h=>by simp at h
 |_::_,[],_,h=>by simp at h
 |x::a,y::b,hf,h=>by
  simp only[eC,eX]at h;rw[hf x dM y h.1,pN (fun z j=>hf z (dh _ j)) h.2]
def Ex.ext'(L:x.az=y.az)(j:x.n=y.n)(m:x.name=y.name)(C:x.op=y.op)(Z:x.ak=y.ak):x=y:=by
 cases x;cases y;simp only[Ex.az,Ex.n,Ex.name,Ex.op,Ex.ak]at *;simp[*]
def Ex.inj(h:x.cells=y.cells):x=y:=by
 have j:∀n (x:Ex),x.sz<n->∀y,x.cells=y.cells->x=y:=by
  intro n;induction n with
  |zero=>intro x h;omega
  |succ n ih=>
   intro x h y e;rw[tx,tx]at e;simp only[eX,AV.int.injEq,AV.ay.injEq,AV.aE.injEq,j6,aV]at e;obtain⟨Y,C,V,O,L⟩:=e;refine Ex.ext' Y C V O (pN (fun z Z=>ih z ?_) L);have:=ux Z;have:=x.a9;omega
 exact j _ x (cn _) y h
def G8{a b:qM}(h:a.map Ex.cells=b.map Ex.cells):a=b:=pN (fun _ _ _=>Ex.inj) h
def St.ext'{x y:St}(L:x.az=y.az)(j:x.name=y.name)(m:x.to=y.to)(C:x.n=y.n)(Z:x.bz=y.bz)(z:x.value=y.value)(O:x.args=y.args)(V:x.bm=y.bm)(Y:x.bO=y.bO):x=y:=by
 cases x;cases y;simp only[St.az,St.name,St.to,St.n,St.bz,St.value,St.args,St.bm,St.bO]at *;simp[*]
def St.inj{x y:St}(h:x.cells=y.cells):x=y:=by
 have Z:∀n (x:St),x.sz<n->∀y,x.cells=y.cells->x=y:=by
  intro n;induction n with
  |zero=>intro x h;omega
  |succ n ih=>
   intro x h y e;have hs:=x.a9;rw[yK,yK]at e;simp only[eX,AV.int.injEq,AV.ay.injEq,AV.aE.injEq,j6,aV]at e;obtain⟨Y,C,V,O,fD,aI,a6,cp,dO,L,J,I,m,b4,e6,e7,e8⟩:=e;refine St.ext' Y C V O (Ex.ext' fD aI a6 cp (G8 dO)) (Ex.ext' L J I m (G8 b4)) (G8 e6) (pN (fun z j=>ih z ?_) e7) (pN (fun z j=>ih z ?_) e8)
   .have:=tz j;omega
   .have:=tz j;omega
 exact Z _ x (cn _) y h
def G9{a b:qJ}(h:a.map St.cells=b.map St.cells):a=b:=pN (fun _ _ _=>St.inj) h
def Df{a b:qC}(h:(a.map fun s=>[AV.ay s])=b.map fun s=>[AV.ay s]):a=b:=pN (fun x _ y e=>yY) h
def Fu.inj{x y:Fu}(h:x.cells=y.cells):x=y:=by
 obtain⟨n,p,l,b,v⟩:=x;obtain⟨I,m,l',b',v'⟩:=y;rw[CM,CM]at h;simp only[eX,AV.int.injEq,AV.ay.injEq,AV.aE.injEq,j6,aV]at h;obtain⟨Z,C,V,O,j,Y,z,L,J⟩:=h;rw[Z,Df C,Df V,G9 O,Ex.ext' j Y z L (G8 J)]
def Ar.inj{x y:Ar}(h:x.cells=y.cells):x=y:=by
 obtain⟨n,p⟩:=x;obtain⟨C,V⟩:=y;simp only[Ar.cells,eX,AV.int.injEq,AV.ay.injEq,j6,aV]at h;rw[h.1,h.2]
def Pr.inj{x y:Pr}(h:x.cells=y.cells):x=y:=by
 obtain⟨n,p⟩:=x;obtain⟨C,V⟩:=y;simp only[Pr.cells,eX,AV.aE.injEq,aV]at h;rw[pN (fun _ _ _=>Ar.inj) h.1,pN (fun _ _ _=>Fu.inj) h.2]
def Dg(l:qA):gD (iz l):=.map fun x _=>.cons (.int _ _) .nil
def Nd.pure(x:Nd):iD x.cells:=.cons (.int _ _) (.cons (.int _ _) (.cons (Dg _) .nil))
def Dh:=@Nd.pure
def Gr.pure(x:Gr):iD x.cells:=.cons (.ay _) (.cons (.int _ _) (.cons (.map fun y _=>y.pure) (.cons (.int _ _) (.cons (.int _ _) .nil))))
def Un.pure(x:Un):iD x.cells:=.cons (.map fun y _=>y.pure) (.cons (.map fun y _=>y.pure) .nil)
def Di:=@Un.pure
def RS{a b:qA}(h:(a.map fun n=>[AV.int .i64 n])=b.map fun n=>[AV.int .i64 n]):a=b:=pN (fun x _ y e=>yY) h
def Nd.inj{x y:Nd}(h:x.cells=y.cells):x=y:=by
 obtain⟨n,p,k⟩:=x;obtain⟨C,V,k'⟩:=y;simp only[Nd.cells,eX,AV.int.injEq,AV.aE.injEq,j6,aV]at h;rw[h.1,h.2.1,RS h.2.2]
def xw:=@Nd.inj
def Gr.inj{x y:Gr}(h:x.cells=y.cells):x=y:=by
 obtain⟨n,p,l,v,s⟩:=x;obtain⟨Y,V,O,L,I⟩:=y;simp only[Gr.cells,eX,AV.int.injEq,AV.ay.injEq,AV.aE.injEq,j6,aV]at h;obtain⟨j,m,C,Z,z⟩:=h;rw[j,m,pN (fun _ _ _=>xw) C,Z,z]
def Un.inj{x y:Un}(h:x.cells=y.cells):x=y:=by
 obtain⟨n,p⟩:=x;obtain⟨C,V⟩:=y;simp only[Un.cells,eX,AV.aE.injEq,aV]at h;rw[pN (fun _ _ _=>Ar.inj) h.1,pN (fun _ _ _=>Gr.inj) h.2]
def xy(n:Int):Bool:=(decide (97<=n)&&decide (n<=122))||(decide (65<=n)&&decide (n<=90))||decide (n=95)
def vX(n:Int):Bool:=decide (48<=n)&&decide (n<=57)
def xz(b:UInt8):Bool:=xy b.toNat||vX b.toNat
def uI:qD->Nat
 |[]=>0
 |b::s=>if xz b then uI s+1 else 0
def xA(s:qD):Bool:=decide (1<=uI s)&&decide (uI s=s.length)&&decide (s.length<=16)&&(match s with|b::_=>!vX b.toNat|[]=>true)
def ze(s:qD):Bool:=decide (s=[97,114,114,97,121])||decide (s=[102,117,110,99])||decide (s=[118,97,114])||decide (s=[114,101,116,117,114,110])||decide (s=[105,102])||decide (s=[101,108,115,101])||decide (s=[119,104,105,108,101])||decide (s=[111,117,116])||decide (s=[116,114,97,112])
def io(s:qD):Bool:=xA s && !ze s
end Go.Ab
