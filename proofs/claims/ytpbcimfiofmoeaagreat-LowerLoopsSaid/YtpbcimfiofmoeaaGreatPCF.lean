/- Parts: Facts, AbFor. -/
import Derived.KernelRfl
import Derived.Test.YtpbcimfiofmoeaaGreatPCE
import Derived.Test.YtpbcimfiofmoeaaGreatRows
set_option linter.unusedSimpArgs false
set_option linter.unusedVariables false
set_option linter.unusedSectionVars false
set_option linter.defProp false
set_option maxHeartbeats 32000000
namespace Go.Ab
set_option maxRecDepth 20000
open Go
theorem xn{P:Prop}(h:P:=by cases k<;>kernel_rfl):P:=h
def ad:=@And.intro
def iC:=@Bool.not_false
def fy:=@Bool.true_and
def a0:=@and_true
def gV:=@Int.toNat_natCast
end Go.Ab
namespace Go.Proofs.YtpbcimfiofmoeaaGreat
set_option maxRecDepth 20000
open Go Go.Ab
def zfo:=ad @RK (ad @List.toList_toArray.{0} (ad @zgj (ad @qQ (ad @zhR (ad @jT (ad @iC (ad @List.length_map.{0,0} (ad @Int.natCast_zero (ad @QL (ad @QM (ad @QN (ad @QO (ad @QP (ad @jx (ad @cond_true.{1} (ad @cond_false.{1} (@b9)))))))))))))))))
def zfv:=ad @Ex.clen (ad @Ex.c0 (ad @Ex.c1 (ad @Ex.c2 (ad @Ex.c3 (ad @Ex.c4 (ad @Ex.whole (ad @Ex.one (ad @St.clen (ad @St.c0 (ad @St.c1 (ad @St.c2 (ad @St.c3 (ad @St.c4 (ad @St.c5 (ad @St.c6 (ad @St.c7 (ad @St.c8 (ad @St.c9 (ad @St.c10 (ad @St.c11 (ad @St.c12 (ad @St.c13 (ad @St.c14 (ad @St.c15 (ad @St.c16 (ad @St.whole (ad @St.one (ad @RV (ad @St.part_value (ad @Fu.clen (ad @Fu.c0 (ad @Fu.c1 (ad @Fu.c2 (ad @Fu.c3 (ad @Fu.c4 (ad @Fu.c5 (ad @Fu.c6 (ad @Fu.c7 (ad @Fu.c8 (ad @Fu.whole (ad @Fu.one (ad @Fu.part_value (ad @Ar.clen (ad @Ar.c0 (ad @Ar.c1 (ad @Ar.whole (ad @Ar.one (ad @Pr.clen (ad @Pr.c0 (ad @Pr.c1 (ad @Pr.whole (ad @Pr.one (ad @Tk.clen (ad @Tk.c0 (ad @Tk.c1 (ad @Tk.c2 (ad @Tk.whole (ad @Tk.one (ad @Nd.clen (ad @Nd.c0 (ad @Nd.c1 (ad @Nd.c2 (ad @Nd.whole (ad @Nd.one (ad @Gr.clen (ad @Gr.c0 (ad @Gr.c1 (ad @Gr.c2 (ad @Gr.c3 (ad @Gr.c4 (ad @Gr.whole (ad @Gr.one (ad @Un.clen (ad @Un.c0 (ad @Un.c1 (ad @Un.whole (ad @Un.one (ad @RC (ad @RD (ad @RE (ad @RF (ad @List.getElem?_drop.{0} (ad @qT (ad @if_true.{1} (ad @Dr (ad @Dq (ad @HW (ad @Rg (ad @cells_int (ad @HX (ad @Rh (ad @Rk (ad @Rl (ad @Rm (ad @Rn (ad @Ro (ad @Rp (ad @Rq (ad @Rr (ad @Rt (ad @Ru (ad @Rv (ad @Rw (ad @Rz (ad @RA (ad @RB (ad @List.all_cons.{0} (ad @List.all_nil.{0} (ad @jV (ad @fy (ad @a0 (ad @kA (ad @dZ (ad @aE (ad @List.nil_append.{0} (ad @List.append_nil.{0} (ad @List.cons_append.{0} (ad @zfw (ad @zfI (ad @zgj (ad @beq_self_eq_true.{0} (ad @Ds (ad @Dt (ad @HY (ad @jS (ad @List.getElem?_map.{0,0} (ad @Option.map_some.{0,0} (ad @Re (ad @Rf (ad @Rd (ad @Q8 (ad @Q9 (ad @get_set (ad @tF (ad @List.getElem?_cons_succ.{0} (ad @List.getElem?_cons_zero.{0} (ad @List.drop_succ_cons.{0} (ad @List.drop_zero.{0} (ad @List.take_succ_cons.{0} (ad @List.take_zero.{0} (ad @List.length_cons.{0} (ad @List.length_nil.{0} (ad @Int.natCast_nonneg (ad @gV (ad @QQ (ad @QR (ad @QS (ad @QT (ad @QU (ad @QV (ad @QW (ad @QX (ad @QY (ad @QZ (ad @Q0 (ad @Q1 (ad @Q3 (ad @Q4 (ad @Q5 (@Q6))))))))))))))))))))))))))))))))))))))))))))))))))))))))))))))))))))))))))))))))))))))))))))))))))))))))))))))))))))))))))))))))))))))))))))))))))))))))))))))))
structure Plain (cfg:Cfg) (f:FuncId):Prop where
 call:∀args,cfg.call f args=none
 ice:cfg.ice f=false
 froz:cfg.froz f=false
theorem RW:zfF Tryz.prog 2=some 1:=aj
theorem RX:zgo Tryz.prog 2=some 8:=aj
theorem RY(cs:List AV)(o:Nat):zfy Tryz.prog 2 cs o=cs[o]?:=zhf Tryz.underlying2 rfl cs o
theorem RZ:zge Tryz.prog 2=some [(.int .i64 0)]:=aj
def ej:=ad @RW (ad @RY (ad @RX (@RZ)))
theorem jy:zfF Tryz.prog 3=some 1:=aj
theorem pe:zgo Tryz.prog 3=some 8:=aj
theorem R0(cs:List AV)(o:Nat):zfy Tryz.prog 3 cs o=cs[o]?:=zhf Tryz.underlying3 rfl cs o
theorem ph:zge Tryz.prog 3=some [(.int .i64 0)]:=aj
def cN:=ad @jy (ad @R0 (ad @pe (@ph)))
theorem z6:zfF Tryz.prog 4=some 1:=aj
theorem Ig:zgo Tryz.prog 4=some 1:=aj
theorem Sa(cs:List AV)(o:Nat):zfy Tryz.prog 4 cs o=cs[o]?:=zhf Tryz.underlying4 rfl cs o
theorem Ih:zge Tryz.prog 4=some [(.bool false)]:=aj
def tJ:=ad @z6 (ad @Sa (ad @Ig (@Ih)))
theorem Dx:zfF Tryz.prog 5=some 1:=aj
theorem Dy:zgo Tryz.prog 5=some 1:=aj
theorem Sb(cs:List AV)(o:Nat):zfy Tryz.prog 5 cs o=cs[o]?:=zhf Tryz.underlying5 rfl cs o
theorem Dz:zge Tryz.prog 5=some [(.int .u8 0)]:=aj
def xo:=ad @Dx (ad @Sb (ad @Dy (@Dz)))
theorem DA:zfF Tryz.prog 9=some 1:=aj
theorem DB:zgo Tryz.prog 9=some 16:=aj
theorem Sd(cs:List AV)(o:Nat):zfy Tryz.prog 9 cs o=cs[o]?:=zhf Tryz.underlying9 rfl cs o
theorem DC:zge Tryz.prog 9=some [(.str [])]:=aj
theorem Se(H:Hp)(s:List UInt8):zf9 Tryz.prog H 9 (.str s)=some (.int .i64 s.length):=Q7 Tryz.underlying9 s
theorem Sf(s:List UInt8){n:Int}(z:0<=n)(k:IntKind):oS Tryz.prog 9 (.str s) (.int k n)=zV (s[n.toNat]?):=Ra Tryz.underlying9 s z k
def dH:=ad @DA (ad @Sd (ad @DB (ad @DC (ad @Se (@Sf)))))
theorem Sg:zfF Tryz.prog 22=some 1:=aj
theorem Sh:zgo Tryz.prog 22=some 24:=aj
theorem Sk(cs:List AV)(o:Nat):zfy Tryz.prog 22 cs o=cs[o]?:=zhf Tryz.underlying22 rfl cs o
theorem Sl:zge Tryz.prog 22=some [.nilS]:=aj
theorem Sn(xs:List (List AV)){n:Int}(z:0<=n)(k:IntKind):zgi Tryz.prog 22 (.lst xs) (.int k n)=kE 3 (xs[n.toNat]?):=zhQ Tryz.underlying22 (show zfF Tryz.prog 67=some 3 from by kernel_rfl) xs z k
theorem So(r o l z:Nat){n:Int}(Z:0<=n)(k:IntKind):zgi Tryz.prog 22 (.sl r o l z) (.int k n)=bif decide (n.toNat<l)then some (.ptr r (o+n.toNat*3))else none:=jm Tryz.underlying22 (show zfF Tryz.prog 67=some 3 from by kernel_rfl) r o l z Z k
theorem Sp(H:Hp)(xs:List (List AV)):zf9 Tryz.prog H 22 (.lst xs)=some (.int .i64 xs.length):=zhM Tryz.underlying22 xs
theorem Sq(H:Hp)(r o n z:Nat):zf9 Tryz.prog H 22 (.sl r o n z)=some (.int .i64 n):=zhE Tryz.underlying22 r o n z
theorem Sr(H:Hp):zf9 Tryz.prog H 22 .nilS=some (.int .i64 0):=zhH Tryz.underlying22
def iD:=ad @Sg (ad @Sk (ad @Sh (ad @Sl (ad @Sn (ad @So (ad @Sp (ad @Sq (@Sr))))))))
theorem Ss:zfF Tryz.prog 23=some 1:=aj
theorem Su:zgo Tryz.prog 23=some 24:=aj
theorem Sv(cs:List AV)(o:Nat):zfy Tryz.prog 23 cs o=cs[o]?:=zhf Tryz.underlying23 rfl cs o
theorem Sw:zge Tryz.prog 23=some [.nilS]:=aj
theorem Sy(xs:List (List AV)){n:Int}(z:0<=n)(k:IntKind):zgi Tryz.prog 23 (.lst xs) (.int k n)=kE 1 (xs[n.toNat]?):=zhQ Tryz.underlying23 (show zfF Tryz.prog 3=some 1 from by kernel_rfl) xs z k
theorem Ii(r o l z:Nat){n:Int}(Z:0<=n)(k:IntKind):zgi Tryz.prog 23 (.sl r o l z) (.int k n)=bif decide (n.toNat<l)then some (.ptr r (o+n.toNat*1))else none:=jm Tryz.underlying23 (show zfF Tryz.prog 3=some 1 from by kernel_rfl) r o l z Z k
theorem Sz(H:Hp)(xs:List (List AV)):zf9 Tryz.prog H 23 (.lst xs)=some (.int .i64 xs.length):=zhM Tryz.underlying23 xs
theorem SA(H:Hp)(r o n z:Nat):zf9 Tryz.prog H 23 (.sl r o n z)=some (.int .i64 n):=zhE Tryz.underlying23 r o n z
theorem SB(H:Hp):zf9 Tryz.prog H 23 .nilS=some (.int .i64 0):=zhH Tryz.underlying23
def eQ:=ad @Ss (ad @Sv (ad @Su (ad @Sw (ad @Sy (ad @Ii (ad @Sz (ad @SA (@SB))))))))
theorem SD:zfF Tryz.prog 24=some 1:=aj
theorem SE:zgo Tryz.prog 24=some 24:=aj
theorem SF(cs:List AV)(o:Nat):zfy Tryz.prog 24 cs o=cs[o]?:=zhf Tryz.underlying24 rfl cs o
theorem SG:zge Tryz.prog 24=some [.nilS]:=aj
theorem SH(xs:List (List AV)){n:Int}(z:0<=n)(k:IntKind):zgi Tryz.prog 24 (.lst xs) (.int k n)=kE 2 (xs[n.toNat]?):=zhQ Tryz.underlying24 (show zfF Tryz.prog 86=some 2 from by kernel_rfl) xs z k
theorem SI(r o l z:Nat){n:Int}(Z:0<=n)(k:IntKind):zgi Tryz.prog 24 (.sl r o l z) (.int k n)=bif decide (n.toNat<l)then some (.ptr r (o+n.toNat*2))else none:=jm Tryz.underlying24 (show zfF Tryz.prog 86=some 2 from by kernel_rfl) r o l z Z k
theorem SJ(H:Hp)(xs:List (List AV)):zf9 Tryz.prog H 24 (.lst xs)=some (.int .i64 xs.length):=zhM Tryz.underlying24 xs
theorem SK(H:Hp)(r o n z:Nat):zf9 Tryz.prog H 24 (.sl r o n z)=some (.int .i64 n):=zhE Tryz.underlying24 r o n z
theorem SL(H:Hp):zf9 Tryz.prog H 24 .nilS=some (.int .i64 0):=zhH Tryz.underlying24
def lP:=ad @SD (ad @SF (ad @SE (ad @SG (ad @SH (ad @SI (ad @SJ (ad @SK (@SL))))))))
theorem SM:zfF Tryz.prog 25=some 1:=aj
theorem SN:zgo Tryz.prog 25=some 24:=aj
theorem SO(cs:List AV)(o:Nat):zfy Tryz.prog 25 cs o=cs[o]?:=zhf Tryz.underlying25 rfl cs o
theorem SP:zge Tryz.prog 25=some [.nilS]:=aj
theorem SQ(xs:List (List AV)){n:Int}(z:0<=n)(k:IntKind):zgi Tryz.prog 25 (.lst xs) (.int k n)=kE 5 (xs[n.toNat]?):=zhQ Tryz.underlying25 (show zfF Tryz.prog 32=some 5 from by kernel_rfl) xs z k
theorem SR(r o l z:Nat){n:Int}(Z:0<=n)(k:IntKind):zgi Tryz.prog 25 (.sl r o l z) (.int k n)=bif decide (n.toNat<l)then some (.ptr r (o+n.toNat*5))else none:=jm Tryz.underlying25 (show zfF Tryz.prog 32=some 5 from by kernel_rfl) r o l z Z k
theorem SS(H:Hp)(xs:List (List AV)):zf9 Tryz.prog H 25 (.lst xs)=some (.int .i64 xs.length):=zhM Tryz.underlying25 xs
theorem SU(H:Hp)(r o n z:Nat):zf9 Tryz.prog H 25 (.sl r o n z)=some (.int .i64 n):=zhE Tryz.underlying25 r o n z
theorem SV(H:Hp):zf9 Tryz.prog H 25 .nilS=some (.int .i64 0):=zhH Tryz.underlying25
def xp:=ad @SM (ad @SO (ad @SN (ad @SP (ad @SQ (ad @SR (ad @SS (ad @SU (@SV))))))))
theorem Ij:zfF Tryz.prog 27=some 2:=aj
theorem SW:zgo Tryz.prog 27=some 48:=aj
theorem SX(cs:List AV)(o:Nat):zfy Tryz.prog 27 cs o=jo 2 (cs.drop o):=zhP Tryz.underlying27 rfl Ij cs o
theorem SY:zge Tryz.prog 27=some [.nilS,.nilS]:=aj
theorem SZ(r o:Nat):zfu Tryz.prog 27 (.ptr r o) 0=some (.ptr r (o+0)):=aj
theorem S0(cs:List AV):zfu Tryz.prog 27 (.iptr cs) 0=some (.iptr (cs.drop 0)):=aj
theorem S1(cs:List AV):zf5 Tryz.prog 27 (.agg cs) 0=zfy Tryz.prog 24 cs 0:=aj
theorem S8(r o:Nat):zfu Tryz.prog 27 (.ptr r o) 1=some (.ptr r (o+1)):=aj
theorem Ta(cs:List AV):zfu Tryz.prog 27 (.iptr cs) 1=some (.iptr (cs.drop 1)):=aj
theorem Tb(cs:List AV):zf5 Tryz.prog 27 (.agg cs) 1=zfy Tryz.prog 25 cs 1:=aj
def xq:=ad @Ij (ad @SX (ad @SW (ad @SY (ad @SZ (ad @S0 (ad @S1 (ad @S8 (ad @Ta (@Tb)))))))))
theorem DD:zfF Tryz.prog 32=some 5:=aj
theorem Ik:zgo Tryz.prog 32=some 64:=aj
theorem Tc(cs:List AV)(o:Nat):zfy Tryz.prog 32 cs o=jo 5 (cs.drop o):=zhP Tryz.underlying32 rfl DD cs o
theorem Il:zge Tryz.prog 32=some [(.str []),(.int .i64 0),.nilS,(.int .i64 0),(.int .i64 0)]:=aj
theorem Td(r o:Nat):zfu Tryz.prog 32 (.ptr r o) 0=some (.ptr r (o+0)):=aj
theorem Te(cs:List AV):zfu Tryz.prog 32 (.iptr cs) 0=some (.iptr (cs.drop 0)):=aj
theorem Tf(cs:List AV):zf5 Tryz.prog 32 (.agg cs) 0=zfy Tryz.prog 9 cs 0:=aj
theorem Tg(r o:Nat):zfu Tryz.prog 32 (.ptr r o) 1=some (.ptr r (o+1)):=aj
theorem Th(cs:List AV):zfu Tryz.prog 32 (.iptr cs) 1=some (.iptr (cs.drop 1)):=aj
theorem Ti(cs:List AV):zf5 Tryz.prog 32 (.agg cs) 1=zfy Tryz.prog 3 cs 1:=aj
theorem Tj(r o:Nat):zfu Tryz.prog 32 (.ptr r o) 2=some (.ptr r (o+2)):=aj
theorem Tl(cs:List AV):zfu Tryz.prog 32 (.iptr cs) 2=some (.iptr (cs.drop 2)):=aj
theorem Tm(cs:List AV):zf5 Tryz.prog 32 (.agg cs) 2=zfy Tryz.prog 22 cs 2:=aj
theorem Tn(r o:Nat):zfu Tryz.prog 32 (.ptr r o) 3=some (.ptr r (o+3)):=aj
theorem To(cs:List AV):zfu Tryz.prog 32 (.iptr cs) 3=some (.iptr (cs.drop 3)):=aj
theorem Tp(cs:List AV):zf5 Tryz.prog 32 (.agg cs) 3=zfy Tryz.prog 3 cs 3:=aj
theorem Tq(r o:Nat):zfu Tryz.prog 32 (.ptr r o) 4=some (.ptr r (o+4)):=aj
theorem Tr(cs:List AV):zfu Tryz.prog 32 (.iptr cs) 4=some (.iptr (cs.drop 4)):=aj
theorem Ts(cs:List AV):zf5 Tryz.prog 32 (.agg cs) 4=zfy Tryz.prog 3 cs 4:=aj
def u5:=ad @DD (ad @Tc (ad @Ik (ad @Il (ad @Td (ad @Te (ad @Tf (ad @Tg (ad @Th (ad @Ti (ad @Tj (ad @Tl (ad @Tm (ad @Tn (ad @To (ad @Tp (ad @Tq (ad @Tr (@Ts))))))))))))))))))
theorem Tt:zfF Tryz.prog 47=some 1:=aj
theorem Tu:zgo Tryz.prog 47=some 24:=aj
theorem Tv(cs:List AV)(o:Nat):zfy Tryz.prog 47 cs o=cs[o]?:=zhf Tryz.underlying47 rfl cs o
theorem Tw:zge Tryz.prog 47=some [.nilS]:=aj
theorem Tx(xs:List (List AV)){n:Int}(z:0<=n)(k:IntKind):zgi Tryz.prog 47 (.lst xs) (.int k n)=kE 9 (xs[n.toNat]?):=zhQ Tryz.underlying47 (show zfF Tryz.prog 65=some 9 from by kernel_rfl) xs z k
theorem Ty(r o l z:Nat){n:Int}(Z:0<=n)(k:IntKind):zgi Tryz.prog 47 (.sl r o l z) (.int k n)=bif decide (n.toNat<l)then some (.ptr r (o+n.toNat*9))else none:=jm Tryz.underlying47 (show zfF Tryz.prog 65=some 9 from by kernel_rfl) r o l z Z k
theorem Tz(H:Hp)(xs:List (List AV)):zf9 Tryz.prog H 47 (.lst xs)=some (.int .i64 xs.length):=zhM Tryz.underlying47 xs
theorem TA(H:Hp)(r o n z:Nat):zf9 Tryz.prog H 47 (.sl r o n z)=some (.int .i64 n):=zhE Tryz.underlying47 r o n z
theorem TB(H:Hp):zf9 Tryz.prog H 47 .nilS=some (.int .i64 0):=zhH Tryz.underlying47
def nF:=ad @Tt (ad @Tv (ad @Tu (ad @Tw (ad @Tx (ad @Ty (ad @Tz (ad @TA (@TB))))))))
theorem Im:zfF Tryz.prog 49=some 2:=aj
theorem TC:zgo Tryz.prog 49=some 48:=aj
theorem TD(cs:List AV)(o:Nat):zfy Tryz.prog 49 cs o=jo 2 (cs.drop o):=zhP Tryz.underlying49 rfl Im cs o
theorem TE:zge Tryz.prog 49=some [.nilS,.nilS]:=aj
theorem TF(r o:Nat):zfu Tryz.prog 49 (.ptr r o) 0=some (.ptr r (o+0)):=aj
theorem TG(cs:List AV):zfu Tryz.prog 49 (.iptr cs) 0=some (.iptr (cs.drop 0)):=aj
theorem TH(cs:List AV):zf5 Tryz.prog 49 (.agg cs) 0=zfy Tryz.prog 24 cs 0:=aj
theorem TI(r o:Nat):zfu Tryz.prog 49 (.ptr r o) 1=some (.ptr r (o+1)):=aj
theorem TJ(cs:List AV):zfu Tryz.prog 49 (.iptr cs) 1=some (.iptr (cs.drop 1)):=aj
theorem TK(cs:List AV):zf5 Tryz.prog 49 (.agg cs) 1=zfy Tryz.prog 47 cs 1:=aj
def iZ:=ad @Im (ad @TD (ad @TC (ad @TE (ad @TF (ad @TG (ad @TH (ad @TI (ad @TJ (@TK)))))))))
theorem TL:zfF Tryz.prog 53=some 1:=aj
theorem TM:zgo Tryz.prog 53=some 8:=aj
theorem TN(cs:List AV)(o:Nat):zfy Tryz.prog 53 cs o=cs[o]?:=zhf Tryz.underlying53 rfl cs o
theorem TO:zge Tryz.prog 53=some [(.int .i64 0)]:=aj
def tK:=ad @TL (ad @TN (ad @TM (@TO)))
theorem TP:zfF Tryz.prog 59=some 1:=aj
theorem TQ:zgo Tryz.prog 59=some 24:=aj
theorem TS(cs:List AV)(o:Nat):zfy Tryz.prog 59 cs o=cs[o]?:=zhf Tryz.underlying59 rfl cs o
theorem TT:zge Tryz.prog 59=some [.nilS]:=aj
theorem TU(xs:List (List AV)){n:Int}(z:0<=n)(k:IntKind):zgi Tryz.prog 59 (.lst xs) (.int k n)=kE 1 (xs[n.toNat]?):=zhQ Tryz.underlying59 (show zfF Tryz.prog 9=some 1 from by kernel_rfl) xs z k
theorem In(r o l z:Nat){n:Int}(Z:0<=n)(k:IntKind):zgi Tryz.prog 59 (.sl r o l z) (.int k n)=bif decide (n.toNat<l)then some (.ptr r (o+n.toNat*1))else none:=jm Tryz.underlying59 (show zfF Tryz.prog 9=some 1 from by kernel_rfl) r o l z Z k
theorem TV(H:Hp)(xs:List (List AV)):zf9 Tryz.prog H 59 (.lst xs)=some (.int .i64 xs.length):=zhM Tryz.underlying59 xs
theorem TW(H:Hp)(r o n z:Nat):zf9 Tryz.prog H 59 (.sl r o n z)=some (.int .i64 n):=zhE Tryz.underlying59 r o n z
theorem TX(H:Hp):zf9 Tryz.prog H 59 .nilS=some (.int .i64 0):=zhH Tryz.underlying59
def iO:=ad @TP (ad @TS (ad @TQ (ad @TT (ad @TU (ad @In (ad @TV (ad @TW (@TX))))))))
theorem TY:zfF Tryz.prog 60=some 1:=aj
theorem TZ:zgo Tryz.prog 60=some 24:=aj
theorem T0(cs:List AV)(o:Nat):zfy Tryz.prog 60 cs o=cs[o]?:=zhf Tryz.underlying60 rfl cs o
theorem T1:zge Tryz.prog 60=some [.nilS]:=aj
theorem T2(xs:List (List AV)){n:Int}(z:0<=n)(k:IntKind):zgi Tryz.prog 60 (.lst xs) (.int k n)=kE 17 (xs[n.toNat]?):=zhQ Tryz.underlying60 (show zfF Tryz.prog 96=some 17 from by kernel_rfl) xs z k
theorem T3(r o l z:Nat){n:Int}(Z:0<=n)(k:IntKind):zgi Tryz.prog 60 (.sl r o l z) (.int k n)=bif decide (n.toNat<l)then some (.ptr r (o+n.toNat*17))else none:=jm Tryz.underlying60 (show zfF Tryz.prog 96=some 17 from by kernel_rfl) r o l z Z k
theorem T4(H:Hp)(xs:List (List AV)):zf9 Tryz.prog H 60 (.lst xs)=some (.int .i64 xs.length):=zhM Tryz.underlying60 xs
theorem T5(H:Hp)(r o n z:Nat):zf9 Tryz.prog H 60 (.sl r o n z)=some (.int .i64 n):=zhE Tryz.underlying60 r o n z
theorem T6(H:Hp):zf9 Tryz.prog H 60 .nilS=some (.int .i64 0):=zhH Tryz.underlying60
def fO:=ad @TY (ad @T0 (ad @TZ (ad @T1 (ad @T2 (ad @T3 (ad @T4 (ad @T5 (@T6))))))))
theorem T7:zfF Tryz.prog 61=some 1:=aj
theorem T8:zgo Tryz.prog 61=some 24:=aj
theorem T9(cs:List AV)(o:Nat):zfy Tryz.prog 61 cs o=cs[o]?:=zhf Tryz.underlying61 rfl cs o
theorem Ua:zge Tryz.prog 61=some [.nilS]:=aj
theorem Ub(xs:List (List AV)){n:Int}(z:0<=n)(k:IntKind):zgi Tryz.prog 61 (.lst xs) (.int k n)=kE 5 (xs[n.toNat]?):=zhQ Tryz.underlying61 (show zfF Tryz.prog 63=some 5 from by kernel_rfl) xs z k
theorem Uc(r o l z:Nat){n:Int}(Z:0<=n)(k:IntKind):zgi Tryz.prog 61 (.sl r o l z) (.int k n)=bif decide (n.toNat<l)then some (.ptr r (o+n.toNat*5))else none:=jm Tryz.underlying61 (show zfF Tryz.prog 63=some 5 from by kernel_rfl) r o l z Z k
theorem Ud(H:Hp)(xs:List (List AV)):zf9 Tryz.prog H 61 (.lst xs)=some (.int .i64 xs.length):=zhM Tryz.underlying61 xs
theorem Ue(H:Hp)(r o n z:Nat):zf9 Tryz.prog H 61 (.sl r o n z)=some (.int .i64 n):=zhE Tryz.underlying61 r o n z
theorem Uf(H:Hp):zf9 Tryz.prog H 61 .nilS=some (.int .i64 0):=zhH Tryz.underlying61
def fP:=ad @T7 (ad @T9 (ad @T8 (ad @Ua (ad @Ub (ad @Uc (ad @Ud (ad @Ue (@Uf))))))))
theorem DE:zfF Tryz.prog 63=some 5:=aj
theorem Io:zgo Tryz.prog 63=some 64:=aj
theorem Ug(cs:List AV)(o:Nat):zfy Tryz.prog 63 cs o=jo 5 (cs.drop o):=zhP Tryz.underlying63 rfl DE cs o
theorem Ip:zge Tryz.prog 63=some [(.int .i64 0),(.int .i64 0),(.str []),(.int .i64 0),.nilS]:=aj
theorem Uh(r o:Nat):zfu Tryz.prog 63 (.ptr r o) 0=some (.ptr r (o+0)):=aj
theorem Ui(cs:List AV):zfu Tryz.prog 63 (.iptr cs) 0=some (.iptr (cs.drop 0)):=aj
theorem Uj(cs:List AV):zf5 Tryz.prog 63 (.agg cs) 0=zfy Tryz.prog 3 cs 0:=aj
theorem Uk(r o:Nat):zfu Tryz.prog 63 (.ptr r o) 1=some (.ptr r (o+1)):=aj
theorem Ul(cs:List AV):zfu Tryz.prog 63 (.iptr cs) 1=some (.iptr (cs.drop 1)):=aj
theorem Um(cs:List AV):zf5 Tryz.prog 63 (.agg cs) 1=zfy Tryz.prog 2 cs 1:=aj
theorem Uo(r o:Nat):zfu Tryz.prog 63 (.ptr r o) 2=some (.ptr r (o+2)):=aj
theorem Up(cs:List AV):zfu Tryz.prog 63 (.iptr cs) 2=some (.iptr (cs.drop 2)):=aj
theorem Uq(cs:List AV):zf5 Tryz.prog 63 (.agg cs) 2=zfy Tryz.prog 9 cs 2:=aj
theorem Ur(r o:Nat):zfu Tryz.prog 63 (.ptr r o) 3=some (.ptr r (o+3)):=aj
theorem Us(cs:List AV):zfu Tryz.prog 63 (.iptr cs) 3=some (.iptr (cs.drop 3)):=aj
theorem Ut(cs:List AV):zf5 Tryz.prog 63 (.agg cs) 3=zfy Tryz.prog 3 cs 3:=aj
theorem Uu(r o:Nat):zfu Tryz.prog 63 (.ptr r o) 4=some (.ptr r (o+4)):=aj
theorem Uv(cs:List AV):zfu Tryz.prog 63 (.iptr cs) 4=some (.iptr (cs.drop 4)):=aj
theorem Uw(cs:List AV):zf5 Tryz.prog 63 (.agg cs) 4=zfy Tryz.prog 61 cs 4:=aj
def eR:=ad @DE (ad @Ug (ad @Io (ad @Ip (ad @Uh (ad @Ui (ad @Uj (ad @Uk (ad @Ul (ad @Um (ad @Uo (ad @Up (ad @Uq (ad @Ur (ad @Us (ad @Ut (ad @Uu (ad @Uv (@Uw))))))))))))))))))
theorem Iq:zfF Tryz.prog 65=some 9:=aj
theorem Ux:zgo Tryz.prog 65=some 152:=aj
theorem Uy(cs:List AV)(o:Nat):zfy Tryz.prog 65 cs o=jo 9 (cs.drop o):=zhP Tryz.underlying65 rfl Iq cs o
theorem Uz:zge Tryz.prog 65=some [(.str []),.nilS,.nilS,.nilS,(.int .i64 0),(.int .i64 0),(.str []),(.int .i64 0),.nilS]:=aj
theorem UA(r o:Nat):zfu Tryz.prog 65 (.ptr r o) 0=some (.ptr r (o+0)):=aj
theorem UB(cs:List AV):zfu Tryz.prog 65 (.iptr cs) 0=some (.iptr (cs.drop 0)):=aj
theorem UC(cs:List AV):zf5 Tryz.prog 65 (.agg cs) 0=zfy Tryz.prog 9 cs 0:=aj
theorem UD(r o:Nat):zfu Tryz.prog 65 (.ptr r o) 1=some (.ptr r (o+1)):=aj
theorem UE(cs:List AV):zfu Tryz.prog 65 (.iptr cs) 1=some (.iptr (cs.drop 1)):=aj
theorem UF(cs:List AV):zf5 Tryz.prog 65 (.agg cs) 1=zfy Tryz.prog 59 cs 1:=aj
theorem UG(r o:Nat):zfu Tryz.prog 65 (.ptr r o) 2=some (.ptr r (o+2)):=aj
theorem UH(cs:List AV):zfu Tryz.prog 65 (.iptr cs) 2=some (.iptr (cs.drop 2)):=aj
theorem UI(cs:List AV):zf5 Tryz.prog 65 (.agg cs) 2=zfy Tryz.prog 59 cs 2:=aj
theorem UJ(r o:Nat):zfu Tryz.prog 65 (.ptr r o) 3=some (.ptr r (o+3)):=aj
theorem UK(cs:List AV):zfu Tryz.prog 65 (.iptr cs) 3=some (.iptr (cs.drop 3)):=aj
theorem UL(cs:List AV):zf5 Tryz.prog 65 (.agg cs) 3=zfy Tryz.prog 60 cs 3:=aj
theorem UM(r o:Nat):zfu Tryz.prog 65 (.ptr r o) 4=some (.ptr r (o+4)):=aj
theorem UN(cs:List AV):zfu Tryz.prog 65 (.iptr cs) 4=some (.iptr (cs.drop 4)):=aj
theorem UO(cs:List AV):zf5 Tryz.prog 65 (.agg cs) 4=zfy Tryz.prog 63 cs 4:=aj
def mM:=ad @Iq (ad @Uy (ad @Ux (ad @Uz (ad @UA (ad @UB (ad @UC (ad @UD (ad @UE (ad @UF (ad @UG (ad @UH (ad @UI (ad @UJ (ad @UK (ad @UL (ad @UM (ad @UN (@UO))))))))))))))))))
theorem z7:zfF Tryz.prog 67=some 3:=aj
theorem Ir:zgo Tryz.prog 67=some 40:=aj
theorem UP(cs:List AV)(o:Nat):zfy Tryz.prog 67 cs o=jo 3 (cs.drop o):=zhP Tryz.underlying67 rfl z7 cs o
theorem Is:zge Tryz.prog 67=some [(.int .i64 0),(.int .i64 0),.nilS]:=aj
theorem UQ(r o:Nat):zfu Tryz.prog 67 (.ptr r o) 0=some (.ptr r (o+0)):=aj
theorem UR(cs:List AV):zfu Tryz.prog 67 (.iptr cs) 0=some (.iptr (cs.drop 0)):=aj
theorem US(cs:List AV):zf5 Tryz.prog 67 (.agg cs) 0=zfy Tryz.prog 3 cs 0:=aj
theorem UT(r o:Nat):zfu Tryz.prog 67 (.ptr r o) 1=some (.ptr r (o+1)):=aj
theorem UU(cs:List AV):zfu Tryz.prog 67 (.iptr cs) 1=some (.iptr (cs.drop 1)):=aj
theorem UV(cs:List AV):zf5 Tryz.prog 67 (.agg cs) 1=zfy Tryz.prog 2 cs 1:=aj
theorem UW(r o:Nat):zfu Tryz.prog 67 (.ptr r o) 2=some (.ptr r (o+2)):=aj
theorem UX(cs:List AV):zfu Tryz.prog 67 (.iptr cs) 2=some (.iptr (cs.drop 2)):=aj
theorem UY(cs:List AV):zf5 Tryz.prog 67 (.agg cs) 2=zfy Tryz.prog 23 cs 2:=aj
def li:=ad @z7 (ad @UP (ad @Ir (ad @Is (ad @UQ (ad @UR (ad @US (ad @UT (ad @UU (ad @UV (ad @UW (ad @UX (@UY))))))))))))
theorem UZ:zfF Tryz.prog 71=some 1:=aj
theorem U0:zgo Tryz.prog 71=some 24:=aj
theorem U1(cs:List AV)(o:Nat):zfy Tryz.prog 71 cs o=cs[o]?:=zhf Tryz.underlying71 rfl cs o
theorem U2:zge Tryz.prog 71=some [.nilS]:=aj
theorem U3(xs:List (List AV)){n:Int}(z:0<=n)(k:IntKind):zgi Tryz.prog 71 (.lst xs) (.int k n)=kE 1 (xs[n.toNat]?):=zhQ Tryz.underlying71 (show zfF Tryz.prog 2=some 1 from by kernel_rfl) xs z k
theorem U4(r o l z:Nat){n:Int}(Z:0<=n)(k:IntKind):zgi Tryz.prog 71 (.sl r o l z) (.int k n)=bif decide (n.toNat<l)then some (.ptr r (o+n.toNat*1))else none:=jm Tryz.underlying71 (show zfF Tryz.prog 2=some 1 from by kernel_rfl) r o l z Z k
theorem U5(H:Hp)(xs:List (List AV)):zf9 Tryz.prog H 71 (.lst xs)=some (.int .i64 xs.length):=zhM Tryz.underlying71 xs
theorem U6(H:Hp)(r o n z:Nat):zf9 Tryz.prog H 71 (.sl r o n z)=some (.int .i64 n):=zhE Tryz.underlying71 r o n z
theorem U7(H:Hp):zf9 Tryz.prog H 71 .nilS=some (.int .i64 0):=zhH Tryz.underlying71
def U8:=ad @UZ (ad @U1 (ad @U0 (ad @U2 (ad @U3 (ad @U4 (ad @U5 (ad @U6 (@U7))))))))
theorem It:zfF Tryz.prog 78=some 2:=aj
theorem U9:zgo Tryz.prog 78=some 32:=aj
theorem Va(cs:List AV)(o:Nat):zfy Tryz.prog 78 cs o=jo 2 (cs.drop o):=zhP Tryz.underlying78 rfl It cs o
theorem Vb:zge Tryz.prog 78=some [.nilS,(.int .i64 0)]:=aj
theorem Vc(r o:Nat):zfu Tryz.prog 78 (.ptr r o) 0=some (.ptr r (o+0)):=aj
theorem Vd(cs:List AV):zfu Tryz.prog 78 (.iptr cs) 0=some (.iptr (cs.drop 0)):=aj
theorem Ve(cs:List AV):zf5 Tryz.prog 78 (.agg cs) 0=zfy Tryz.prog 23 cs 0:=aj
theorem Vf(r o:Nat):zfu Tryz.prog 78 (.ptr r o) 1=some (.ptr r (o+1)):=aj
theorem Vg(cs:List AV):zfu Tryz.prog 78 (.iptr cs) 1=some (.iptr (cs.drop 1)):=aj
theorem Vh(cs:List AV):zf5 Tryz.prog 78 (.agg cs) 1=zfy Tryz.prog 3 cs 1:=aj
def u6:=ad @It (ad @Va (ad @U9 (ad @Vb (ad @Vc (ad @Vd (ad @Ve (ad @Vf (ad @Vg (@Vh)))))))))
theorem z8:zfF Tryz.prog 84=some 1:=aj
theorem DF:zgo Tryz.prog 84=some 24:=aj
theorem Vi(cs:List AV)(o:Nat):zfy Tryz.prog 84 cs o=cs[o]?:=zhf Tryz.underlying84 rfl cs o
theorem DG:zge Tryz.prog 84=some [.nilS]:=aj
theorem Vj(xs:List (List AV)){n:Int}(z:0<=n)(k:IntKind):zgi Tryz.prog 84 (.lst xs) (.int k n)=kE 1 (xs[n.toNat]?):=zhQ Tryz.underlying84 (show zfF Tryz.prog 4=some 1 from by kernel_rfl) xs z k
theorem Vk(r o l z:Nat){n:Int}(Z:0<=n)(k:IntKind):zgi Tryz.prog 84 (.sl r o l z) (.int k n)=bif decide (n.toNat<l)then some (.ptr r (o+n.toNat*1))else none:=jm Tryz.underlying84 (show zfF Tryz.prog 4=some 1 from by kernel_rfl) r o l z Z k
theorem Vl(H:Hp)(xs:List (List AV)):zf9 Tryz.prog H 84 (.lst xs)=some (.int .i64 xs.length):=zhM Tryz.underlying84 xs
theorem Vm(H:Hp)(r o n z:Nat):zf9 Tryz.prog H 84 (.sl r o n z)=some (.int .i64 n):=zhE Tryz.underlying84 r o n z
theorem Vn(H:Hp):zf9 Tryz.prog H 84 .nilS=some (.int .i64 0):=zhH Tryz.underlying84
def xr:=ad @z8 (ad @Vi (ad @DF (ad @DG (ad @Vj (ad @Vk (ad @Vl (ad @Vm (@Vn))))))))
theorem z9:zfF Tryz.prog 86=some 2:=aj
theorem DH:zgo Tryz.prog 86=some 24:=aj
theorem Vo(cs:List AV)(o:Nat):zfy Tryz.prog 86 cs o=jo 2 (cs.drop o):=zhP Tryz.underlying86 rfl z9 cs o
theorem DI:zge Tryz.prog 86=some [(.str []),(.int .i64 0)]:=aj
theorem Vp(r o:Nat):zfu Tryz.prog 86 (.ptr r o) 0=some (.ptr r (o+0)):=aj
theorem Vq(cs:List AV):zfu Tryz.prog 86 (.iptr cs) 0=some (.iptr (cs.drop 0)):=aj
theorem Vr(cs:List AV):zf5 Tryz.prog 86 (.agg cs) 0=zfy Tryz.prog 9 cs 0:=aj
theorem Vs(r o:Nat):zfu Tryz.prog 86 (.ptr r o) 1=some (.ptr r (o+1)):=aj
theorem Vt(cs:List AV):zfu Tryz.prog 86 (.iptr cs) 1=some (.iptr (cs.drop 1)):=aj
theorem Vu(cs:List AV):zf5 Tryz.prog 86 (.agg cs) 1=zfy Tryz.prog 3 cs 1:=aj
def pV:=ad @z9 (ad @Vo (ad @DH (ad @DI (ad @Vp (ad @Vq (ad @Vr (ad @Vs (ad @Vt (@Vu)))))))))
theorem Vv:zfF Tryz.prog 93=some 1:=aj
theorem Vw:zgo Tryz.prog 93=some 24:=aj
theorem Vx(cs:List AV)(o:Nat):zfy Tryz.prog 93 cs o=cs[o]?:=zhf Tryz.underlying93 rfl cs o
theorem Vy:zge Tryz.prog 93=some [.nilS]:=aj
theorem Vz(xs:List (List AV)){n:Int}(z:0<=n)(k:IntKind):zgi Tryz.prog 93 (.lst xs) (.int k n)=kE 1 (xs[n.toNat]?):=zhQ Tryz.underlying93 (show zfF Tryz.prog 5=some 1 from by kernel_rfl) xs z k
theorem VA(r o l z:Nat){n:Int}(Z:0<=n)(k:IntKind):zgi Tryz.prog 93 (.sl r o l z) (.int k n)=bif decide (n.toNat<l)then some (.ptr r (o+n.toNat*1))else none:=jm Tryz.underlying93 (show zfF Tryz.prog 5=some 1 from by kernel_rfl) r o l z Z k
theorem VB(H:Hp)(xs:List (List AV)):zf9 Tryz.prog H 93 (.lst xs)=some (.int .i64 xs.length):=zhM Tryz.underlying93 xs
theorem VC(H:Hp)(r o n z:Nat):zf9 Tryz.prog H 93 (.sl r o n z)=some (.int .i64 n):=zhE Tryz.underlying93 r o n z
theorem VD(H:Hp):zf9 Tryz.prog H 93 .nilS=some (.int .i64 0):=zhH Tryz.underlying93
def Iu:=ad @Vv (ad @Vx (ad @Vw (ad @Vy (ad @Vz (ad @VA (ad @VB (ad @VC (@VD))))))))
theorem DJ:zfF Tryz.prog 96=some 17:=aj
theorem Iv:zgo Tryz.prog 96=some 248:=aj
theorem VE(cs:List AV)(o:Nat):zfy Tryz.prog 96 cs o=jo 17 (cs.drop o):=zhP Tryz.underlying96 rfl DJ cs o
theorem Iw:zge Tryz.prog 96=some [(.int .i64 0),(.str []),(.str []),(.int .i64 0),(.int .i64 0),(.int .i64 0),(.str []),(.int .i64 0),.nilS,(.int .i64 0),(.int .i64 0),(.str []),(.int .i64 0),.nilS,.nilS,.nilS,.nilS]:=aj
theorem VF(r o:Nat):zfu Tryz.prog 96 (.ptr r o) 0=some (.ptr r (o+0)):=aj
theorem VG(cs:List AV):zfu Tryz.prog 96 (.iptr cs) 0=some (.iptr (cs.drop 0)):=aj
theorem VH(cs:List AV):zf5 Tryz.prog 96 (.agg cs) 0=zfy Tryz.prog 3 cs 0:=aj
theorem VI(r o:Nat):zfu Tryz.prog 96 (.ptr r o) 1=some (.ptr r (o+1)):=aj
theorem VJ(cs:List AV):zfu Tryz.prog 96 (.iptr cs) 1=some (.iptr (cs.drop 1)):=aj
theorem VK(cs:List AV):zf5 Tryz.prog 96 (.agg cs) 1=zfy Tryz.prog 9 cs 1:=aj
theorem VL(r o:Nat):zfu Tryz.prog 96 (.ptr r o) 2=some (.ptr r (o+2)):=aj
theorem VM(cs:List AV):zfu Tryz.prog 96 (.iptr cs) 2=some (.iptr (cs.drop 2)):=aj
theorem VN(cs:List AV):zf5 Tryz.prog 96 (.agg cs) 2=zfy Tryz.prog 9 cs 2:=aj
theorem VO(r o:Nat):zfu Tryz.prog 96 (.ptr r o) 3=some (.ptr r (o+3)):=aj
theorem VP(cs:List AV):zfu Tryz.prog 96 (.iptr cs) 3=some (.iptr (cs.drop 3)):=aj
theorem VQ(cs:List AV):zf5 Tryz.prog 96 (.agg cs) 3=zfy Tryz.prog 3 cs 3:=aj
theorem VS(r o:Nat):zfu Tryz.prog 96 (.ptr r o) 4=some (.ptr r (o+4)):=aj
theorem VT(cs:List AV):zfu Tryz.prog 96 (.iptr cs) 4=some (.iptr (cs.drop 4)):=aj
theorem VU(cs:List AV):zf5 Tryz.prog 96 (.agg cs) 4=zfy Tryz.prog 63 cs 4:=aj
theorem VV(r o:Nat):zfu Tryz.prog 96 (.ptr r o) 5=some (.ptr r (o+9)):=aj
theorem VW(cs:List AV):zfu Tryz.prog 96 (.iptr cs) 5=some (.iptr (cs.drop 9)):=aj
theorem VX(cs:List AV):zf5 Tryz.prog 96 (.agg cs) 5=zfy Tryz.prog 63 cs 9:=aj
theorem VY(r o:Nat):zfu Tryz.prog 96 (.ptr r o) 6=some (.ptr r (o+14)):=aj
theorem VZ(cs:List AV):zfu Tryz.prog 96 (.iptr cs) 6=some (.iptr (cs.drop 14)):=aj
theorem V0(cs:List AV):zf5 Tryz.prog 96 (.agg cs) 6=zfy Tryz.prog 61 cs 14:=aj
theorem V3(r o:Nat):zfu Tryz.prog 96 (.ptr r o) 7=some (.ptr r (o+15)):=aj
theorem V4(cs:List AV):zfu Tryz.prog 96 (.iptr cs) 7=some (.iptr (cs.drop 15)):=aj
theorem V7(cs:List AV):zf5 Tryz.prog 96 (.agg cs) 7=zfy Tryz.prog 60 cs 15:=aj
theorem V8(r o:Nat):zfu Tryz.prog 96 (.ptr r o) 8=some (.ptr r (o+16)):=aj
theorem V9(cs:List AV):zfu Tryz.prog 96 (.iptr cs) 8=some (.iptr (cs.drop 16)):=aj
theorem Wa(cs:List AV):zf5 Tryz.prog 96 (.agg cs) 8=zfy Tryz.prog 60 cs 16:=aj
def gJ:=ad @DJ (ad @VE (ad @Iv (ad @Iw (ad @VF (ad @VG (ad @VH (ad @VI (ad @VJ (ad @VK (ad @VL (ad @VM (ad @VN (ad @VO (ad @VP (ad @VQ (ad @VS (ad @VT (ad @VU (ad @VV (ad @VW (ad @VX (ad @VY (ad @VZ (ad @V0 (ad @V3 (ad @V4 (ad @V7 (ad @V8 (ad @V9 (@Wa))))))))))))))))))))))))))))))
theorem Wb:zfF Tryz.prog 98=some 1:=aj
theorem Wc:zgo Tryz.prog 98=some 8:=aj
theorem Wd(cs:List AV)(o:Nat):zfy Tryz.prog 98 cs o=cs[o]?:=zhf Tryz.underlying98 rfl cs o
theorem We:zge Tryz.prog 98=some [.nilM]:=aj
def nG:=ad @Wb (ad @Wd (ad @Wc (@We)))
theorem Ix:zfF Tryz.prog 101=some 10:=aj
theorem Wf:zgo Tryz.prog 101=some 144:=aj
theorem Wg(cs:List AV)(o:Nat):zfy Tryz.prog 101 cs o=jo 10 (cs.drop o):=zhP Tryz.underlying101 rfl Ix cs o
theorem Wh:zge Tryz.prog 101=some [.nilS,.nilS,.nilM,.nilM,.nilS,.nilM,.nilM,.nilS,(.int .i64 0),(.int .i64 0)]:=aj
theorem Wi(r o:Nat):zfu Tryz.prog 101 (.ptr r o) 0=some (.ptr r (o+0)):=aj
theorem Wj(cs:List AV):zfu Tryz.prog 101 (.iptr cs) 0=some (.iptr (cs.drop 0)):=aj
theorem Wk(cs:List AV):zf5 Tryz.prog 101 (.agg cs) 0=zfy Tryz.prog 49 cs 0:=aj
theorem Wl(r o:Nat):zfu Tryz.prog 101 (.ptr r o) 1=some (.ptr r (o+2)):=aj
theorem Wm(cs:List AV):zfu Tryz.prog 101 (.iptr cs) 1=some (.iptr (cs.drop 2)):=aj
theorem Wn(cs:List AV):zf5 Tryz.prog 101 (.agg cs) 1=zfy Tryz.prog 98 cs 2:=aj
theorem Wo(r o:Nat):zfu Tryz.prog 101 (.ptr r o) 2=some (.ptr r (o+3)):=aj
theorem Wp(cs:List AV):zfu Tryz.prog 101 (.iptr cs) 2=some (.iptr (cs.drop 3)):=aj
theorem Wq(cs:List AV):zf5 Tryz.prog 101 (.agg cs) 2=zfy Tryz.prog 98 cs 3:=aj
theorem Wr(r o:Nat):zfu Tryz.prog 101 (.ptr r o) 3=some (.ptr r (o+4)):=aj
theorem Wt(cs:List AV):zfu Tryz.prog 101 (.iptr cs) 3=some (.iptr (cs.drop 4)):=aj
theorem Wu(cs:List AV):zf5 Tryz.prog 101 (.agg cs) 3=zfy Tryz.prog 22 cs 4:=aj
theorem Wv(r o:Nat):zfu Tryz.prog 101 (.ptr r o) 4=some (.ptr r (o+5)):=aj
theorem Ww(cs:List AV):zfu Tryz.prog 101 (.iptr cs) 4=some (.iptr (cs.drop 5)):=aj
theorem Wx(cs:List AV):zf5 Tryz.prog 101 (.agg cs) 4=zfy Tryz.prog 98 cs 5:=aj
theorem Wy(r o:Nat):zfu Tryz.prog 101 (.ptr r o) 5=some (.ptr r (o+6)):=aj
theorem Wz(cs:List AV):zfu Tryz.prog 101 (.iptr cs) 5=some (.iptr (cs.drop 6)):=aj
theorem WA(cs:List AV):zf5 Tryz.prog 101 (.agg cs) 5=zfy Tryz.prog 98 cs 6:=aj
theorem WB(r o:Nat):zfu Tryz.prog 101 (.ptr r o) 6=some (.ptr r (o+7)):=aj
theorem WC(cs:List AV):zfu Tryz.prog 101 (.iptr cs) 6=some (.iptr (cs.drop 7)):=aj
theorem WD(cs:List AV):zf5 Tryz.prog 101 (.agg cs) 6=zfy Tryz.prog 23 cs 7:=aj
theorem WE(r o:Nat):zfu Tryz.prog 101 (.ptr r o) 7=some (.ptr r (o+8)):=aj
theorem WF(cs:List AV):zfu Tryz.prog 101 (.iptr cs) 7=some (.iptr (cs.drop 8)):=aj
theorem WG(cs:List AV):zf5 Tryz.prog 101 (.agg cs) 7=zfy Tryz.prog 3 cs 8:=aj
theorem WH(r o:Nat):zfu Tryz.prog 101 (.ptr r o) 8=some (.ptr r (o+9)):=aj
theorem WI(cs:List AV):zfu Tryz.prog 101 (.iptr cs) 8=some (.iptr (cs.drop 9)):=aj
theorem WJ(cs:List AV):zf5 Tryz.prog 101 (.agg cs) 8=zfy Tryz.prog 3 cs 9:=aj
def pi:=ad @Ix (ad @Wg (ad @Wf (ad @Wh (ad @Wi (ad @Wj (ad @Wk (ad @Wl (ad @Wm (ad @Wn (ad @Wo (ad @Wp (ad @Wq (ad @Wr (ad @Wt (ad @Wu (ad @Wv (ad @Ww (ad @Wx (ad @Wy (ad @Wz (ad @WA (ad @WB (ad @WC (ad @WD (ad @WE (ad @WF (ad @WG (ad @WH (ad @WI (@WJ))))))))))))))))))))))))))))))
theorem Iy:zfF Tryz.prog 111=some 2:=aj
theorem WK:zgo Tryz.prog 111=some 16:=aj
theorem WL(cs:List AV)(o:Nat):zfy Tryz.prog 111 cs o=jo 2 (cs.drop o):=zhP Tryz.underlying111 rfl Iy cs o
theorem WM:zge Tryz.prog 111=some [(.int .i64 0),(.int .i64 0)]:=aj
theorem WN(r o:Nat):zfu Tryz.prog 111 (.ptr r o) 0=some (.ptr r (o+0)):=aj
theorem WO(cs:List AV):zfu Tryz.prog 111 (.iptr cs) 0=some (.iptr (cs.drop 0)):=aj
theorem WP(cs:List AV):zf5 Tryz.prog 111 (.agg cs) 0=zfy Tryz.prog 53 cs 0:=aj
theorem WQ(r o:Nat):zfu Tryz.prog 111 (.ptr r o) 1=some (.ptr r (o+1)):=aj
theorem WR(cs:List AV):zfu Tryz.prog 111 (.iptr cs) 1=some (.iptr (cs.drop 1)):=aj
theorem WS(cs:List AV):zf5 Tryz.prog 111 (.agg cs) 1=zfy Tryz.prog 3 cs 1:=aj
def DK:=ad @Iy (ad @WL (ad @WK (ad @WM (ad @WN (ad @WO (ad @WP (ad @WQ (ad @WR (@WS)))))))))
theorem Iz:zfF Tryz.prog 116=some 4:=aj
theorem WT:zgo Tryz.prog 116=some 96:=aj
theorem WU(cs:List AV)(o:Nat):zfy Tryz.prog 116 cs o=jo 4 (cs.drop o):=zhP Tryz.underlying116 rfl Iz cs o
theorem WV:zge Tryz.prog 116=some [.nilS,.nilS,.nilS,.nilS]:=aj
theorem WW(r o:Nat):zfu Tryz.prog 116 (.ptr r o) 0=some (.ptr r (o+0)):=aj
theorem WX(cs:List AV):zfu Tryz.prog 116 (.iptr cs) 0=some (.iptr (cs.drop 0)):=aj
theorem WY(cs:List AV):zf5 Tryz.prog 116 (.agg cs) 0=zfy Tryz.prog 59 cs 0:=aj
theorem WZ(r o:Nat):zfu Tryz.prog 116 (.ptr r o) 1=some (.ptr r (o+1)):=aj
theorem W0(cs:List AV):zfu Tryz.prog 116 (.iptr cs) 1=some (.iptr (cs.drop 1)):=aj
theorem W1(cs:List AV):zf5 Tryz.prog 116 (.agg cs) 1=zfy Tryz.prog 59 cs 1:=aj
theorem W4(r o:Nat):zfu Tryz.prog 116 (.ptr r o) 2=some (.ptr r (o+2)):=aj
theorem Xa(cs:List AV):zfu Tryz.prog 116 (.iptr cs) 2=some (.iptr (cs.drop 2)):=aj
theorem Xb(cs:List AV):zf5 Tryz.prog 116 (.agg cs) 2=zfy Tryz.prog 49 cs 2:=aj
def Xc:=ad @Iz (ad @WU (ad @WT (ad @WV (ad @WW (ad @WX (ad @WY (ad @WZ (ad @W0 (ad @W1 (ad @W4 (ad @Xa (@Xb))))))))))))
theorem Xd:zfF Tryz.prog 129=some 1:=aj
theorem Xe:zgo Tryz.prog 129=some 24:=aj
theorem Xf(cs:List AV)(o:Nat):zfy Tryz.prog 129 cs o=cs[o]?:=zhf Tryz.underlying129 rfl cs o
theorem Xg:zge Tryz.prog 129=some [.nilS]:=aj
theorem Xh(xs:List (List AV)){n:Int}(z:0<=n)(k:IntKind):zgi Tryz.prog 129 (.lst xs) (.int k n)=kE 1 (xs[n.toNat]?):=zhQ Tryz.underlying129 (show zfF Tryz.prog 131=some 1 from by kernel_rfl) xs z k
theorem Xi(r o l z:Nat){n:Int}(Z:0<=n)(k:IntKind):zgi Tryz.prog 129 (.sl r o l z) (.int k n)=bif decide (n.toNat<l)then some (.ptr r (o+n.toNat*1))else none:=jm Tryz.underlying129 (show zfF Tryz.prog 131=some 1 from by kernel_rfl) r o l z Z k
theorem Xj(H:Hp)(xs:List (List AV)):zf9 Tryz.prog H 129 (.lst xs)=some (.int .i64 xs.length):=zhM Tryz.underlying129 xs
theorem Xk(H:Hp)(r o n z:Nat):zf9 Tryz.prog H 129 (.sl r o n z)=some (.int .i64 n):=zhE Tryz.underlying129 r o n z
theorem Xl(H:Hp):zf9 Tryz.prog H 129 .nilS=some (.int .i64 0):=zhH Tryz.underlying129
def Xm:=ad @Xd (ad @Xf (ad @Xe (ad @Xg (ad @Xh (ad @Xi (ad @Xj (ad @Xk (@Xl))))))))
theorem Xn:zfF Tryz.prog 131=some 1:=aj
theorem Xo:zgo Tryz.prog 131=some 4:=aj
theorem Xp(cs:List AV)(o:Nat):zfy Tryz.prog 131 cs o=cs[o]?:=zhf Tryz.underlying131 rfl cs o
theorem Xq:zge Tryz.prog 131=some [(.int .u32 0)]:=aj
def Xr:=ad @Xn (ad @Xp (ad @Xo (@Xq)))
theorem Xs:zfF Tryz.prog 133=some 1:=aj
theorem Xt:zgo Tryz.prog 133=some 24:=aj
theorem Xu(cs:List AV)(o:Nat):zfy Tryz.prog 133 cs o=cs[o]?:=zhf Tryz.underlying133 rfl cs o
theorem Xv:zge Tryz.prog 133=some [.nilS]:=aj
theorem Xw(xs:List (List AV)){n:Int}(z:0<=n)(k:IntKind):zgi Tryz.prog 133 (.lst xs) (.int k n)=kE 1 (xs[n.toNat]?):=zhQ Tryz.underlying133 (show zfF Tryz.prog 84=some 1 from by kernel_rfl) xs z k
theorem Xx(r o l z:Nat){n:Int}(Z:0<=n)(k:IntKind):zgi Tryz.prog 133 (.sl r o l z) (.int k n)=bif decide (n.toNat<l)then some (.ptr r (o+n.toNat*1))else none:=jm Tryz.underlying133 (show zfF Tryz.prog 84=some 1 from by kernel_rfl) r o l z Z k
theorem Xy(H:Hp)(xs:List (List AV)):zf9 Tryz.prog H 133 (.lst xs)=some (.int .i64 xs.length):=zhM Tryz.underlying133 xs
theorem Xz(H:Hp)(r o n z:Nat):zf9 Tryz.prog H 133 (.sl r o n z)=some (.int .i64 n):=zhE Tryz.underlying133 r o n z
theorem XA(H:Hp):zf9 Tryz.prog H 133 .nilS=some (.int .i64 0):=zhH Tryz.underlying133
def IA:=ad @Xs (ad @Xu (ad @Xt (ad @Xv (ad @Xw (ad @Xx (ad @Xy (ad @Xz (@XA))))))))
theorem XB:zfF Tryz.prog 142=some 1:=aj
theorem XC:zgo Tryz.prog 142=some 24:=aj
theorem XD(cs:List AV)(o:Nat):zfy Tryz.prog 142 cs o=cs[o]?:=zhf Tryz.underlying142 rfl cs o
theorem XE:zge Tryz.prog 142=some [.nilS]:=aj
theorem XF(xs:List (List AV)){n:Int}(z:0<=n)(k:IntKind):zgi Tryz.prog 142 (.lst xs) (.int k n)=kE 3 (xs[n.toNat]?):=zhQ Tryz.underlying142 (show zfF Tryz.prog 188=some 3 from by kernel_rfl) xs z k
theorem XG(r o l z:Nat){n:Int}(Z:0<=n)(k:IntKind):zgi Tryz.prog 142 (.sl r o l z) (.int k n)=bif decide (n.toNat<l)then some (.ptr r (o+n.toNat*3))else none:=jm Tryz.underlying142 (show zfF Tryz.prog 188=some 3 from by kernel_rfl) r o l z Z k
theorem XH(H:Hp)(xs:List (List AV)):zf9 Tryz.prog H 142 (.lst xs)=some (.int .i64 xs.length):=zhM Tryz.underlying142 xs
theorem XI(H:Hp)(r o n z:Nat):zf9 Tryz.prog H 142 (.sl r o n z)=some (.int .i64 n):=zhE Tryz.underlying142 r o n z
theorem XJ(H:Hp):zf9 Tryz.prog H 142 .nilS=some (.int .i64 0):=zhH Tryz.underlying142
def DL:=ad @XB (ad @XD (ad @XC (ad @XE (ad @XF (ad @XG (ad @XH (ad @XI (@XJ))))))))
theorem XK:zfF Tryz.prog 172=some 1:=aj
theorem XL:zgo Tryz.prog 172=some 8:=aj
theorem XM(cs:List AV)(o:Nat):zfy Tryz.prog 172 cs o=cs[o]?:=zhf Tryz.underlying172 rfl cs o
theorem XN:zge Tryz.prog 172=some [.nilF]:=aj
def IB:=ad @XK (ad @XM (ad @XL (@XN)))
theorem XO:zfF Tryz.prog 178=some 1:=aj
theorem XP:zgo Tryz.prog 178=some 8:=aj
theorem XQ(cs:List AV)(o:Nat):zfy Tryz.prog 178 cs o=cs[o]?:=zhf Tryz.underlying178 rfl cs o
theorem XR:zge Tryz.prog 178=some [.nilM]:=aj
def DM:=ad @XO (ad @XQ (ad @XP (@XR)))
theorem XS:zfF Tryz.prog 182=some 1:=aj
theorem XT:zgo Tryz.prog 182=some 8:=aj
theorem XU(cs:List AV)(o:Nat):zfy Tryz.prog 182 cs o=cs[o]?:=zhf Tryz.underlying182 rfl cs o
theorem XV:zge Tryz.prog 182=some [(.int .u64 0)]:=aj
def IC:=ad @XS (ad @XU (ad @XT (@XV)))
theorem XW:zfF Tryz.prog 185=some 1:=aj
theorem XX:zgo Tryz.prog 185=some 8:=aj
theorem XY(cs:List AV)(o:Nat):zfy Tryz.prog 185 cs o=cs[o]?:=zhf Tryz.underlying185 rfl cs o
theorem XZ:zge Tryz.prog 185=some [(.int .u64 0)]:=aj
def ID:=ad @XW (ad @XY (ad @XX (@XZ)))
theorem Ac:zfF Tryz.prog 188=some 3:=aj
theorem DN:zgo Tryz.prog 188=some 32:=aj
theorem X0(cs:List AV)(o:Nat):zfy Tryz.prog 188 cs o=jo 3 (cs.drop o):=zhP Tryz.underlying188 rfl Ac cs o
theorem DO:zge Tryz.prog 188=some [(.int .i64 0),(.str []),(.int .i64 0)]:=aj
theorem X1(r o:Nat):zfu Tryz.prog 188 (.ptr r o) 0=some (.ptr r (o+0)):=aj
theorem X2(cs:List AV):zfu Tryz.prog 188 (.iptr cs) 0=some (.iptr (cs.drop 0)):=aj
theorem X3(cs:List AV):zf5 Tryz.prog 188 (.agg cs) 0=zfy Tryz.prog 3 cs 0:=aj
theorem X4(r o:Nat):zfu Tryz.prog 188 (.ptr r o) 1=some (.ptr r (o+1)):=aj
theorem X5(cs:List AV):zfu Tryz.prog 188 (.iptr cs) 1=some (.iptr (cs.drop 1)):=aj
theorem X6(cs:List AV):zf5 Tryz.prog 188 (.agg cs) 1=zfy Tryz.prog 9 cs 1:=aj
theorem X7(r o:Nat):zfu Tryz.prog 188 (.ptr r o) 2=some (.ptr r (o+2)):=aj
theorem X8(cs:List AV):zfu Tryz.prog 188 (.iptr cs) 2=some (.iptr (cs.drop 2)):=aj
theorem X9(cs:List AV):zf5 Tryz.prog 188 (.agg cs) 2=zfy Tryz.prog 3 cs 2:=aj
def Ad:=ad @Ac (ad @X0 (ad @DN (ad @DO (ad @X1 (ad @X2 (ad @X3 (ad @X4 (ad @X5 (ad @X6 (ad @X7 (ad @X8 (@X9))))))))))))
theorem IE:zfF Tryz.prog 206=some 8:=aj
theorem Ya:zgo Tryz.prog 206=some 8:=aj
theorem Yb(cs:List AV)(o:Nat):zfy Tryz.prog 206 cs o=jo 8 (cs.drop o):=zhP Tryz.underlying206 rfl IE cs o
theorem Yc:zge Tryz.prog 206=some [(.bool false),(.bool false),(.bool false),(.bool false),(.bool false),(.bool false),(.bool false),(.bool false)]:=aj
theorem Yd(r o:Nat):zfu Tryz.prog 206 (.ptr r o) 0=some (.ptr r (o+0)):=aj
theorem Ye(cs:List AV):zfu Tryz.prog 206 (.iptr cs) 0=some (.iptr (cs.drop 0)):=aj
theorem Yf(cs:List AV):zf5 Tryz.prog 206 (.agg cs) 0=zfy Tryz.prog 4 cs 0:=aj
theorem Yg(r o:Nat):zfu Tryz.prog 206 (.ptr r o) 1=some (.ptr r (o+1)):=aj
theorem Yh(cs:List AV):zfu Tryz.prog 206 (.iptr cs) 1=some (.iptr (cs.drop 1)):=aj
theorem Yi(cs:List AV):zf5 Tryz.prog 206 (.agg cs) 1=zfy Tryz.prog 4 cs 1:=aj
theorem Yj(r o:Nat):zfu Tryz.prog 206 (.ptr r o) 2=some (.ptr r (o+2)):=aj
theorem Yk(cs:List AV):zfu Tryz.prog 206 (.iptr cs) 2=some (.iptr (cs.drop 2)):=aj
theorem Yl(cs:List AV):zf5 Tryz.prog 206 (.agg cs) 2=zfy Tryz.prog 4 cs 2:=aj
theorem Ym(r o:Nat):zfu Tryz.prog 206 (.ptr r o) 3=some (.ptr r (o+3)):=aj
theorem Yn(cs:List AV):zfu Tryz.prog 206 (.iptr cs) 3=some (.iptr (cs.drop 3)):=aj
theorem Yo(cs:List AV):zf5 Tryz.prog 206 (.agg cs) 3=zfy Tryz.prog 4 cs 3:=aj
theorem Yp(r o:Nat):zfu Tryz.prog 206 (.ptr r o) 4=some (.ptr r (o+4)):=aj
theorem Yq(cs:List AV):zfu Tryz.prog 206 (.iptr cs) 4=some (.iptr (cs.drop 4)):=aj
theorem Yr(cs:List AV):zf5 Tryz.prog 206 (.agg cs) 4=zfy Tryz.prog 4 cs 4:=aj
theorem Ys(r o:Nat):zfu Tryz.prog 206 (.ptr r o) 5=some (.ptr r (o+5)):=aj
theorem Yt(cs:List AV):zfu Tryz.prog 206 (.iptr cs) 5=some (.iptr (cs.drop 5)):=aj
theorem Yu(cs:List AV):zf5 Tryz.prog 206 (.agg cs) 5=zfy Tryz.prog 4 cs 5:=aj
theorem Yv(r o:Nat):zfu Tryz.prog 206 (.ptr r o) 6=some (.ptr r (o+6)):=aj
theorem Yw(cs:List AV):zfu Tryz.prog 206 (.iptr cs) 6=some (.iptr (cs.drop 6)):=aj
theorem Yx(cs:List AV):zf5 Tryz.prog 206 (.agg cs) 6=zfy Tryz.prog 4 cs 6:=aj
theorem Yy(r o:Nat):zfu Tryz.prog 206 (.ptr r o) 7=some (.ptr r (o+7)):=aj
theorem Yz(cs:List AV):zfu Tryz.prog 206 (.iptr cs) 7=some (.iptr (cs.drop 7)):=aj
theorem YA(cs:List AV):zf5 Tryz.prog 206 (.agg cs) 7=zfy Tryz.prog 4 cs 7:=aj
def IF:=ad @IE (ad @Yb (ad @Ya (ad @Yc (ad @Yd (ad @Ye (ad @Yf (ad @Yg (ad @Yh (ad @Yi (ad @Yj (ad @Yk (ad @Yl (ad @Ym (ad @Yn (ad @Yo (ad @Yp (ad @Yq (ad @Yr (ad @Ys (ad @Yt (ad @Yu (ad @Yv (ad @Yw (ad @Yx (ad @Yy (ad @Yz (@YA)))))))))))))))))))))))))))
theorem YB:zfF Tryz.prog 211=some 1:=aj
theorem YC:zgo Tryz.prog 211=some 24:=aj
theorem YD(cs:List AV)(o:Nat):zfy Tryz.prog 211 cs o=cs[o]?:=zhf Tryz.underlying211 rfl cs o
theorem YE:zge Tryz.prog 211=some [.nilS]:=aj
theorem YF(xs:List (List AV)){n:Int}(z:0<=n)(k:IntKind):zgi Tryz.prog 211 (.lst xs) (.int k n)=kE 1 (xs[n.toNat]?):=zhQ Tryz.underlying211 (show zfF Tryz.prog 59=some 1 from by kernel_rfl) xs z k
theorem YG(r o l z:Nat){n:Int}(Z:0<=n)(k:IntKind):zgi Tryz.prog 211 (.sl r o l z) (.int k n)=bif decide (n.toNat<l)then some (.ptr r (o+n.toNat*1))else none:=jm Tryz.underlying211 (show zfF Tryz.prog 59=some 1 from by kernel_rfl) r o l z Z k
theorem YH(H:Hp)(xs:List (List AV)):zf9 Tryz.prog H 211 (.lst xs)=some (.int .i64 xs.length):=zhM Tryz.underlying211 xs
theorem YI(H:Hp)(r o n z:Nat):zf9 Tryz.prog H 211 (.sl r o n z)=some (.int .i64 n):=zhE Tryz.underlying211 r o n z
theorem YJ(H:Hp):zf9 Tryz.prog H 211 .nilS=some (.int .i64 0):=zhH Tryz.underlying211
def DP:=ad @YB (ad @YD (ad @YC (ad @YE (ad @YF (ad @YG (ad @YH (ad @YI (@YJ))))))))
theorem IG:zfF Tryz.prog 227=some 7:=aj
theorem YK:zgo Tryz.prog 227=some 112:=aj
theorem YL(cs:List AV)(o:Nat):zfy Tryz.prog 227 cs o=jo 7 (cs.drop o):=zhP Tryz.underlying227 rfl IG cs o
theorem YM:zge Tryz.prog 227=some [(.str []),(.str []),(.str []),(.str []),(.str []),(.str []),(.str [])]:=aj
def YN:=ad @IG (ad @YL (ad @YK (@YM)))
theorem II(H:Hp)(k:IntKind)(n:Int):zhJ Tryz.prog H 2 185 (.int k n)=some (.int .u64 (IntKind.wrap .u64 n)):=xn
theorem IJ(H:Hp)(k:IntKind)(n:Int):zhJ Tryz.prog H 3 5 (.int k n)=some (.int .u8 (IntKind.wrap .u8 n)):=xn
theorem IK(H:Hp)(k:IntKind)(n:Int):zhJ Tryz.prog H 3 182 (.int k n)=some (.int .u64 (IntKind.wrap .u64 n)):=xn
theorem IL(H:Hp)(k:IntKind)(n:Int):zhJ Tryz.prog H 3 185 (.int k n)=some (.int .u64 (IntKind.wrap .u64 n)):=xn
theorem IM(H:Hp)(k:IntKind)(n:Int):zhJ Tryz.prog H 185 5 (.int k n)=some (.int .u8 (IntKind.wrap .u8 n)):=xn
end Go.Proofs.YtpbcimfiofmoeaaGreat
namespace Go.Ab
set_option maxRecDepth 20000
open Go
variable {P:Program} {cfg:Cfg} {f N:Nat}
theorem zgs{a:SC}{E:aw}{H:Hp}{Q:AX->aw->Hp->Prop}(cs rs:List Nat)(K n:Nat)(J:Nat->aw->Hp->Prop)(M:E.at K=.int .i64 0)(o:J 0 E H)
 (h:∀(i:Nat) (E':aw) (H':Hp),i<=n->(∀k∈cs,E'.at k=E.at k)->(∀r∈rs,H'.get r=H.get r)->H.next<=H'.next->E'.at K=.int .i64 i->J i E' H' ->
   zfV P cfg f N a E' H' (nE Q fun L Z=>i<n/\(∀k∈cs,L.at k=E.at k)/\(∀r∈rs,Z.get r=H.get r)/\H.next<=Z.next/\L.at K=.int .i64 ((i+1:Nat):Int)/\J (i+1) L Z)):zfV P cfg f N (.loop a) E H Q:=
 pd (fun i E' H'=>(∀k∈cs,E'.at k=E.at k)/\(∀r∈rs,H'.get r=H.get r)/\H.next<=H'.next/\E'.at K=.int .i64 i/\J i E' H') n (fun i E' H' I ⟨Y,g,m,O,V⟩=>h i E' H' I Y g m O V) ⟨fun _ _=>rfl,fun _ _=>rfl,aE _,M,o⟩
theorem YO{a:SC}{E:aw}{H:Hp}{Q:AX->aw->Hp->Prop}(cs rs:List Nat)(J:Nat->aw->Hp->Prop)(n:Nat)(o:J n E H)
 (h:∀(i:Nat) (E':aw) (H':Hp),(∀k∈cs,E'.at k=E.at k)->(∀r∈rs,H'.get r=H.get r)->H.next<=H'.next->J i E' H' ->
   zfV P cfg f N a E' H' (nE Q fun L Z=>(∀k∈cs,L.at k=E.at k)/\(∀r∈rs,Z.get r=H.get r)/\H.next<=Z.next/\∃m,m<i/\J m L Z)):zfV P cfg f N (.loop a) E H Q:=
 xf (fun i E' H'=>(∀k∈cs,E'.at k=E.at k)/\(∀r∈rs,H'.get r=H.get r)/\H.next<=H'.next/\J i E' H') (fun i E' H' ⟨V,g,U,O⟩=>zfV.mono (fun x L Z Y=>by
  cases x with
  |normal=>obtain⟨M,K,I,m,C,z⟩:=Y;exact⟨m,C,M,K,I,z⟩
  |exit id=>exact Y
  |ret=>exact Y) (h i E' H' V g U O)) (n:=n) ⟨fun _ _=>rfl,fun _ _=>rfl,aE _,o⟩
theorem zfT{p:Nat->Prop}{a:Nat}{l:List Nat}:(∀k∈a::l,p k)↔p a/\∀k∈l,p k:=List.forall_mem_cons
theorem zfB{p:Nat->Prop}:(∀k∈([]:List Nat),p k)↔True:=⟨fun _=>trivial,fun _ _ h=>lL⟩
theorem zfN{a b:Nat}(h:a≠b):(a == b)=false:=jv
theorem zhp{i n:Nat}(h:i<n)(z:n<2^62):AV.int .i64 (IntKind.wrap .i64 ((i:Int)+1))=.int .i64 ((i+1:Nat):Int):=by rw[zhe ac]
end Go.Ab
