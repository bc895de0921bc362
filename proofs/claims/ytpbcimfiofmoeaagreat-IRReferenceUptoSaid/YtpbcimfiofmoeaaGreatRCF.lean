/- Parts: Facts, AbFor. -/
import Derived.KernelRfl
import Derived.Test.YtpbcimfiofmoeaaGreatRCE
import Derived.Test.YtpbcimfiofmoeaaGreatRows
set_option linter.unusedSimpArgs false
set_option linter.unusedVariables false
set_option linter.unusedSectionVars false
set_option linter.defProp false
set_option maxHeartbeats 32000000
namespace Go.Ab
set_option maxRecDepth 20000
open Go
theorem xB{P:Prop}(h:P:=by cases k<;>kernel_rfl):P:=h
def ad:=@And.intro
def tL:=@Bool.not_false
def r6:=@Bool.true_and
def aX:=@and_true
def gH:=@Int.toNat_natCast
def Dw:=@List.forall_mem_cons
end Go.Ab
namespace Go.Proofs.YtpbcimfiofmoeaaGreat
set_option maxRecDepth 20000
open Go Go.Ab
def zdX:=ad @Rn (ad @List.toList_toArray.{0} (ad @zeB (ad @qH (ad @zgn (ad @uZ (ad @tL (ad @List.length_map.{0,0} (ad @Int.natCast_zero (ad @Qo (ad @Qp (ad @Qq (ad @Qr (ad @Qs (ad @Dr (ad @cond_true.{1} (ad @cond_false.{1} (@bT)))))))))))))))))
def zd2:=ad @Ex.clen (ad @Ex.c0 (ad @Ex.c1 (ad @Ex.c2 (ad @Ex.c3 (ad @Ex.c4 (ad @Ex.whole (ad @Ex.one (ad @St.clen (ad @St.c0 (ad @St.c1 (ad @St.c2 (ad @St.c3 (ad @St.c4 (ad @St.c5 (ad @St.c6 (ad @St.c7 (ad @St.c8 (ad @St.c9 (ad @St.c10 (ad @St.c11 (ad @St.c12 (ad @St.c13 (ad @St.c14 (ad @St.c15 (ad @St.c16 (ad @St.whole (ad @St.one (ad @Rq (ad @St.part_value (ad @Fu.clen (ad @Fu.c0 (ad @Fu.c1 (ad @Fu.c2 (ad @Fu.c3 (ad @Fu.c4 (ad @Fu.c5 (ad @Fu.c6 (ad @Fu.c7 (ad @Fu.c8 (ad @Fu.whole (ad @Fu.one (ad @Fu.part_value (ad @Ar.clen (ad @Ar.c0 (ad @Ar.c1 (ad @Ar.whole (ad @Ar.one (ad @Pr.clen (ad @Pr.c0 (ad @Pr.c1 (ad @Pr.whole (ad @Pr.one (ad @Tk.clen (ad @Tk.c0 (ad @Tk.c1 (ad @Tk.c2 (ad @Tk.whole (ad @Tk.one (ad @Nd.clen (ad @Nd.c0 (ad @Nd.c1 (ad @Nd.c2 (ad @Nd.whole (ad @Nd.one (ad @Gr.clen (ad @Gr.c0 (ad @Gr.c1 (ad @Gr.c2 (ad @Gr.c3 (ad @Gr.c4 (ad @Gr.whole (ad @Gr.one (ad @Un.clen (ad @Un.c0 (ad @Un.c1 (ad @Un.whole (ad @Un.one (ad @Q9 (ad @Ra (ad @Rd (ad @Re (ad @List.getElem?_drop.{0} (ad @uV (ad @if_true.{1} (ad @Dt (ad @Ds (ad @If (ad @QR (ad @cells_int (ad @Ig (ad @QS (ad @QT (ad @QU (ad @QV (ad @QW (ad @QX (ad @QY (ad @QZ (ad @Q0 (ad @Q1 (ad @Q3 (ad @Q4 (ad @Q5 (ad @Q6 (ad @Q7 (ad @Q8 (ad @List.all_cons.{0} (ad @List.all_nil.{0} (ad @l5 (ad @r6 (ad @aX (ad @mJ (ad @dE (ad @aM (ad @List.nil_append.{0} (ad @List.append_nil.{0} (ad @List.cons_append.{0} (ad @zea (ad @zef (ad @zeB (ad @beq_self_eq_true.{0} (ad @Rf (ad @Rg (ad @Rh (ad @jJ (ad @List.getElem?_map.{0,0} (ad @Option.map_some.{0,0} (ad @vk (ad @QP (ad @QO (ad @QL (ad @QM (ad @get_set (ad @QQ (ad @List.getElem?_cons_succ.{0} (ad @List.getElem?_cons_zero.{0} (ad @List.drop_succ_cons.{0} (ad @List.drop_zero.{0} (ad @List.take_succ_cons.{0} (ad @List.take_zero.{0} (ad @List.length_cons.{0} (ad @List.length_nil.{0} (ad @Int.natCast_nonneg (ad @gH (ad @Qt (ad @Qu (ad @Qv (ad @Qw (ad @Qy (ad @Qz (ad @QA (ad @QB (ad @QC (ad @QD (ad @QE (ad @QF (ad @QG (ad @QH (ad @QI (@QJ))))))))))))))))))))))))))))))))))))))))))))))))))))))))))))))))))))))))))))))))))))))))))))))))))))))))))))))))))))))))))))))))))))))))))))))))))))))))))))))))
structure Plain (cfg:Cfg) (f:FuncId):Prop where
 call:∀args,cfg.call f args=none
 ice:cfg.ice f=false
 froz:cfg.froz f=false
theorem Rr:zer Tryz.prog 2=some 1:=aC
theorem Rs:zfg Tryz.prog 2=some 8:=aC
theorem Rt(cs:List AV)(o:Nat):zej Tryz.prog 2 cs o=cs[o]?:=zf1 Tryz.underlying2 rfl cs o
theorem Ru:ze5 Tryz.prog 2=some [(.int .i64 0)]:=aC
def eI:=ad @Rr (ad @Rt (ad @Rs (@Ru)))
theorem gN:zer Tryz.prog 3=some 1:=aC
theorem mM:zfg Tryz.prog 3=some 8:=aC
theorem Rv(cs:List AV)(o:Nat):zej Tryz.prog 3 cs o=cs[o]?:=zf1 Tryz.underlying3 rfl cs o
theorem mN:ze5 Tryz.prog 3=some [(.int .i64 0)]:=aC
def dC:=ad @gN (ad @Rv (ad @mM (@mN)))
theorem xC:zer Tryz.prog 4=some 1:=aC
theorem It:zfg Tryz.prog 4=some 1:=aC
theorem Rw(cs:List AV)(o:Nat):zej Tryz.prog 4 cs o=cs[o]?:=zf1 Tryz.underlying4 rfl cs o
theorem Iu:ze5 Tryz.prog 4=some [(.bool false)]:=aC
def tM:=ad @xC (ad @Rw (ad @It (@Iu)))
theorem Dx:zer Tryz.prog 5=some 1:=aC
theorem Dy:zfg Tryz.prog 5=some 1:=aC
theorem Rz(cs:List AV)(o:Nat):zej Tryz.prog 5 cs o=cs[o]?:=zf1 Tryz.underlying5 rfl cs o
theorem Dz:ze5 Tryz.prog 5=some [(.int .u8 0)]:=aC
def DA:=ad @Dx (ad @Rz (ad @Dy (@Dz)))
theorem tN:zer Tryz.prog 9=some 1:=aC
theorem vn:zfg Tryz.prog 9=some 16:=aC
theorem RA(cs:List AV)(o:Nat):zej Tryz.prog 9 cs o=cs[o]?:=zf1 Tryz.underlying9 rfl cs o
theorem vo:ze5 Tryz.prog 9=some [(.str [])]:=aC
theorem RB(H:Hp)(s:List UInt8):zeR Tryz.prog H 9 (.str s)=some (.int .i64 s.length):=QK Tryz.underlying9 s
theorem RC(s:List UInt8){n:Int}(hn:0<=n)(k:IntKind):pI Tryz.prog 9 (.str s) (.int k n)=zV (s[n.toNat]?):=QN Tryz.underlying9 s hn k
def eU:=ad @tN (ad @RA (ad @vn (ad @vo (ad @RB (@RC)))))
theorem Iv:zer Tryz.prog 22=some 1:=aC
theorem RD:zfg Tryz.prog 22=some 24:=aC
theorem RE(cs:List AV)(o:Nat):zej Tryz.prog 22 cs o=cs[o]?:=zf1 Tryz.underlying22 rfl cs o
theorem RF:ze5 Tryz.prog 22=some [.nilS]:=aC
theorem RG(xs:List (List AV)){n:Int}(hn:0<=n)(k:IntKind):zeE Tryz.prog 22 (.lst xs) (.int k n)=lC 3 (xs[n.toNat]?):=zgr Tryz.underlying22 (show zer Tryz.prog 67=some 3 from by kernel_rfl) xs hn k
theorem RH(r o l z:Nat){n:Int}(hn:0<=n)(k:IntKind):zeE Tryz.prog 22 (.sl r o l z) (.int k n)=bif decide (n.toNat<l)then some (.ptr r (o+n.toNat*3))else none:=zgs Tryz.underlying22 (show zer Tryz.prog 67=some 3 from by kernel_rfl) r o l z hn k
theorem RI(H:Hp)(xs:List (List AV)):zeR Tryz.prog H 22 (.lst xs)=some (.int .i64 xs.length):=zgp Tryz.underlying22 xs
theorem RJ(H:Hp)(r o n z:Nat):zeR Tryz.prog H 22 (.sl r o n z)=some (.int .i64 n):=zgg Tryz.underlying22 r o n z
theorem RK(H:Hp):zeR Tryz.prog H 22 .nilS=some (.int .i64 0):=zgl Tryz.underlying22
def ge:=ad @Iv (ad @RE (ad @RD (ad @RF (ad @RG (ad @RH (ad @RI (ad @RJ (@RK))))))))
theorem RL:zer Tryz.prog 23=some 1:=aC
theorem RM:zfg Tryz.prog 23=some 24:=aC
theorem RN(cs:List AV)(o:Nat):zej Tryz.prog 23 cs o=cs[o]?:=zf1 Tryz.underlying23 rfl cs o
theorem RO:ze5 Tryz.prog 23=some [.nilS]:=aC
theorem RP(xs:List (List AV)){n:Int}(hn:0<=n)(k:IntKind):zeE Tryz.prog 23 (.lst xs) (.int k n)=lC 1 (xs[n.toNat]?):=zgr Tryz.underlying23 (show zer Tryz.prog 3=some 1 from by kernel_rfl) xs hn k
theorem Iw(r o l z:Nat){n:Int}(hn:0<=n)(k:IntKind):zeE Tryz.prog 23 (.sl r o l z) (.int k n)=bif decide (n.toNat<l)then some (.ptr r (o+n.toNat*1))else none:=zgs Tryz.underlying23 (show zer Tryz.prog 3=some 1 from by kernel_rfl) r o l z hn k
theorem RQ(H:Hp)(xs:List (List AV)):zeR Tryz.prog H 23 (.lst xs)=some (.int .i64 xs.length):=zgp Tryz.underlying23 xs
theorem RR(H:Hp)(r o n z:Nat):zeR Tryz.prog H 23 (.sl r o n z)=some (.int .i64 n):=zgg Tryz.underlying23 r o n z
theorem RS(H:Hp):zeR Tryz.prog H 23 .nilS=some (.int .i64 0):=zgl Tryz.underlying23
def en:=ad @RL (ad @RN (ad @RM (ad @RO (ad @RP (ad @Iw (ad @RQ (ad @RR (@RS))))))))
theorem RT:zer Tryz.prog 24=some 1:=aC
theorem RU:zfg Tryz.prog 24=some 24:=aC
theorem RV(cs:List AV)(o:Nat):zej Tryz.prog 24 cs o=cs[o]?:=zf1 Tryz.underlying24 rfl cs o
theorem RW:ze5 Tryz.prog 24=some [.nilS]:=aC
theorem RX(xs:List (List AV)){n:Int}(hn:0<=n)(k:IntKind):zeE Tryz.prog 24 (.lst xs) (.int k n)=lC 2 (xs[n.toNat]?):=zgr Tryz.underlying24 (show zer Tryz.prog 86=some 2 from by kernel_rfl) xs hn k
theorem RY(r o l z:Nat){n:Int}(hn:0<=n)(k:IntKind):zeE Tryz.prog 24 (.sl r o l z) (.int k n)=bif decide (n.toNat<l)then some (.ptr r (o+n.toNat*2))else none:=zgs Tryz.underlying24 (show zer Tryz.prog 86=some 2 from by kernel_rfl) r o l z hn k
theorem RZ(H:Hp)(xs:List (List AV)):zeR Tryz.prog H 24 (.lst xs)=some (.int .i64 xs.length):=zgp Tryz.underlying24 xs
theorem R0(H:Hp)(r o n z:Nat):zeR Tryz.prog H 24 (.sl r o n z)=some (.int .i64 n):=zgg Tryz.underlying24 r o n z
theorem Sa(H:Hp):zeR Tryz.prog H 24 .nilS=some (.int .i64 0):=zgl Tryz.underlying24
def jO:=ad @RT (ad @RV (ad @RU (ad @RW (ad @RX (ad @RY (ad @RZ (ad @R0 (@Sa))))))))
theorem Sb:zer Tryz.prog 25=some 1:=aC
theorem Sd:zfg Tryz.prog 25=some 24:=aC
theorem Se(cs:List AV)(o:Nat):zej Tryz.prog 25 cs o=cs[o]?:=zf1 Tryz.underlying25 rfl cs o
theorem Sf:ze5 Tryz.prog 25=some [.nilS]:=aC
theorem Sg(xs:List (List AV)){n:Int}(hn:0<=n)(k:IntKind):zeE Tryz.prog 25 (.lst xs) (.int k n)=lC 5 (xs[n.toNat]?):=zgr Tryz.underlying25 (show zer Tryz.prog 32=some 5 from by kernel_rfl) xs hn k
theorem Sk(r o l z:Nat){n:Int}(hn:0<=n)(k:IntKind):zeE Tryz.prog 25 (.sl r o l z) (.int k n)=bif decide (n.toNat<l)then some (.ptr r (o+n.toNat*5))else none:=zgs Tryz.underlying25 (show zer Tryz.prog 32=some 5 from by kernel_rfl) r o l z hn k
theorem Sl(H:Hp)(xs:List (List AV)):zeR Tryz.prog H 25 (.lst xs)=some (.int .i64 xs.length):=zgp Tryz.underlying25 xs
theorem Sn(H:Hp)(r o n z:Nat):zeR Tryz.prog H 25 (.sl r o n z)=some (.int .i64 n):=zgg Tryz.underlying25 r o n z
theorem So(H:Hp):zeR Tryz.prog H 25 .nilS=some (.int .i64 0):=zgl Tryz.underlying25
def DB:=ad @Sb (ad @Se (ad @Sd (ad @Sf (ad @Sg (ad @Sk (ad @Sl (ad @Sn (@So))))))))
theorem Ix:zer Tryz.prog 27=some 2:=aC
theorem Sp:zfg Tryz.prog 27=some 48:=aC
theorem Iy(cs:List AV)(o:Nat):zej Tryz.prog 27 cs o=ze6 2 (cs.drop o):=nM Tryz.underlying27 rfl Ix cs o
theorem Sq:ze5 Tryz.prog 27=some [.nilS,.nilS]:=aC
theorem Sr(r o:Nat):zeg Tryz.prog 27 (.ptr r o) 0=some (.ptr r (o+0)):=aC
theorem Ss(cs:List AV):zeg Tryz.prog 27 (.iptr cs) 0=some (.iptr (cs.drop 0)):=aC
theorem Su(cs:List AV):zeU Tryz.prog 27 (.agg cs) 0=zej Tryz.prog 24 cs 0:=aC
theorem Sv(r o:Nat):zeg Tryz.prog 27 (.ptr r o) 1=some (.ptr r (o+1)):=aC
theorem Sw(cs:List AV):zeg Tryz.prog 27 (.iptr cs) 1=some (.iptr (cs.drop 1)):=aC
theorem Sy(cs:List AV):zeU Tryz.prog 27 (.agg cs) 1=zej Tryz.prog 25 cs 1:=aC
def DC:=ad @Ix (ad @Iy (ad @Sp (ad @Sq (ad @Sr (ad @Ss (ad @Su (ad @Sv (ad @Sw (@Sy)))))))))
theorem DD:zer Tryz.prog 32=some 5:=aC
theorem Iz:zfg Tryz.prog 32=some 64:=aC
theorem Sz(cs:List AV)(o:Nat):zej Tryz.prog 32 cs o=ze6 5 (cs.drop o):=nM Tryz.underlying32 rfl DD cs o
theorem IA:ze5 Tryz.prog 32=some [(.str []),(.int .i64 0),.nilS,(.int .i64 0),(.int .i64 0)]:=aC
theorem SA(r o:Nat):zeg Tryz.prog 32 (.ptr r o) 0=some (.ptr r (o+0)):=aC
theorem SB(cs:List AV):zeg Tryz.prog 32 (.iptr cs) 0=some (.iptr (cs.drop 0)):=aC
theorem SD(cs:List AV):zeU Tryz.prog 32 (.agg cs) 0=zej Tryz.prog 9 cs 0:=aC
theorem SE(r o:Nat):zeg Tryz.prog 32 (.ptr r o) 1=some (.ptr r (o+1)):=aC
theorem SF(cs:List AV):zeg Tryz.prog 32 (.iptr cs) 1=some (.iptr (cs.drop 1)):=aC
theorem SG(cs:List AV):zeU Tryz.prog 32 (.agg cs) 1=zej Tryz.prog 3 cs 1:=aC
theorem SH(r o:Nat):zeg Tryz.prog 32 (.ptr r o) 2=some (.ptr r (o+2)):=aC
theorem SI(cs:List AV):zeg Tryz.prog 32 (.iptr cs) 2=some (.iptr (cs.drop 2)):=aC
theorem SJ(cs:List AV):zeU Tryz.prog 32 (.agg cs) 2=zej Tryz.prog 22 cs 2:=aC
theorem SK(r o:Nat):zeg Tryz.prog 32 (.ptr r o) 3=some (.ptr r (o+3)):=aC
theorem SL(cs:List AV):zeg Tryz.prog 32 (.iptr cs) 3=some (.iptr (cs.drop 3)):=aC
theorem SM(cs:List AV):zeU Tryz.prog 32 (.agg cs) 3=zej Tryz.prog 3 cs 3:=aC
theorem SN(r o:Nat):zeg Tryz.prog 32 (.ptr r o) 4=some (.ptr r (o+4)):=aC
theorem SO(cs:List AV):zeg Tryz.prog 32 (.iptr cs) 4=some (.iptr (cs.drop 4)):=aC
theorem SP(cs:List AV):zeU Tryz.prog 32 (.agg cs) 4=zej Tryz.prog 3 cs 4:=aC
def IB:=ad @DD (ad @Sz (ad @Iz (ad @IA (ad @SA (ad @SB (ad @SD (ad @SE (ad @SF (ad @SG (ad @SH (ad @SI (ad @SJ (ad @SK (ad @SL (ad @SM (ad @SN (ad @SO (@SP))))))))))))))))))
theorem SQ:zer Tryz.prog 34=some 1:=aC
theorem SR:zfg Tryz.prog 34=some 24:=aC
theorem SS(cs:List AV)(o:Nat):zej Tryz.prog 34 cs o=cs[o]?:=zf1 Tryz.underlying34 rfl cs o
theorem SU:ze5 Tryz.prog 34=some [.nilS]:=aC
theorem SV(xs:List (List AV)){n:Int}(hn:0<=n)(k:IntKind):zeE Tryz.prog 34 (.lst xs) (.int k n)=lC 1 (xs[n.toNat]?):=zgr Tryz.underlying34 (show zer Tryz.prog 22=some 1 from by kernel_rfl) xs hn k
theorem SW(r o l z:Nat){n:Int}(hn:0<=n)(k:IntKind):zeE Tryz.prog 34 (.sl r o l z) (.int k n)=bif decide (n.toNat<l)then some (.ptr r (o+n.toNat*1))else none:=zgs Tryz.underlying34 (show zer Tryz.prog 22=some 1 from by kernel_rfl) r o l z hn k
theorem SX(H:Hp)(xs:List (List AV)):zeR Tryz.prog H 34 (.lst xs)=some (.int .i64 xs.length):=zgp Tryz.underlying34 xs
theorem SY(H:Hp)(r o n z:Nat):zeR Tryz.prog H 34 (.sl r o n z)=some (.int .i64 n):=zgg Tryz.underlying34 r o n z
theorem SZ(H:Hp):zeR Tryz.prog H 34 .nilS=some (.int .i64 0):=zgl Tryz.underlying34
def S1:=ad @SQ (ad @SS (ad @SR (ad @SU (ad @SV (ad @SW (ad @SX (ad @SY (@SZ))))))))
theorem S8:zer Tryz.prog 47=some 1:=aC
theorem Ta:zfg Tryz.prog 47=some 24:=aC
theorem Tb(cs:List AV)(o:Nat):zej Tryz.prog 47 cs o=cs[o]?:=zf1 Tryz.underlying47 rfl cs o
theorem Tc:ze5 Tryz.prog 47=some [.nilS]:=aC
theorem Td(xs:List (List AV)){n:Int}(hn:0<=n)(k:IntKind):zeE Tryz.prog 47 (.lst xs) (.int k n)=lC 9 (xs[n.toNat]?):=zgr Tryz.underlying47 (show zer Tryz.prog 65=some 9 from by kernel_rfl) xs hn k
theorem Te(r o l z:Nat){n:Int}(hn:0<=n)(k:IntKind):zeE Tryz.prog 47 (.sl r o l z) (.int k n)=bif decide (n.toNat<l)then some (.ptr r (o+n.toNat*9))else none:=zgs Tryz.underlying47 (show zer Tryz.prog 65=some 9 from by kernel_rfl) r o l z hn k
theorem Tf(H:Hp)(xs:List (List AV)):zeR Tryz.prog H 47 (.lst xs)=some (.int .i64 xs.length):=zgp Tryz.underlying47 xs
theorem Tg(H:Hp)(r o n z:Nat):zeR Tryz.prog H 47 (.sl r o n z)=some (.int .i64 n):=zgg Tryz.underlying47 r o n z
theorem Th(H:Hp):zeR Tryz.prog H 47 .nilS=some (.int .i64 0):=zgl Tryz.underlying47
def kO:=ad @S8 (ad @Tb (ad @Ta (ad @Tc (ad @Td (ad @Te (ad @Tf (ad @Tg (@Th))))))))
theorem IC:zer Tryz.prog 49=some 2:=aC
theorem Ti:zfg Tryz.prog 49=some 48:=aC
theorem Tj(cs:List AV)(o:Nat):zej Tryz.prog 49 cs o=ze6 2 (cs.drop o):=nM Tryz.underlying49 rfl IC cs o
theorem Tl:ze5 Tryz.prog 49=some [.nilS,.nilS]:=aC
theorem Tm(r o:Nat):zeg Tryz.prog 49 (.ptr r o) 0=some (.ptr r (o+0)):=aC
theorem Tn(cs:List AV):zeg Tryz.prog 49 (.iptr cs) 0=some (.iptr (cs.drop 0)):=aC
theorem To(cs:List AV):zeU Tryz.prog 49 (.agg cs) 0=zej Tryz.prog 24 cs 0:=aC
theorem Tp(r o:Nat):zeg Tryz.prog 49 (.ptr r o) 1=some (.ptr r (o+1)):=aC
theorem Tq(cs:List AV):zeg Tryz.prog 49 (.iptr cs) 1=some (.iptr (cs.drop 1)):=aC
theorem Tr(cs:List AV):zeU Tryz.prog 49 (.agg cs) 1=zej Tryz.prog 47 cs 1:=aC
def iw:=ad @IC (ad @Tj (ad @Ti (ad @Tl (ad @Tm (ad @Tn (ad @To (ad @Tp (ad @Tq (@Tr)))))))))
theorem Ts:zer Tryz.prog 53=some 1:=aC
theorem Tt:zfg Tryz.prog 53=some 8:=aC
theorem Tu(cs:List AV)(o:Nat):zej Tryz.prog 53 cs o=cs[o]?:=zf1 Tryz.underlying53 rfl cs o
theorem Tv:ze5 Tryz.prog 53=some [(.int .i64 0)]:=aC
def Tw:=ad @Ts (ad @Tu (ad @Tt (@Tv)))
theorem Tx:zer Tryz.prog 59=some 1:=aC
theorem Ty:zfg Tryz.prog 59=some 24:=aC
theorem Tz(cs:List AV)(o:Nat):zej Tryz.prog 59 cs o=cs[o]?:=zf1 Tryz.underlying59 rfl cs o
theorem TA:ze5 Tryz.prog 59=some [.nilS]:=aC
theorem TB(xs:List (List AV)){n:Int}(hn:0<=n)(k:IntKind):zeE Tryz.prog 59 (.lst xs) (.int k n)=lC 1 (xs[n.toNat]?):=zgr Tryz.underlying59 (show zer Tryz.prog 9=some 1 from by kernel_rfl) xs hn k
theorem ID(r o l z:Nat){n:Int}(hn:0<=n)(k:IntKind):zeE Tryz.prog 59 (.sl r o l z) (.int k n)=bif decide (n.toNat<l)then some (.ptr r (o+n.toNat*1))else none:=zgs Tryz.underlying59 (show zer Tryz.prog 9=some 1 from by kernel_rfl) r o l z hn k
theorem TC(H:Hp)(xs:List (List AV)):zeR Tryz.prog H 59 (.lst xs)=some (.int .i64 xs.length):=zgp Tryz.underlying59 xs
theorem TD(H:Hp)(r o n z:Nat):zeR Tryz.prog H 59 (.sl r o n z)=some (.int .i64 n):=zgg Tryz.underlying59 r o n z
theorem TE(H:Hp):zeR Tryz.prog H 59 .nilS=some (.int .i64 0):=zgl Tryz.underlying59
def iy:=ad @Tx (ad @Tz (ad @Ty (ad @TA (ad @TB (ad @ID (ad @TC (ad @TD (@TE))))))))
theorem TF:zer Tryz.prog 60=some 1:=aC
theorem TG:zfg Tryz.prog 60=some 24:=aC
theorem TH(cs:List AV)(o:Nat):zej Tryz.prog 60 cs o=cs[o]?:=zf1 Tryz.underlying60 rfl cs o
theorem TI:ze5 Tryz.prog 60=some [.nilS]:=aC
theorem TJ(xs:List (List AV)){n:Int}(hn:0<=n)(k:IntKind):zeE Tryz.prog 60 (.lst xs) (.int k n)=lC 17 (xs[n.toNat]?):=zgr Tryz.underlying60 (show zer Tryz.prog 96=some 17 from by kernel_rfl) xs hn k
theorem TK(r o l z:Nat){n:Int}(hn:0<=n)(k:IntKind):zeE Tryz.prog 60 (.sl r o l z) (.int k n)=bif decide (n.toNat<l)then some (.ptr r (o+n.toNat*17))else none:=zgs Tryz.underlying60 (show zer Tryz.prog 96=some 17 from by kernel_rfl) r o l z hn k
theorem TL(H:Hp)(xs:List (List AV)):zeR Tryz.prog H 60 (.lst xs)=some (.int .i64 xs.length):=zgp Tryz.underlying60 xs
theorem TM(H:Hp)(r o n z:Nat):zeR Tryz.prog H 60 (.sl r o n z)=some (.int .i64 n):=zgg Tryz.underlying60 r o n z
theorem TN(H:Hp):zeR Tryz.prog H 60 .nilS=some (.int .i64 0):=zgl Tryz.underlying60
def hO:=ad @TF (ad @TH (ad @TG (ad @TI (ad @TJ (ad @TK (ad @TL (ad @TM (@TN))))))))
theorem TO:zer Tryz.prog 61=some 1:=aC
theorem TP:zfg Tryz.prog 61=some 24:=aC
theorem TQ(cs:List AV)(o:Nat):zej Tryz.prog 61 cs o=cs[o]?:=zf1 Tryz.underlying61 rfl cs o
theorem TS:ze5 Tryz.prog 61=some [.nilS]:=aC
theorem TT(xs:List (List AV)){n:Int}(hn:0<=n)(k:IntKind):zeE Tryz.prog 61 (.lst xs) (.int k n)=lC 5 (xs[n.toNat]?):=zgr Tryz.underlying61 (show zer Tryz.prog 63=some 5 from by kernel_rfl) xs hn k
theorem TU(r o l z:Nat){n:Int}(hn:0<=n)(k:IntKind):zeE Tryz.prog 61 (.sl r o l z) (.int k n)=bif decide (n.toNat<l)then some (.ptr r (o+n.toNat*5))else none:=zgs Tryz.underlying61 (show zer Tryz.prog 63=some 5 from by kernel_rfl) r o l z hn k
theorem TV(H:Hp)(xs:List (List AV)):zeR Tryz.prog H 61 (.lst xs)=some (.int .i64 xs.length):=zgp Tryz.underlying61 xs
theorem TW(H:Hp)(r o n z:Nat):zeR Tryz.prog H 61 (.sl r o n z)=some (.int .i64 n):=zgg Tryz.underlying61 r o n z
theorem TX(H:Hp):zeR Tryz.prog H 61 .nilS=some (.int .i64 0):=zgl Tryz.underlying61
def gg:=ad @TO (ad @TQ (ad @TP (ad @TS (ad @TT (ad @TU (ad @TV (ad @TW (@TX))))))))
theorem DE:zer Tryz.prog 63=some 5:=aC
theorem IE:zfg Tryz.prog 63=some 64:=aC
theorem TY(cs:List AV)(o:Nat):zej Tryz.prog 63 cs o=ze6 5 (cs.drop o):=nM Tryz.underlying63 rfl DE cs o
theorem IF:ze5 Tryz.prog 63=some [(.int .i64 0),(.int .i64 0),(.str []),(.int .i64 0),.nilS]:=aC
theorem TZ(r o:Nat):zeg Tryz.prog 63 (.ptr r o) 0=some (.ptr r (o+0)):=aC
theorem T0(cs:List AV):zeg Tryz.prog 63 (.iptr cs) 0=some (.iptr (cs.drop 0)):=aC
theorem T1(cs:List AV):zeU Tryz.prog 63 (.agg cs) 0=zej Tryz.prog 3 cs 0:=aC
theorem T2(r o:Nat):zeg Tryz.prog 63 (.ptr r o) 1=some (.ptr r (o+1)):=aC
theorem T3(cs:List AV):zeg Tryz.prog 63 (.iptr cs) 1=some (.iptr (cs.drop 1)):=aC
theorem T4(cs:List AV):zeU Tryz.prog 63 (.agg cs) 1=zej Tryz.prog 2 cs 1:=aC
theorem T5(r o:Nat):zeg Tryz.prog 63 (.ptr r o) 2=some (.ptr r (o+2)):=aC
theorem T6(cs:List AV):zeg Tryz.prog 63 (.iptr cs) 2=some (.iptr (cs.drop 2)):=aC
theorem T7(cs:List AV):zeU Tryz.prog 63 (.agg cs) 2=zej Tryz.prog 9 cs 2:=aC
theorem T8(r o:Nat):zeg Tryz.prog 63 (.ptr r o) 3=some (.ptr r (o+3)):=aC
theorem T9(cs:List AV):zeg Tryz.prog 63 (.iptr cs) 3=some (.iptr (cs.drop 3)):=aC
theorem Ua(cs:List AV):zeU Tryz.prog 63 (.agg cs) 3=zej Tryz.prog 3 cs 3:=aC
theorem Ub(r o:Nat):zeg Tryz.prog 63 (.ptr r o) 4=some (.ptr r (o+4)):=aC
theorem Uc(cs:List AV):zeg Tryz.prog 63 (.iptr cs) 4=some (.iptr (cs.drop 4)):=aC
theorem Ud(cs:List AV):zeU Tryz.prog 63 (.agg cs) 4=zej Tryz.prog 61 cs 4:=aC
def fW:=ad @DE (ad @TY (ad @IE (ad @IF (ad @TZ (ad @T0 (ad @T1 (ad @T2 (ad @T3 (ad @T4 (ad @T5 (ad @T6 (ad @T7 (ad @T8 (ad @T9 (ad @Ua (ad @Ub (ad @Uc (@Ud))))))))))))))))))
theorem IG:zer Tryz.prog 65=some 9:=aC
theorem Ue:zfg Tryz.prog 65=some 152:=aC
theorem Uf(cs:List AV)(o:Nat):zej Tryz.prog 65 cs o=ze6 9 (cs.drop o):=nM Tryz.underlying65 rfl IG cs o
theorem Ug:ze5 Tryz.prog 65=some [(.str []),.nilS,.nilS,.nilS,(.int .i64 0),(.int .i64 0),(.str []),(.int .i64 0),.nilS]:=aC
theorem Uh(r o:Nat):zeg Tryz.prog 65 (.ptr r o) 0=some (.ptr r (o+0)):=aC
theorem Ui(cs:List AV):zeg Tryz.prog 65 (.iptr cs) 0=some (.iptr (cs.drop 0)):=aC
theorem Uj(cs:List AV):zeU Tryz.prog 65 (.agg cs) 0=zej Tryz.prog 9 cs 0:=aC
theorem Uk(r o:Nat):zeg Tryz.prog 65 (.ptr r o) 1=some (.ptr r (o+1)):=aC
theorem Ul(cs:List AV):zeg Tryz.prog 65 (.iptr cs) 1=some (.iptr (cs.drop 1)):=aC
theorem Um(cs:List AV):zeU Tryz.prog 65 (.agg cs) 1=zej Tryz.prog 59 cs 1:=aC
theorem Uo(r o:Nat):zeg Tryz.prog 65 (.ptr r o) 2=some (.ptr r (o+2)):=aC
theorem Up(cs:List AV):zeg Tryz.prog 65 (.iptr cs) 2=some (.iptr (cs.drop 2)):=aC
theorem Uq(cs:List AV):zeU Tryz.prog 65 (.agg cs) 2=zej Tryz.prog 59 cs 2:=aC
theorem Ur(r o:Nat):zeg Tryz.prog 65 (.ptr r o) 3=some (.ptr r (o+3)):=aC
theorem Us(cs:List AV):zeg Tryz.prog 65 (.iptr cs) 3=some (.iptr (cs.drop 3)):=aC
theorem Ut(cs:List AV):zeU Tryz.prog 65 (.agg cs) 3=zej Tryz.prog 60 cs 3:=aC
theorem Uu(r o:Nat):zeg Tryz.prog 65 (.ptr r o) 4=some (.ptr r (o+4)):=aC
theorem Uv(cs:List AV):zeg Tryz.prog 65 (.iptr cs) 4=some (.iptr (cs.drop 4)):=aC
theorem Uw(cs:List AV):zeU Tryz.prog 65 (.agg cs) 4=zej Tryz.prog 63 cs 4:=aC
def r7:=ad @IG (ad @Uf (ad @Ue (ad @Ug (ad @Uh (ad @Ui (ad @Uj (ad @Uk (ad @Ul (ad @Um (ad @Uo (ad @Up (ad @Uq (ad @Ur (ad @Us (ad @Ut (ad @Uu (ad @Uv (@Uw))))))))))))))))))
theorem oW:zer Tryz.prog 67=some 3:=aC
theorem vp:zfg Tryz.prog 67=some 40:=aC
theorem Ux(cs:List AV)(o:Nat):zej Tryz.prog 67 cs o=ze6 3 (cs.drop o):=nM Tryz.underlying67 rfl oW cs o
theorem vq:ze5 Tryz.prog 67=some [(.int .i64 0),(.int .i64 0),.nilS]:=aC
theorem Uy(r o:Nat):zeg Tryz.prog 67 (.ptr r o) 0=some (.ptr r (o+0)):=aC
theorem Uz(cs:List AV):zeg Tryz.prog 67 (.iptr cs) 0=some (.iptr (cs.drop 0)):=aC
theorem UA(cs:List AV):zeU Tryz.prog 67 (.agg cs) 0=zej Tryz.prog 3 cs 0:=aC
theorem UB(r o:Nat):zeg Tryz.prog 67 (.ptr r o) 1=some (.ptr r (o+1)):=aC
theorem UC(cs:List AV):zeg Tryz.prog 67 (.iptr cs) 1=some (.iptr (cs.drop 1)):=aC
theorem UD(cs:List AV):zeU Tryz.prog 67 (.agg cs) 1=zej Tryz.prog 2 cs 1:=aC
theorem UE(r o:Nat):zeg Tryz.prog 67 (.ptr r o) 2=some (.ptr r (o+2)):=aC
theorem UF(cs:List AV):zeg Tryz.prog 67 (.iptr cs) 2=some (.iptr (cs.drop 2)):=aC
theorem UG(cs:List AV):zeU Tryz.prog 67 (.agg cs) 2=zej Tryz.prog 23 cs 2:=aC
def jP:=ad @oW (ad @Ux (ad @vp (ad @vq (ad @Uy (ad @Uz (ad @UA (ad @UB (ad @UC (ad @UD (ad @UE (ad @UF (@UG))))))))))))
theorem UH:zer Tryz.prog 71=some 1:=aC
theorem UI:zfg Tryz.prog 71=some 24:=aC
theorem UJ(cs:List AV)(o:Nat):zej Tryz.prog 71 cs o=cs[o]?:=zf1 Tryz.underlying71 rfl cs o
theorem UK:ze5 Tryz.prog 71=some [.nilS]:=aC
theorem UL(xs:List (List AV)){n:Int}(hn:0<=n)(k:IntKind):zeE Tryz.prog 71 (.lst xs) (.int k n)=lC 1 (xs[n.toNat]?):=zgr Tryz.underlying71 (show zer Tryz.prog 2=some 1 from by kernel_rfl) xs hn k
theorem UM(r o l z:Nat){n:Int}(hn:0<=n)(k:IntKind):zeE Tryz.prog 71 (.sl r o l z) (.int k n)=bif decide (n.toNat<l)then some (.ptr r (o+n.toNat*1))else none:=zgs Tryz.underlying71 (show zer Tryz.prog 2=some 1 from by kernel_rfl) r o l z hn k
theorem UN(H:Hp)(xs:List (List AV)):zeR Tryz.prog H 71 (.lst xs)=some (.int .i64 xs.length):=zgp Tryz.underlying71 xs
theorem UO(H:Hp)(r o n z:Nat):zeR Tryz.prog H 71 (.sl r o n z)=some (.int .i64 n):=zgg Tryz.underlying71 r o n z
theorem UP(H:Hp):zeR Tryz.prog H 71 .nilS=some (.int .i64 0):=zgl Tryz.underlying71
def UQ:=ad @UH (ad @UJ (ad @UI (ad @UK (ad @UL (ad @UM (ad @UN (ad @UO (@UP))))))))
theorem II:zer Tryz.prog 78=some 2:=aC
theorem UR:zfg Tryz.prog 78=some 32:=aC
theorem US(cs:List AV)(o:Nat):zej Tryz.prog 78 cs o=ze6 2 (cs.drop o):=nM Tryz.underlying78 rfl II cs o
theorem UT:ze5 Tryz.prog 78=some [.nilS,(.int .i64 0)]:=aC
theorem UU(r o:Nat):zeg Tryz.prog 78 (.ptr r o) 0=some (.ptr r (o+0)):=aC
theorem UV(cs:List AV):zeg Tryz.prog 78 (.iptr cs) 0=some (.iptr (cs.drop 0)):=aC
theorem UW(cs:List AV):zeU Tryz.prog 78 (.agg cs) 0=zej Tryz.prog 23 cs 0:=aC
theorem UX(r o:Nat):zeg Tryz.prog 78 (.ptr r o) 1=some (.ptr r (o+1)):=aC
theorem UY(cs:List AV):zeg Tryz.prog 78 (.iptr cs) 1=some (.iptr (cs.drop 1)):=aC
theorem UZ(cs:List AV):zeU Tryz.prog 78 (.agg cs) 1=zej Tryz.prog 3 cs 1:=aC
def tO:=ad @II (ad @US (ad @UR (ad @UT (ad @UU (ad @UV (ad @UW (ad @UX (ad @UY (@UZ)))))))))
theorem U0:zer Tryz.prog 84=some 1:=aC
theorem U1:zfg Tryz.prog 84=some 24:=aC
theorem U2(cs:List AV)(o:Nat):zej Tryz.prog 84 cs o=cs[o]?:=zf1 Tryz.underlying84 rfl cs o
theorem U3:ze5 Tryz.prog 84=some [.nilS]:=aC
theorem U4(xs:List (List AV)){n:Int}(hn:0<=n)(k:IntKind):zeE Tryz.prog 84 (.lst xs) (.int k n)=lC 1 (xs[n.toNat]?):=zgr Tryz.underlying84 (show zer Tryz.prog 4=some 1 from by kernel_rfl) xs hn k
theorem U5(r o l z:Nat){n:Int}(hn:0<=n)(k:IntKind):zeE Tryz.prog 84 (.sl r o l z) (.int k n)=bif decide (n.toNat<l)then some (.ptr r (o+n.toNat*1))else none:=zgs Tryz.underlying84 (show zer Tryz.prog 4=some 1 from by kernel_rfl) r o l z hn k
theorem U6(H:Hp)(xs:List (List AV)):zeR Tryz.prog H 84 (.lst xs)=some (.int .i64 xs.length):=zgp Tryz.underlying84 xs
theorem U7(H:Hp)(r o n z:Nat):zeR Tryz.prog H 84 (.sl r o n z)=some (.int .i64 n):=zgg Tryz.underlying84 r o n z
theorem U8(H:Hp):zeR Tryz.prog H 84 .nilS=some (.int .i64 0):=zgl Tryz.underlying84
def vr:=ad @U0 (ad @U2 (ad @U1 (ad @U3 (ad @U4 (ad @U5 (ad @U6 (ad @U7 (@U8))))))))
theorem z5:zer Tryz.prog 86=some 2:=aC
theorem DF:zfg Tryz.prog 86=some 24:=aC
theorem U9(cs:List AV)(o:Nat):zej Tryz.prog 86 cs o=ze6 2 (cs.drop o):=nM Tryz.underlying86 rfl z5 cs o
theorem DG:ze5 Tryz.prog 86=some [(.str []),(.int .i64 0)]:=aC
theorem Va(r o:Nat):zeg Tryz.prog 86 (.ptr r o) 0=some (.ptr r (o+0)):=aC
theorem Vb(cs:List AV):zeg Tryz.prog 86 (.iptr cs) 0=some (.iptr (cs.drop 0)):=aC
theorem Vc(cs:List AV):zeU Tryz.prog 86 (.agg cs) 0=zej Tryz.prog 9 cs 0:=aC
theorem Vd(r o:Nat):zeg Tryz.prog 86 (.ptr r o) 1=some (.ptr r (o+1)):=aC
theorem Ve(cs:List AV):zeg Tryz.prog 86 (.iptr cs) 1=some (.iptr (cs.drop 1)):=aC
theorem Vf(cs:List AV):zeU Tryz.prog 86 (.agg cs) 1=zej Tryz.prog 3 cs 1:=aC
def qO:=ad @z5 (ad @U9 (ad @DF (ad @DG (ad @Va (ad @Vb (ad @Vc (ad @Vd (ad @Ve (@Vf)))))))))
theorem Vg:zer Tryz.prog 93=some 1:=aC
theorem Vh:zfg Tryz.prog 93=some 24:=aC
theorem Vi(cs:List AV)(o:Nat):zej Tryz.prog 93 cs o=cs[o]?:=zf1 Tryz.underlying93 rfl cs o
theorem Vj:ze5 Tryz.prog 93=some [.nilS]:=aC
theorem Vk(xs:List (List AV)){n:Int}(hn:0<=n)(k:IntKind):zeE Tryz.prog 93 (.lst xs) (.int k n)=lC 1 (xs[n.toNat]?):=zgr Tryz.underlying93 (show zer Tryz.prog 5=some 1 from by kernel_rfl) xs hn k
theorem Vl(r o l z:Nat){n:Int}(hn:0<=n)(k:IntKind):zeE Tryz.prog 93 (.sl r o l z) (.int k n)=bif decide (n.toNat<l)then some (.ptr r (o+n.toNat*1))else none:=zgs Tryz.underlying93 (show zer Tryz.prog 5=some 1 from by kernel_rfl) r o l z hn k
theorem Vm(H:Hp)(xs:List (List AV)):zeR Tryz.prog H 93 (.lst xs)=some (.int .i64 xs.length):=zgp Tryz.underlying93 xs
theorem Vn(H:Hp)(r o n z:Nat):zeR Tryz.prog H 93 (.sl r o n z)=some (.int .i64 n):=zgg Tryz.underlying93 r o n z
theorem Vo(H:Hp):zeR Tryz.prog H 93 .nilS=some (.int .i64 0):=zgl Tryz.underlying93
def IJ:=ad @Vg (ad @Vi (ad @Vh (ad @Vj (ad @Vk (ad @Vl (ad @Vm (ad @Vn (@Vo))))))))
theorem DH:zer Tryz.prog 96=some 17:=aC
theorem IK:zfg Tryz.prog 96=some 248:=aC
theorem Vp(cs:List AV)(o:Nat):zej Tryz.prog 96 cs o=ze6 17 (cs.drop o):=nM Tryz.underlying96 rfl DH cs o
theorem IL:ze5 Tryz.prog 96=some [(.int .i64 0),(.str []),(.str []),(.int .i64 0),(.int .i64 0),(.int .i64 0),(.str []),(.int .i64 0),.nilS,(.int .i64 0),(.int .i64 0),(.str []),(.int .i64 0),.nilS,.nilS,.nilS,.nilS]:=aC
theorem Vq(r o:Nat):zeg Tryz.prog 96 (.ptr r o) 0=some (.ptr r (o+0)):=aC
theorem Vr(cs:List AV):zeg Tryz.prog 96 (.iptr cs) 0=some (.iptr (cs.drop 0)):=aC
theorem Vs(cs:List AV):zeU Tryz.prog 96 (.agg cs) 0=zej Tryz.prog 3 cs 0:=aC
theorem Vt(r o:Nat):zeg Tryz.prog 96 (.ptr r o) 1=some (.ptr r (o+1)):=aC
theorem Vu(cs:List AV):zeg Tryz.prog 96 (.iptr cs) 1=some (.iptr (cs.drop 1)):=aC
theorem Vv(cs:List AV):zeU Tryz.prog 96 (.agg cs) 1=zej Tryz.prog 9 cs 1:=aC
theorem Vw(r o:Nat):zeg Tryz.prog 96 (.ptr r o) 2=some (.ptr r (o+2)):=aC
theorem Vx(cs:List AV):zeg Tryz.prog 96 (.iptr cs) 2=some (.iptr (cs.drop 2)):=aC
theorem Vy(cs:List AV):zeU Tryz.prog 96 (.agg cs) 2=zej Tryz.prog 9 cs 2:=aC
theorem Vz(r o:Nat):zeg Tryz.prog 96 (.ptr r o) 3=some (.ptr r (o+3)):=aC
theorem VA(cs:List AV):zeg Tryz.prog 96 (.iptr cs) 3=some (.iptr (cs.drop 3)):=aC
theorem VB(cs:List AV):zeU Tryz.prog 96 (.agg cs) 3=zej Tryz.prog 3 cs 3:=aC
theorem VC(r o:Nat):zeg Tryz.prog 96 (.ptr r o) 4=some (.ptr r (o+4)):=aC
theorem VD(cs:List AV):zeg Tryz.prog 96 (.iptr cs) 4=some (.iptr (cs.drop 4)):=aC
theorem VE(cs:List AV):zeU Tryz.prog 96 (.agg cs) 4=zej Tryz.prog 63 cs 4:=aC
theorem VF(r o:Nat):zeg Tryz.prog 96 (.ptr r o) 5=some (.ptr r (o+9)):=aC
theorem VG(cs:List AV):zeg Tryz.prog 96 (.iptr cs) 5=some (.iptr (cs.drop 9)):=aC
theorem VH(cs:List AV):zeU Tryz.prog 96 (.agg cs) 5=zej Tryz.prog 63 cs 9:=aC
theorem VI(r o:Nat):zeg Tryz.prog 96 (.ptr r o) 6=some (.ptr r (o+14)):=aC
theorem VJ(cs:List AV):zeg Tryz.prog 96 (.iptr cs) 6=some (.iptr (cs.drop 14)):=aC
theorem VK(cs:List AV):zeU Tryz.prog 96 (.agg cs) 6=zej Tryz.prog 61 cs 14:=aC
theorem VL(r o:Nat):zeg Tryz.prog 96 (.ptr r o) 7=some (.ptr r (o+15)):=aC
theorem VM(cs:List AV):zeg Tryz.prog 96 (.iptr cs) 7=some (.iptr (cs.drop 15)):=aC
theorem VN(cs:List AV):zeU Tryz.prog 96 (.agg cs) 7=zej Tryz.prog 60 cs 15:=aC
theorem VO(r o:Nat):zeg Tryz.prog 96 (.ptr r o) 8=some (.ptr r (o+16)):=aC
theorem VP(cs:List AV):zeg Tryz.prog 96 (.iptr cs) 8=some (.iptr (cs.drop 16)):=aC
theorem VQ(cs:List AV):zeU Tryz.prog 96 (.agg cs) 8=zej Tryz.prog 60 cs 16:=aC
def iz:=ad @DH (ad @Vp (ad @IK (ad @IL (ad @Vq (ad @Vr (ad @Vs (ad @Vt (ad @Vu (ad @Vv (ad @Vw (ad @Vx (ad @Vy (ad @Vz (ad @VA (ad @VB (ad @VC (ad @VD (ad @VE (ad @VF (ad @VG (ad @VH (ad @VI (ad @VJ (ad @VK (ad @VL (ad @VM (ad @VN (ad @VO (ad @VP (@VQ))))))))))))))))))))))))))))))
theorem VS:zer Tryz.prog 98=some 1:=aC
theorem VT:zfg Tryz.prog 98=some 8:=aC
theorem VU(cs:List AV)(o:Nat):zej Tryz.prog 98 cs o=cs[o]?:=zf1 Tryz.underlying98 rfl cs o
theorem VV:ze5 Tryz.prog 98=some [.nilM]:=aC
def tP:=ad @VS (ad @VU (ad @VT (@VV)))
theorem IM:zer Tryz.prog 101=some 10:=aC
theorem VW:zfg Tryz.prog 101=some 144:=aC
theorem VX(cs:List AV)(o:Nat):zej Tryz.prog 101 cs o=ze6 10 (cs.drop o):=nM Tryz.underlying101 rfl IM cs o
theorem VY:ze5 Tryz.prog 101=some [.nilS,.nilS,.nilM,.nilM,.nilS,.nilM,.nilM,.nilS,(.int .i64 0),(.int .i64 0)]:=aC
theorem VZ(r o:Nat):zeg Tryz.prog 101 (.ptr r o) 0=some (.ptr r (o+0)):=aC
theorem V0(cs:List AV):zeg Tryz.prog 101 (.iptr cs) 0=some (.iptr (cs.drop 0)):=aC
theorem V3(cs:List AV):zeU Tryz.prog 101 (.agg cs) 0=zej Tryz.prog 49 cs 0:=aC
theorem V4(r o:Nat):zeg Tryz.prog 101 (.ptr r o) 1=some (.ptr r (o+2)):=aC
theorem V7(cs:List AV):zeg Tryz.prog 101 (.iptr cs) 1=some (.iptr (cs.drop 2)):=aC
theorem V8(cs:List AV):zeU Tryz.prog 101 (.agg cs) 1=zej Tryz.prog 98 cs 2:=aC
theorem V9(r o:Nat):zeg Tryz.prog 101 (.ptr r o) 2=some (.ptr r (o+3)):=aC
theorem Wa(cs:List AV):zeg Tryz.prog 101 (.iptr cs) 2=some (.iptr (cs.drop 3)):=aC
theorem Wb(cs:List AV):zeU Tryz.prog 101 (.agg cs) 2=zej Tryz.prog 98 cs 3:=aC
theorem Wc(r o:Nat):zeg Tryz.prog 101 (.ptr r o) 3=some (.ptr r (o+4)):=aC
theorem Wd(cs:List AV):zeg Tryz.prog 101 (.iptr cs) 3=some (.iptr (cs.drop 4)):=aC
theorem We(cs:List AV):zeU Tryz.prog 101 (.agg cs) 3=zej Tryz.prog 22 cs 4:=aC
theorem Wf(r o:Nat):zeg Tryz.prog 101 (.ptr r o) 4=some (.ptr r (o+5)):=aC
theorem Wg(cs:List AV):zeg Tryz.prog 101 (.iptr cs) 4=some (.iptr (cs.drop 5)):=aC
theorem Wh(cs:List AV):zeU Tryz.prog 101 (.agg cs) 4=zej Tryz.prog 98 cs 5:=aC
theorem Wi(r o:Nat):zeg Tryz.prog 101 (.ptr r o) 5=some (.ptr r (o+6)):=aC
theorem Wk(cs:List AV):zeg Tryz.prog 101 (.iptr cs) 5=some (.iptr (cs.drop 6)):=aC
theorem Wl(cs:List AV):zeU Tryz.prog 101 (.agg cs) 5=zej Tryz.prog 98 cs 6:=aC
theorem Wm(r o:Nat):zeg Tryz.prog 101 (.ptr r o) 6=some (.ptr r (o+7)):=aC
theorem Wn(cs:List AV):zeg Tryz.prog 101 (.iptr cs) 6=some (.iptr (cs.drop 7)):=aC
theorem Wo(cs:List AV):zeU Tryz.prog 101 (.agg cs) 6=zej Tryz.prog 23 cs 7:=aC
theorem Wp(r o:Nat):zeg Tryz.prog 101 (.ptr r o) 7=some (.ptr r (o+8)):=aC
theorem Wq(cs:List AV):zeg Tryz.prog 101 (.iptr cs) 7=some (.iptr (cs.drop 8)):=aC
theorem Wr(cs:List AV):zeU Tryz.prog 101 (.agg cs) 7=zej Tryz.prog 3 cs 8:=aC
theorem Ws(r o:Nat):zeg Tryz.prog 101 (.ptr r o) 8=some (.ptr r (o+9)):=aC
theorem Wt(cs:List AV):zeg Tryz.prog 101 (.iptr cs) 8=some (.iptr (cs.drop 9)):=aC
theorem Wu(cs:List AV):zeU Tryz.prog 101 (.agg cs) 8=zej Tryz.prog 3 cs 9:=aC
def tQ:=ad @IM (ad @VX (ad @VW (ad @VY (ad @VZ (ad @V0 (ad @V3 (ad @V4 (ad @V7 (ad @V8 (ad @V9 (ad @Wa (ad @Wb (ad @Wc (ad @Wd (ad @We (ad @Wf (ad @Wg (ad @Wh (ad @Wi (ad @Wk (ad @Wl (ad @Wm (ad @Wn (ad @Wo (ad @Wp (ad @Wq (ad @Wr (ad @Ws (ad @Wt (@Wu))))))))))))))))))))))))))))))
theorem IN:zer Tryz.prog 105=some 7:=aC
theorem Wv:zfg Tryz.prog 105=some 136:=aC
theorem Ww(cs:List AV)(o:Nat):zej Tryz.prog 105 cs o=ze6 7 (cs.drop o):=nM Tryz.underlying105 rfl IN cs o
theorem Wx:ze5 Tryz.prog 105=some [.nilS,.nilS,.nilS,.nilS,.nilS,(.int .i64 0),(.int .i64 0)]:=aC
theorem Wy(r o:Nat):zeg Tryz.prog 105 (.ptr r o) 0=some (.ptr r (o+0)):=aC
theorem Wz(cs:List AV):zeg Tryz.prog 105 (.iptr cs) 0=some (.iptr (cs.drop 0)):=aC
theorem WA(cs:List AV):zeU Tryz.prog 105 (.agg cs) 0=zej Tryz.prog 49 cs 0:=aC
theorem WB(r o:Nat):zeg Tryz.prog 105 (.ptr r o) 1=some (.ptr r (o+2)):=aC
theorem WC(cs:List AV):zeg Tryz.prog 105 (.iptr cs) 1=some (.iptr (cs.drop 2)):=aC
theorem WD(cs:List AV):zeU Tryz.prog 105 (.agg cs) 1=zej Tryz.prog 22 cs 2:=aC
theorem WE(r o:Nat):zeg Tryz.prog 105 (.ptr r o) 2=some (.ptr r (o+3)):=aC
theorem WF(cs:List AV):zeg Tryz.prog 105 (.iptr cs) 2=some (.iptr (cs.drop 3)):=aC
theorem WG(cs:List AV):zeU Tryz.prog 105 (.agg cs) 2=zej Tryz.prog 59 cs 3:=aC
theorem WH(r o:Nat):zeg Tryz.prog 105 (.ptr r o) 3=some (.ptr r (o+4)):=aC
theorem WI(cs:List AV):zeg Tryz.prog 105 (.iptr cs) 3=some (.iptr (cs.drop 4)):=aC
theorem WJ(cs:List AV):zeU Tryz.prog 105 (.agg cs) 3=zej Tryz.prog 23 cs 4:=aC
theorem WK(r o:Nat):zeg Tryz.prog 105 (.ptr r o) 4=some (.ptr r (o+5)):=aC
theorem WL(cs:List AV):zeg Tryz.prog 105 (.iptr cs) 4=some (.iptr (cs.drop 5)):=aC
theorem WM(cs:List AV):zeU Tryz.prog 105 (.agg cs) 4=zej Tryz.prog 3 cs 5:=aC
theorem WN(r o:Nat):zeg Tryz.prog 105 (.ptr r o) 5=some (.ptr r (o+6)):=aC
theorem WO(cs:List AV):zeg Tryz.prog 105 (.iptr cs) 5=some (.iptr (cs.drop 6)):=aC
theorem WP(cs:List AV):zeU Tryz.prog 105 (.agg cs) 5=zej Tryz.prog 3 cs 6:=aC
def qP:=ad @IN (ad @Ww (ad @Wv (ad @Wx (ad @Wy (ad @Wz (ad @WA (ad @WB (ad @WC (ad @WD (ad @WE (ad @WF (ad @WG (ad @WH (ad @WI (ad @WJ (ad @WK (ad @WL (ad @WM (ad @WN (ad @WO (@WP)))))))))))))))))))))
theorem IP:zer Tryz.prog 116=some 4:=aC
theorem WQ:zfg Tryz.prog 116=some 96:=aC
theorem WR(cs:List AV)(o:Nat):zej Tryz.prog 116 cs o=ze6 4 (cs.drop o):=nM Tryz.underlying116 rfl IP cs o
theorem WS:ze5 Tryz.prog 116=some [.nilS,.nilS,.nilS,.nilS]:=aC
theorem WT(r o:Nat):zeg Tryz.prog 116 (.ptr r o) 0=some (.ptr r (o+0)):=aC
theorem WU(cs:List AV):zeg Tryz.prog 116 (.iptr cs) 0=some (.iptr (cs.drop 0)):=aC
theorem WV(cs:List AV):zeU Tryz.prog 116 (.agg cs) 0=zej Tryz.prog 59 cs 0:=aC
theorem WW(r o:Nat):zeg Tryz.prog 116 (.ptr r o) 1=some (.ptr r (o+1)):=aC
theorem WX(cs:List AV):zeg Tryz.prog 116 (.iptr cs) 1=some (.iptr (cs.drop 1)):=aC
theorem WY(cs:List AV):zeU Tryz.prog 116 (.agg cs) 1=zej Tryz.prog 59 cs 1:=aC
theorem WZ(r o:Nat):zeg Tryz.prog 116 (.ptr r o) 2=some (.ptr r (o+2)):=aC
theorem W0(cs:List AV):zeg Tryz.prog 116 (.iptr cs) 2=some (.iptr (cs.drop 2)):=aC
theorem W1(cs:List AV):zeU Tryz.prog 116 (.agg cs) 2=zej Tryz.prog 49 cs 2:=aC
def DI:=ad @IP (ad @WR (ad @WQ (ad @WS (ad @WT (ad @WU (ad @WV (ad @WW (ad @WX (ad @WY (ad @WZ (ad @W0 (@W1))))))))))))
theorem W9:zer Tryz.prog 182=some 1:=aC
theorem Xa:zfg Tryz.prog 182=some 8:=aC
theorem Xb(cs:List AV)(o:Nat):zej Tryz.prog 182 cs o=cs[o]?:=zf1 Tryz.underlying182 rfl cs o
theorem Xc:ze5 Tryz.prog 182=some [(.int .u64 0)]:=aC
def IQ:=ad @W9 (ad @Xb (ad @Xa (@Xc)))
theorem Xd:zer Tryz.prog 185=some 1:=aC
theorem Xe:zfg Tryz.prog 185=some 8:=aC
theorem Xf(cs:List AV)(o:Nat):zej Tryz.prog 185 cs o=cs[o]?:=zf1 Tryz.underlying185 rfl cs o
theorem Xg:ze5 Tryz.prog 185=some [(.int .u64 0)]:=aC
def IR:=ad @Xd (ad @Xf (ad @Xe (@Xg)))
theorem IT(H:Hp)(k:IntKind)(n:Int):jq Tryz.prog H 2 185 (.int k n)=some (.int .u64 (IntKind.wrap .u64 n)):=xB
theorem IU(H:Hp)(k:IntKind)(n:Int):jq Tryz.prog H 3 5 (.int k n)=some (.int .u8 (IntKind.wrap .u8 n)):=xB
theorem IV(H:Hp)(k:IntKind)(n:Int):jq Tryz.prog H 3 182 (.int k n)=some (.int .u64 (IntKind.wrap .u64 n)):=xB
theorem IX(H:Hp)(k:IntKind)(n:Int):jq Tryz.prog H 3 185 (.int k n)=some (.int .u64 (IntKind.wrap .u64 n)):=xB
theorem IY(H:Hp)(k:IntKind)(n:Int):jq Tryz.prog H 185 5 (.int k n)=some (.int .u8 (IntKind.wrap .u8 n)):=xB
end Go.Proofs.YtpbcimfiofmoeaaGreat
namespace Go.Ab
set_option maxRecDepth 20000
open Go
variable {P:Program} {cfg:Cfg} {f N:Nat}
theorem zeL{a:SC}{E:aG}{H:Hp}{Q:AX->aG->Hp->Prop}(cs rs:List Nat)(slot n:Nat)(J:Nat->aG->Hp->Prop)(h0:E.at slot=.int .i64 0)(hJ:J 0 E H)
 (h:∀(i:Nat) (E':aG) (H':Hp),i<=n->(∀k∈cs,E'.at k=E.at k)->(∀r∈rs,H'.get r=H.get r)->H.next<=H'.next->E'.at slot=.int .i64 i->J i E' H' ->
   zex P cfg f N a E' H' (lA Q fun E2 H2=>i<n/\(∀k∈cs,E2.at k=E.at k)/\(∀r∈rs,H2.get r=H.get r)/\H.next<=H2.next/\E2.at slot=.int .i64 ((i+1:Nat):Int)/\J (i+1) E2 H2)):zex P cfg f N (.loop a) E H Q:=
 Qm (fun i E' H'=>(∀k∈cs,E'.at k=E.at k)/\(∀r∈rs,H'.get r=H.get r)/\H.next<=H'.next/\E'.at slot=.int .i64 i/\J i E' H') n (fun i E' H' hi ⟨h1,h2,h3,h4,h5⟩=>h i E' H' hi h1 h2 h3 h4 h5) ⟨fun _ _=>rfl,fun _ _=>rfl,aM _,h0,hJ⟩
theorem DJ{a:SC}{E:aG}{H:Hp}{Q:AX->aG->Hp->Prop}(cs rs:List Nat)(J:Nat->aG->Hp->Prop)(n:Nat)(hJ:J n E H)
 (h:∀(i:Nat) (E':aG) (H':Hp),(∀k∈cs,E'.at k=E.at k)->(∀r∈rs,H'.get r=H.get r)->H.next<=H'.next->J i E' H' ->
   zex P cfg f N a E' H' (lA Q fun E2 H2=>(∀k∈cs,E2.at k=E.at k)/\(∀r∈rs,H2.get r=H.get r)/\H.next<=H2.next/\∃m,m<i/\J m E2 H2)):zex P cfg f N (.loop a) E H Q:=
 zex.loop (fun i E' H'=>(∀k∈cs,E'.at k=E.at k)/\(∀r∈rs,H'.get r=H.get r)/\H.next<=H'.next/\J i E' H') (fun i E' H' ⟨h1,h2,h3,h4⟩=>zex.mono (fun x E2 H2 hq=>by
  cases x with
  |normal=>obtain⟨q1,q2,q3,m,q4,q5⟩:=hq;exact⟨m,q4,q1,q2,q3,q5⟩
  |exit id=>exact hq
  |ret=>exact hq) (h i E' H' h1 h2 h3 h4)) (n:=n) ⟨fun _ _=>rfl,fun _ _=>rfl,aM _,hJ⟩
theorem zec{p:Nat->Prop}{a:Nat}{l:List Nat}:(∀k∈a::l,p k)↔p a/\∀k∈l,p k:=Dw
theorem zeb{p:Nat->Prop}:(∀k∈([]:List Nat),p k)↔True:=⟨fun _=>trivial,fun _ _ h=>pS⟩
theorem zeq{a b:Nat}(h:a≠b):(a == b)=false:=jM
theorem zfQ{i n:Nat}(h:i<n)(hn:n<2^62):AV.int .i64 (IntKind.wrap .i64 ((i:Int)+1))=.int .i64 ((i+1:Nat):Int):=by rw[pW ac]
end Go.Ab
