/- Parts: Facts, AbFor, AbSp. -/
import Derived.KernelRfl
import Derived.Test.YtpbcimfiofmoeaaGreatMCE
import Derived.Test.YtpbcimfiofmoeaaGreatRows
set_option linter.unusedSimpArgs false
set_option linter.unusedVariables false
set_option linter.unusedSectionVars false
set_option linter.defProp false
set_option maxHeartbeats 32000000
namespace Go.Ab
set_option maxRecDepth 20000
open Go
theorem xc{P:Prop}(h:P:=by cases k<;>kernel_rfl):P:=h
def ad:=@And.intro
def ir:=@Bool.not_false
def cp:=@List.length_map
def fq:=@Bool.true_and
def aR:=@and_true
def ja:=@Int.toNat_natCast
def Ct:=@List.forall_mem_cons
def cn:=@Option.bind_some
def qL:=@List.map_set
def GD:=@List.ext_getElem?
end Go.Ab
namespace Go.Proofs.YtpbcimfiofmoeaaGreat
set_option maxRecDepth 20000
open Go Go.Ab
def zk1:=ad @WK (ad @List.toList_toArray.{0} (ad @zlI (ad @sE (ad @znF (ad @lC (ad @ir (ad @List.length_map.{0,0} (ad @Int.natCast_zero (ad @VL (ad @VM (ad @VN (ad @VO (ad @VP (ad @kh (ad @cond_true.{1} (ad @cond_false.{1} (@bL)))))))))))))))))
def zk7:=ad @Ex.clen (ad @Ex.c0 (ad @Ex.c1 (ad @Ex.c2 (ad @Ex.c3 (ad @Ex.c4 (ad @Ex.whole (ad @Ex.one (ad @St.clen (ad @St.c0 (ad @St.c1 (ad @St.c2 (ad @St.c3 (ad @St.c4 (ad @St.c5 (ad @St.c6 (ad @St.c7 (ad @St.c8 (ad @St.c9 (ad @St.c10 (ad @St.c11 (ad @St.c12 (ad @St.c13 (ad @St.c14 (ad @St.c15 (ad @St.c16 (ad @St.whole (ad @St.one (ad @WT (ad @St.part_value (ad @Fu.clen (ad @Fu.c0 (ad @Fu.c1 (ad @Fu.c2 (ad @Fu.c3 (ad @Fu.c4 (ad @Fu.c5 (ad @Fu.c6 (ad @Fu.c7 (ad @Fu.c8 (ad @Fu.whole (ad @Fu.one (ad @Fu.part_value (ad @Ar.clen (ad @Ar.c0 (ad @Ar.c1 (ad @Ar.whole (ad @Ar.one (ad @Pr.clen (ad @Pr.c0 (ad @Pr.c1 (ad @Pr.whole (ad @Pr.one (ad @Tk.clen (ad @Tk.c0 (ad @Tk.c1 (ad @Tk.c2 (ad @Tk.whole (ad @Tk.one (ad @Nd.clen (ad @Nd.c0 (ad @Nd.c1 (ad @Nd.c2 (ad @Nd.whole (ad @Nd.one (ad @Gr.clen (ad @Gr.c0 (ad @Gr.c1 (ad @Gr.c2 (ad @Gr.c3 (ad @Gr.c4 (ad @Gr.whole (ad @Gr.one (ad @Un.clen (ad @Un.c0 (ad @Un.c1 (ad @Un.whole (ad @Un.one (ad @WB (ad @WC (ad @WD (ad @WE (ad @List.getElem?_drop.{0} (ad @sG (ad @if_true.{1} (ad @Cn (ad @Cm (ad @Gw (ad @Wi (ad @cells_int (ad @Lt (ad @Wk (ad @Wl (ad @Wm (ad @Wn (ad @Wo (ad @Wp (ad @Wq (ad @Wr (ad @Wt (ad @Wu (ad @Wv (ad @Ww (ad @Wx (ad @Wy (ad @Wz (ad @WA (ad @List.all_cons.{0} (ad @List.all_nil.{0} (ad @fR (ad @fq (ad @aR (ad @j9 (ad @dm (ad @aB (ad @List.nil_append.{0} (ad @List.append_nil.{0} (ad @List.cons_append.{0} (ad @zk9 (ad @zli (ad @zlI (ad @beq_self_eq_true.{0} (ad @Gx (ad @Gy (ad @Lu (ad @iE (ad @List.getElem?_map.{0,0} (ad @Option.map_some.{0,0} (ad @Wg (ad @Wh (ad @Wf (ad @Wc (ad @Wd (ad @get_set (ad @vz (ad @List.getElem?_cons_succ.{0} (ad @List.getElem?_cons_zero.{0} (ad @List.drop_succ_cons.{0} (ad @List.drop_zero.{0} (ad @List.take_succ_cons.{0} (ad @List.take_zero.{0} (ad @List.length_cons.{0} (ad @List.length_nil.{0} (ad @Int.natCast_nonneg (ad @ja (ad @VQ (ad @VS (ad @VT (ad @VU (ad @VV (ad @VW (ad @VX (ad @VY (ad @VZ (ad @V0 (ad @V3 (ad @V4 (ad @V7 (ad @V8 (ad @V9 (@Wa))))))))))))))))))))))))))))))))))))))))))))))))))))))))))))))))))))))))))))))))))))))))))))))))))))))))))))))))))))))))))))))))))))))))))))))))))))))))))))))))
structure Plain (cfg:Cfg) (f:FuncId):Prop where
 call:∀args,cfg.call f args=none
 ice:cfg.ice f=false
 froz:cfg.froz f=false
theorem WU:zlq Tryz.prog 2=some 1:=aj
theorem WV:zmg Tryz.prog 2=some 8:=aj
theorem WW(cs:List AV)(o:Nat):zlh Tryz.prog 2 cs o=cs[o]?:=zm9 Tryz.underlying2 rfl cs o
theorem WX:zlV Tryz.prog 2=some [(.int .i64 0)]:=aj
def ec:=ad @WU (ad @WW (ad @WV (@WX)))
theorem ki:zlq Tryz.prog 3=some 1:=aj
theorem pS:zmg Tryz.prog 3=some 8:=aj
theorem WY(cs:List AV)(o:Nat):zlh Tryz.prog 3 cs o=cs[o]?:=zm9 Tryz.underlying3 rfl cs o
theorem pT:zlV Tryz.prog 3=some [(.int .i64 0)]:=aj
def cJ:=ad @ki (ad @WY (ad @pS (@pT)))
theorem Cu:zlq Tryz.prog 4=some 1:=aj
theorem LF:zmg Tryz.prog 4=some 1:=aj
theorem WZ(cs:List AV)(o:Nat):zlh Tryz.prog 4 cs o=cs[o]?:=zm9 Tryz.underlying4 rfl cs o
theorem LH:zlV Tryz.prog 4=some [(.bool false)]:=aj
def Cv:=ad @Cu (ad @WZ (ad @LF (@LH)))
theorem GE:zlq Tryz.prog 5=some 1:=aj
theorem GF:zmg Tryz.prog 5=some 1:=aj
theorem W0(cs:List AV)(o:Nat):zlh Tryz.prog 5 cs o=cs[o]?:=zm9 Tryz.underlying5 rfl cs o
theorem GG:zlV Tryz.prog 5=some [(.int .u8 0)]:=aj
def oQ:=ad @GE (ad @W0 (ad @GF (@GG)))
theorem sO:zlq Tryz.prog 9=some 1:=aj
theorem uc:zmg Tryz.prog 9=some 16:=aj
theorem W1(cs:List AV)(o:Nat):zlh Tryz.prog 9 cs o=cs[o]?:=zm9 Tryz.underlying9 rfl cs o
theorem ud:zlV Tryz.prog 9=some [(.str [])]:=aj
theorem W4(H:Hp)(s:List UInt8):zlS Tryz.prog H 9 (.str s)=some (.int .i64 s.length):=Wb Tryz.underlying9 s
theorem Xa(s:List UInt8){n:Int}(J:0<=n)(k:IntKind):qC Tryz.prog 9 (.str s) (.int k n)=Cl (s[n.toNat]?):=We Tryz.underlying9 s J k
def dd:=ad @sO (ad @W1 (ad @uc (ad @ud (ad @W4 (@Xa)))))
theorem Xb:zlq Tryz.prog 22=some 1:=aj
theorem Xc:zmg Tryz.prog 22=some 24:=aj
theorem Xd(cs:List AV)(o:Nat):zlh Tryz.prog 22 cs o=cs[o]?:=zm9 Tryz.underlying22 rfl cs o
theorem Xe:zlV Tryz.prog 22=some [.nilS]:=aj
theorem Xf(xs:List (List AV)){n:Int}(J:0<=n)(k:IntKind):zlO Tryz.prog 22 (.lst xs) (.int k n)=l8 3 (xs[n.toNat]?):=znG Tryz.underlying22 (show zlq Tryz.prog 67=some 3 from by kernel_rfl) xs J k
theorem Xg(r o l z:Nat){n:Int}(J:0<=n)(k:IntKind):zlO Tryz.prog 22 (.sl r o l z) (.int k n)=bif decide (n.toNat<l)then some (.ptr r (o+n.toNat*3))else none:=znI Tryz.underlying22 (show zlq Tryz.prog 67=some 3 from by kernel_rfl) r o l z J k
theorem Xh(H:Hp)(xs:List (List AV)):zlS Tryz.prog H 22 (.lst xs)=some (.int .i64 xs.length):=jD Tryz.underlying22 xs
theorem Xi(H:Hp)(r o n z:Nat):zlS Tryz.prog H 22 (.sl r o n z)=some (.int .i64 n):=znB Tryz.underlying22 r o n z
theorem Xj(H:Hp):zlS Tryz.prog H 22 .nilS=some (.int .i64 0):=znE Tryz.underlying22
def kW:=ad @Xb (ad @Xd (ad @Xc (ad @Xe (ad @Xf (ad @Xg (ad @Xh (ad @Xi (@Xj))))))))
theorem Xk:zlq Tryz.prog 23=some 1:=aj
theorem Xl:zmg Tryz.prog 23=some 24:=aj
theorem Xm(cs:List AV)(o:Nat):zlh Tryz.prog 23 cs o=cs[o]?:=zm9 Tryz.underlying23 rfl cs o
theorem Xn:zlV Tryz.prog 23=some [.nilS]:=aj
theorem Xo(xs:List (List AV)){n:Int}(J:0<=n)(k:IntKind):zlO Tryz.prog 23 (.lst xs) (.int k n)=l8 1 (xs[n.toNat]?):=znG Tryz.underlying23 (show zlq Tryz.prog 3=some 1 from by kernel_rfl) xs J k
theorem GH(r o l z:Nat){n:Int}(J:0<=n)(k:IntKind):zlO Tryz.prog 23 (.sl r o l z) (.int k n)=bif decide (n.toNat<l)then some (.ptr r (o+n.toNat*1))else none:=znI Tryz.underlying23 (show zlq Tryz.prog 3=some 1 from by kernel_rfl) r o l z J k
theorem Xp(H:Hp)(xs:List (List AV)):zlS Tryz.prog H 23 (.lst xs)=some (.int .i64 xs.length):=jD Tryz.underlying23 xs
theorem Xq(H:Hp)(r o n z:Nat):zlS Tryz.prog H 23 (.sl r o n z)=some (.int .i64 n):=znB Tryz.underlying23 r o n z
theorem Xr(H:Hp):zlS Tryz.prog H 23 .nilS=some (.int .i64 0):=znE Tryz.underlying23
def gX:=ad @Xk (ad @Xm (ad @Xl (ad @Xn (ad @Xo (ad @GH (ad @Xp (ad @Xq (@Xr))))))))
theorem Xs:zlq Tryz.prog 24=some 1:=aj
theorem Xt:zmg Tryz.prog 24=some 24:=aj
theorem Xu(cs:List AV)(o:Nat):zlh Tryz.prog 24 cs o=cs[o]?:=zm9 Tryz.underlying24 rfl cs o
theorem Xv:zlV Tryz.prog 24=some [.nilS]:=aj
theorem Xw(xs:List (List AV)){n:Int}(J:0<=n)(k:IntKind):zlO Tryz.prog 24 (.lst xs) (.int k n)=l8 2 (xs[n.toNat]?):=znG Tryz.underlying24 (show zlq Tryz.prog 86=some 2 from by kernel_rfl) xs J k
theorem Xx(r o l z:Nat){n:Int}(J:0<=n)(k:IntKind):zlO Tryz.prog 24 (.sl r o l z) (.int k n)=bif decide (n.toNat<l)then some (.ptr r (o+n.toNat*2))else none:=znI Tryz.underlying24 (show zlq Tryz.prog 86=some 2 from by kernel_rfl) r o l z J k
theorem Xy(H:Hp)(xs:List (List AV)):zlS Tryz.prog H 24 (.lst xs)=some (.int .i64 xs.length):=jD Tryz.underlying24 xs
theorem Xz(H:Hp)(r o n z:Nat):zlS Tryz.prog H 24 (.sl r o n z)=some (.int .i64 n):=znB Tryz.underlying24 r o n z
theorem XA(H:Hp):zlS Tryz.prog H 24 .nilS=some (.int .i64 0):=znE Tryz.underlying24
def gY:=ad @Xs (ad @Xu (ad @Xt (ad @Xv (ad @Xw (ad @Xx (ad @Xy (ad @Xz (@XA))))))))
theorem XB:zlq Tryz.prog 25=some 1:=aj
theorem XC:zmg Tryz.prog 25=some 24:=aj
theorem XD(cs:List AV)(o:Nat):zlh Tryz.prog 25 cs o=cs[o]?:=zm9 Tryz.underlying25 rfl cs o
theorem XE:zlV Tryz.prog 25=some [.nilS]:=aj
theorem XF(xs:List (List AV)){n:Int}(J:0<=n)(k:IntKind):zlO Tryz.prog 25 (.lst xs) (.int k n)=l8 5 (xs[n.toNat]?):=znG Tryz.underlying25 (show zlq Tryz.prog 32=some 5 from by kernel_rfl) xs J k
theorem XG(r o l z:Nat){n:Int}(J:0<=n)(k:IntKind):zlO Tryz.prog 25 (.sl r o l z) (.int k n)=bif decide (n.toNat<l)then some (.ptr r (o+n.toNat*5))else none:=znI Tryz.underlying25 (show zlq Tryz.prog 32=some 5 from by kernel_rfl) r o l z J k
theorem XH(H:Hp)(xs:List (List AV)):zlS Tryz.prog H 25 (.lst xs)=some (.int .i64 xs.length):=jD Tryz.underlying25 xs
theorem XI(H:Hp)(r o n z:Nat):zlS Tryz.prog H 25 (.sl r o n z)=some (.int .i64 n):=znB Tryz.underlying25 r o n z
theorem XJ(H:Hp):zlS Tryz.prog H 25 .nilS=some (.int .i64 0):=znE Tryz.underlying25
def xd:=ad @XB (ad @XD (ad @XC (ad @XE (ad @XF (ad @XG (ad @XH (ad @XI (@XJ))))))))
theorem LJ:zlq Tryz.prog 27=some 2:=aj
theorem XK:zmg Tryz.prog 27=some 48:=aj
theorem XL(cs:List AV)(o:Nat):zlh Tryz.prog 27 cs o=zlT 2 (cs.drop o):=jV Tryz.underlying27 rfl LJ cs o
theorem XM:zlV Tryz.prog 27=some [.nilS,.nilS]:=aj
theorem XN(r o:Nat):zlg Tryz.prog 27 (.ptr r o) 0=some (.ptr r (o+0)):=aj
theorem XO(cs:List AV):zlg Tryz.prog 27 (.iptr cs) 0=some (.iptr (cs.drop 0)):=aj
theorem XP(cs:List AV):zlW Tryz.prog 27 (.agg cs) 0=zlh Tryz.prog 24 cs 0:=aj
theorem XQ(r o:Nat):zlg Tryz.prog 27 (.ptr r o) 1=some (.ptr r (o+1)):=aj
theorem XR(cs:List AV):zlg Tryz.prog 27 (.iptr cs) 1=some (.iptr (cs.drop 1)):=aj
theorem XS(cs:List AV):zlW Tryz.prog 27 (.agg cs) 1=zlh Tryz.prog 25 cs 1:=aj
def xe:=ad @LJ (ad @XL (ad @XK (ad @XM (ad @XN (ad @XO (ad @XP (ad @XQ (ad @XR (@XS)))))))))
theorem GI:zlq Tryz.prog 32=some 5:=aj
theorem LK:zmg Tryz.prog 32=some 64:=aj
theorem XT(cs:List AV)(o:Nat):zlh Tryz.prog 32 cs o=zlT 5 (cs.drop o):=jV Tryz.underlying32 rfl GI cs o
theorem LL:zlV Tryz.prog 32=some [(.str []),(.int .i64 0),.nilS,(.int .i64 0),(.int .i64 0)]:=aj
theorem XU(r o:Nat):zlg Tryz.prog 32 (.ptr r o) 0=some (.ptr r (o+0)):=aj
theorem XV(cs:List AV):zlg Tryz.prog 32 (.iptr cs) 0=some (.iptr (cs.drop 0)):=aj
theorem XW(cs:List AV):zlW Tryz.prog 32 (.agg cs) 0=zlh Tryz.prog 9 cs 0:=aj
theorem XX(r o:Nat):zlg Tryz.prog 32 (.ptr r o) 1=some (.ptr r (o+1)):=aj
theorem XY(cs:List AV):zlg Tryz.prog 32 (.iptr cs) 1=some (.iptr (cs.drop 1)):=aj
theorem XZ(cs:List AV):zlW Tryz.prog 32 (.agg cs) 1=zlh Tryz.prog 3 cs 1:=aj
theorem X2(r o:Nat):zlg Tryz.prog 32 (.ptr r o) 2=some (.ptr r (o+2)):=aj
theorem X3(cs:List AV):zlg Tryz.prog 32 (.iptr cs) 2=some (.iptr (cs.drop 2)):=aj
theorem X4(cs:List AV):zlW Tryz.prog 32 (.agg cs) 2=zlh Tryz.prog 22 cs 2:=aj
theorem X6(r o:Nat):zlg Tryz.prog 32 (.ptr r o) 3=some (.ptr r (o+3)):=aj
theorem X7(cs:List AV):zlg Tryz.prog 32 (.iptr cs) 3=some (.iptr (cs.drop 3)):=aj
theorem X8(cs:List AV):zlW Tryz.prog 32 (.agg cs) 3=zlh Tryz.prog 3 cs 3:=aj
theorem X9(r o:Nat):zlg Tryz.prog 32 (.ptr r o) 4=some (.ptr r (o+4)):=aj
theorem Ya(cs:List AV):zlg Tryz.prog 32 (.iptr cs) 4=some (.iptr (cs.drop 4)):=aj
theorem Yb(cs:List AV):zlW Tryz.prog 32 (.agg cs) 4=zlh Tryz.prog 3 cs 4:=aj
def vC:=ad @GI (ad @XT (ad @LK (ad @LL (ad @XU (ad @XV (ad @XW (ad @XX (ad @XY (ad @XZ (ad @X2 (ad @X3 (ad @X4 (ad @X6 (ad @X7 (ad @X8 (ad @X9 (ad @Ya (@Yb))))))))))))))))))
theorem Yc:zlq Tryz.prog 47=some 1:=aj
theorem Yd:zmg Tryz.prog 47=some 24:=aj
theorem Ye(cs:List AV)(o:Nat):zlh Tryz.prog 47 cs o=cs[o]?:=zm9 Tryz.underlying47 rfl cs o
theorem Yf:zlV Tryz.prog 47=some [.nilS]:=aj
theorem Yg(xs:List (List AV)){n:Int}(J:0<=n)(k:IntKind):zlO Tryz.prog 47 (.lst xs) (.int k n)=l8 9 (xs[n.toNat]?):=znG Tryz.underlying47 (show zlq Tryz.prog 65=some 9 from by kernel_rfl) xs J k
theorem Yh(r o l z:Nat){n:Int}(J:0<=n)(k:IntKind):zlO Tryz.prog 47 (.sl r o l z) (.int k n)=bif decide (n.toNat<l)then some (.ptr r (o+n.toNat*9))else none:=znI Tryz.underlying47 (show zlq Tryz.prog 65=some 9 from by kernel_rfl) r o l z J k
theorem Yi(H:Hp)(xs:List (List AV)):zlS Tryz.prog H 47 (.lst xs)=some (.int .i64 xs.length):=jD Tryz.underlying47 xs
theorem Yj(H:Hp)(r o n z:Nat):zlS Tryz.prog H 47 (.sl r o n z)=some (.int .i64 n):=znB Tryz.underlying47 r o n z
theorem Yk(H:Hp):zlS Tryz.prog H 47 .nilS=some (.int .i64 0):=znE Tryz.underlying47
def iQ:=ad @Yc (ad @Ye (ad @Yd (ad @Yf (ad @Yg (ad @Yh (ad @Yi (ad @Yj (@Yk))))))))
theorem LM:zlq Tryz.prog 49=some 2:=aj
theorem Yl:zmg Tryz.prog 49=some 48:=aj
theorem Ym(cs:List AV)(o:Nat):zlh Tryz.prog 49 cs o=zlT 2 (cs.drop o):=jV Tryz.underlying49 rfl LM cs o
theorem Yn:zlV Tryz.prog 49=some [.nilS,.nilS]:=aj
theorem Yo(r o:Nat):zlg Tryz.prog 49 (.ptr r o) 0=some (.ptr r (o+0)):=aj
theorem Yp(cs:List AV):zlg Tryz.prog 49 (.iptr cs) 0=some (.iptr (cs.drop 0)):=aj
theorem Yq(cs:List AV):zlW Tryz.prog 49 (.agg cs) 0=zlh Tryz.prog 24 cs 0:=aj
theorem Yr(r o:Nat):zlg Tryz.prog 49 (.ptr r o) 1=some (.ptr r (o+1)):=aj
theorem Ys(cs:List AV):zlg Tryz.prog 49 (.iptr cs) 1=some (.iptr (cs.drop 1)):=aj
theorem Yt(cs:List AV):zlW Tryz.prog 49 (.agg cs) 1=zlh Tryz.prog 47 cs 1:=aj
def fI:=ad @LM (ad @Ym (ad @Yl (ad @Yn (ad @Yo (ad @Yp (ad @Yq (ad @Yr (ad @Ys (@Yt)))))))))
theorem Yu:zlq Tryz.prog 53=some 1:=aj
theorem Yv:zmg Tryz.prog 53=some 8:=aj
theorem Yw(cs:List AV)(o:Nat):zlh Tryz.prog 53 cs o=cs[o]?:=zm9 Tryz.underlying53 rfl cs o
theorem Yx:zlV Tryz.prog 53=some [(.int .i64 0)]:=aj
def ue:=ad @Yu (ad @Yw (ad @Yv (@Yx)))
theorem Yy:zlq Tryz.prog 59=some 1:=aj
theorem Yz:zmg Tryz.prog 59=some 24:=aj
theorem YA(cs:List AV)(o:Nat):zlh Tryz.prog 59 cs o=cs[o]?:=zm9 Tryz.underlying59 rfl cs o
theorem YB:zlV Tryz.prog 59=some [.nilS]:=aj
theorem YC(xs:List (List AV)){n:Int}(J:0<=n)(k:IntKind):zlO Tryz.prog 59 (.lst xs) (.int k n)=l8 1 (xs[n.toNat]?):=znG Tryz.underlying59 (show zlq Tryz.prog 9=some 1 from by kernel_rfl) xs J k
theorem GJ(r o l z:Nat){n:Int}(J:0<=n)(k:IntKind):zlO Tryz.prog 59 (.sl r o l z) (.int k n)=bif decide (n.toNat<l)then some (.ptr r (o+n.toNat*1))else none:=znI Tryz.underlying59 (show zlq Tryz.prog 9=some 1 from by kernel_rfl) r o l z J k
theorem YD(H:Hp)(xs:List (List AV)):zlS Tryz.prog H 59 (.lst xs)=some (.int .i64 xs.length):=jD Tryz.underlying59 xs
theorem YE(H:Hp)(r o n z:Nat):zlS Tryz.prog H 59 (.sl r o n z)=some (.int .i64 n):=znB Tryz.underlying59 r o n z
theorem YF(H:Hp):zlS Tryz.prog H 59 .nilS=some (.int .i64 0):=znE Tryz.underlying59
def fx:=ad @Yy (ad @YA (ad @Yz (ad @YB (ad @YC (ad @GJ (ad @YD (ad @YE (@YF))))))))
theorem YG:zlq Tryz.prog 60=some 1:=aj
theorem YH:zmg Tryz.prog 60=some 24:=aj
theorem YI(cs:List AV)(o:Nat):zlh Tryz.prog 60 cs o=cs[o]?:=zm9 Tryz.underlying60 rfl cs o
theorem YJ:zlV Tryz.prog 60=some [.nilS]:=aj
theorem YK(xs:List (List AV)){n:Int}(J:0<=n)(k:IntKind):zlO Tryz.prog 60 (.lst xs) (.int k n)=l8 17 (xs[n.toNat]?):=znG Tryz.underlying60 (show zlq Tryz.prog 96=some 17 from by kernel_rfl) xs J k
theorem LN(r o l z:Nat){n:Int}(J:0<=n)(k:IntKind):zlO Tryz.prog 60 (.sl r o l z) (.int k n)=bif decide (n.toNat<l)then some (.ptr r (o+n.toNat*17))else none:=znI Tryz.underlying60 (show zlq Tryz.prog 96=some 17 from by kernel_rfl) r o l z J k
theorem YL(H:Hp)(xs:List (List AV)):zlS Tryz.prog H 60 (.lst xs)=some (.int .i64 xs.length):=jD Tryz.underlying60 xs
theorem YM(H:Hp)(r o n z:Nat):zlS Tryz.prog H 60 (.sl r o n z)=some (.int .i64 n):=znB Tryz.underlying60 r o n z
theorem YN(H:Hp):zlS Tryz.prog H 60 .nilS=some (.int .i64 0):=znE Tryz.underlying60
def em:=ad @YG (ad @YI (ad @YH (ad @YJ (ad @YK (ad @LN (ad @YL (ad @YM (@YN))))))))
theorem YO:zlq Tryz.prog 61=some 1:=aj
theorem YP:zmg Tryz.prog 61=some 24:=aj
theorem YQ(cs:List AV)(o:Nat):zlh Tryz.prog 61 cs o=cs[o]?:=zm9 Tryz.underlying61 rfl cs o
theorem YR:zlV Tryz.prog 61=some [.nilS]:=aj
theorem YS(xs:List (List AV)){n:Int}(J:0<=n)(k:IntKind):zlO Tryz.prog 61 (.lst xs) (.int k n)=l8 5 (xs[n.toNat]?):=znG Tryz.underlying61 (show zlq Tryz.prog 63=some 5 from by kernel_rfl) xs J k
theorem LO(r o l z:Nat){n:Int}(J:0<=n)(k:IntKind):zlO Tryz.prog 61 (.sl r o l z) (.int k n)=bif decide (n.toNat<l)then some (.ptr r (o+n.toNat*5))else none:=znI Tryz.underlying61 (show zlq Tryz.prog 63=some 5 from by kernel_rfl) r o l z J k
theorem YT(H:Hp)(xs:List (List AV)):zlS Tryz.prog H 61 (.lst xs)=some (.int .i64 xs.length):=jD Tryz.underlying61 xs
theorem YU(H:Hp)(r o n z:Nat):zlS Tryz.prog H 61 (.sl r o n z)=some (.int .i64 n):=znB Tryz.underlying61 r o n z
theorem YV(H:Hp):zlS Tryz.prog H 61 .nilS=some (.int .i64 0):=znE Tryz.underlying61
def en:=ad @YO (ad @YQ (ad @YP (ad @YR (ad @YS (ad @LO (ad @YT (ad @YU (@YV))))))))
theorem sP:zlq Tryz.prog 63=some 5:=aj
theorem vD:zmg Tryz.prog 63=some 64:=aj
theorem YW(cs:List AV)(o:Nat):zlh Tryz.prog 63 cs o=zlT 5 (cs.drop o):=jV Tryz.underlying63 rfl sP cs o
theorem vE:zlV Tryz.prog 63=some [(.int .i64 0),(.int .i64 0),(.str []),(.int .i64 0),.nilS]:=aj
theorem YX(r o:Nat):zlg Tryz.prog 63 (.ptr r o) 0=some (.ptr r (o+0)):=aj
theorem YY(cs:List AV):zlg Tryz.prog 63 (.iptr cs) 0=some (.iptr (cs.drop 0)):=aj
theorem YZ(cs:List AV):zlW Tryz.prog 63 (.agg cs) 0=zlh Tryz.prog 3 cs 0:=aj
theorem Y0(r o:Nat):zlg Tryz.prog 63 (.ptr r o) 1=some (.ptr r (o+1)):=aj
theorem Y1(cs:List AV):zlg Tryz.prog 63 (.iptr cs) 1=some (.iptr (cs.drop 1)):=aj
theorem Y2(cs:List AV):zlW Tryz.prog 63 (.agg cs) 1=zlh Tryz.prog 2 cs 1:=aj
theorem Y3(r o:Nat):zlg Tryz.prog 63 (.ptr r o) 2=some (.ptr r (o+2)):=aj
theorem Y4(cs:List AV):zlg Tryz.prog 63 (.iptr cs) 2=some (.iptr (cs.drop 2)):=aj
theorem Y5(cs:List AV):zlW Tryz.prog 63 (.agg cs) 2=zlh Tryz.prog 9 cs 2:=aj
theorem Y6(r o:Nat):zlg Tryz.prog 63 (.ptr r o) 3=some (.ptr r (o+3)):=aj
theorem Y7(cs:List AV):zlg Tryz.prog 63 (.iptr cs) 3=some (.iptr (cs.drop 3)):=aj
theorem Y8(cs:List AV):zlW Tryz.prog 63 (.agg cs) 3=zlh Tryz.prog 3 cs 3:=aj
theorem Y9(r o:Nat):zlg Tryz.prog 63 (.ptr r o) 4=some (.ptr r (o+4)):=aj
theorem Za(cs:List AV):zlg Tryz.prog 63 (.iptr cs) 4=some (.iptr (cs.drop 4)):=aj
theorem Zb(cs:List AV):zlW Tryz.prog 63 (.agg cs) 4=zlh Tryz.prog 61 cs 4:=aj
def zms:=ad @sP (ad @YW (ad @vD (ad @vE (ad @YX (ad @YY (ad @YZ (ad @Y0 (ad @Y1 (ad @Y2 (ad @Y3 (ad @Y4 (ad @Y5 (ad @Y6 (ad @Y7 (ad @Y8 (ad @Y9 (ad @Za (@Zb))))))))))))))))))
theorem Cw:zlq Tryz.prog 65=some 9:=aj
theorem GK:zmg Tryz.prog 65=some 152:=aj
theorem Zc(cs:List AV)(o:Nat):zlh Tryz.prog 65 cs o=zlT 9 (cs.drop o):=jV Tryz.underlying65 rfl Cw cs o
theorem GL:zlV Tryz.prog 65=some [(.str []),.nilS,.nilS,.nilS,(.int .i64 0),(.int .i64 0),(.str []),(.int .i64 0),.nilS]:=aj
theorem Zd(r o:Nat):zlg Tryz.prog 65 (.ptr r o) 0=some (.ptr r (o+0)):=aj
theorem Ze(cs:List AV):zlg Tryz.prog 65 (.iptr cs) 0=some (.iptr (cs.drop 0)):=aj
theorem Zf(cs:List AV):zlW Tryz.prog 65 (.agg cs) 0=zlh Tryz.prog 9 cs 0:=aj
theorem Zg(r o:Nat):zlg Tryz.prog 65 (.ptr r o) 1=some (.ptr r (o+1)):=aj
theorem Zh(cs:List AV):zlg Tryz.prog 65 (.iptr cs) 1=some (.iptr (cs.drop 1)):=aj
theorem Zi(cs:List AV):zlW Tryz.prog 65 (.agg cs) 1=zlh Tryz.prog 59 cs 1:=aj
theorem Zj(r o:Nat):zlg Tryz.prog 65 (.ptr r o) 2=some (.ptr r (o+2)):=aj
theorem Zk(cs:List AV):zlg Tryz.prog 65 (.iptr cs) 2=some (.iptr (cs.drop 2)):=aj
theorem Zl(cs:List AV):zlW Tryz.prog 65 (.agg cs) 2=zlh Tryz.prog 59 cs 2:=aj
theorem Zm(r o:Nat):zlg Tryz.prog 65 (.ptr r o) 3=some (.ptr r (o+3)):=aj
theorem Zn(cs:List AV):zlg Tryz.prog 65 (.iptr cs) 3=some (.iptr (cs.drop 3)):=aj
theorem Zo(cs:List AV):zlW Tryz.prog 65 (.agg cs) 3=zlh Tryz.prog 60 cs 3:=aj
theorem Zp(r o:Nat):zlg Tryz.prog 65 (.ptr r o) 4=some (.ptr r (o+4)):=aj
theorem Zq(cs:List AV):zlg Tryz.prog 65 (.iptr cs) 4=some (.iptr (cs.drop 4)):=aj
theorem Zr(cs:List AV):zlW Tryz.prog 65 (.agg cs) 4=zlh Tryz.prog 63 cs 4:=aj
def iR:=ad @Cw (ad @Zc (ad @GK (ad @GL (ad @Zd (ad @Ze (ad @Zf (ad @Zg (ad @Zh (ad @Zi (ad @Zj (ad @Zk (ad @Zl (ad @Zm (ad @Zn (ad @Zo (ad @Zp (ad @Zq (@Zr))))))))))))))))))
theorem GM:zlq Tryz.prog 67=some 3:=aj
theorem LQ:zmg Tryz.prog 67=some 40:=aj
theorem Zs(cs:List AV)(o:Nat):zlh Tryz.prog 67 cs o=zlT 3 (cs.drop o):=jV Tryz.underlying67 rfl GM cs o
theorem LR:zlV Tryz.prog 67=some [(.int .i64 0),(.int .i64 0),.nilS]:=aj
theorem Zt(r o:Nat):zlg Tryz.prog 67 (.ptr r o) 0=some (.ptr r (o+0)):=aj
theorem Zu(cs:List AV):zlg Tryz.prog 67 (.iptr cs) 0=some (.iptr (cs.drop 0)):=aj
theorem Zv(cs:List AV):zlW Tryz.prog 67 (.agg cs) 0=zlh Tryz.prog 3 cs 0:=aj
theorem Zw(r o:Nat):zlg Tryz.prog 67 (.ptr r o) 1=some (.ptr r (o+1)):=aj
theorem Zx(cs:List AV):zlg Tryz.prog 67 (.iptr cs) 1=some (.iptr (cs.drop 1)):=aj
theorem Zy(cs:List AV):zlW Tryz.prog 67 (.agg cs) 1=zlh Tryz.prog 2 cs 1:=aj
theorem Zz(r o:Nat):zlg Tryz.prog 67 (.ptr r o) 2=some (.ptr r (o+2)):=aj
theorem ZA(cs:List AV):zlg Tryz.prog 67 (.iptr cs) 2=some (.iptr (cs.drop 2)):=aj
theorem ZB(cs:List AV):zlW Tryz.prog 67 (.agg cs) 2=zlh Tryz.prog 23 cs 2:=aj
def qM:=ad @GM (ad @Zs (ad @LQ (ad @LR (ad @Zt (ad @Zu (ad @Zv (ad @Zw (ad @Zx (ad @Zy (ad @Zz (ad @ZA (@ZB))))))))))))
theorem ZC:zlq Tryz.prog 71=some 1:=aj
theorem ZD:zmg Tryz.prog 71=some 24:=aj
theorem ZE(cs:List AV)(o:Nat):zlh Tryz.prog 71 cs o=cs[o]?:=zm9 Tryz.underlying71 rfl cs o
theorem ZF:zlV Tryz.prog 71=some [.nilS]:=aj
theorem ZG(xs:List (List AV)){n:Int}(J:0<=n)(k:IntKind):zlO Tryz.prog 71 (.lst xs) (.int k n)=l8 1 (xs[n.toNat]?):=znG Tryz.underlying71 (show zlq Tryz.prog 2=some 1 from by kernel_rfl) xs J k
theorem ZH(r o l z:Nat){n:Int}(J:0<=n)(k:IntKind):zlO Tryz.prog 71 (.sl r o l z) (.int k n)=bif decide (n.toNat<l)then some (.ptr r (o+n.toNat*1))else none:=znI Tryz.underlying71 (show zlq Tryz.prog 2=some 1 from by kernel_rfl) r o l z J k
theorem ZI(H:Hp)(xs:List (List AV)):zlS Tryz.prog H 71 (.lst xs)=some (.int .i64 xs.length):=jD Tryz.underlying71 xs
theorem ZJ(H:Hp)(r o n z:Nat):zlS Tryz.prog H 71 (.sl r o n z)=some (.int .i64 n):=znB Tryz.underlying71 r o n z
theorem ZK(H:Hp):zlS Tryz.prog H 71 .nilS=some (.int .i64 0):=znE Tryz.underlying71
def ZL:=ad @ZC (ad @ZE (ad @ZD (ad @ZF (ad @ZG (ad @ZH (ad @ZI (ad @ZJ (@ZK))))))))
theorem LS:zlq Tryz.prog 78=some 2:=aj
theorem ZM:zmg Tryz.prog 78=some 32:=aj
theorem ZN(cs:List AV)(o:Nat):zlh Tryz.prog 78 cs o=zlT 2 (cs.drop o):=jV Tryz.underlying78 rfl LS cs o
theorem ZO:zlV Tryz.prog 78=some [.nilS,(.int .i64 0)]:=aj
theorem ZP(r o:Nat):zlg Tryz.prog 78 (.ptr r o) 0=some (.ptr r (o+0)):=aj
theorem ZQ(cs:List AV):zlg Tryz.prog 78 (.iptr cs) 0=some (.iptr (cs.drop 0)):=aj
theorem ZR(cs:List AV):zlW Tryz.prog 78 (.agg cs) 0=zlh Tryz.prog 23 cs 0:=aj
theorem ZS(r o:Nat):zlg Tryz.prog 78 (.ptr r o) 1=some (.ptr r (o+1)):=aj
theorem ZT(cs:List AV):zlg Tryz.prog 78 (.iptr cs) 1=some (.iptr (cs.drop 1)):=aj
theorem ZU(cs:List AV):zlW Tryz.prog 78 (.agg cs) 1=zlh Tryz.prog 3 cs 1:=aj
def xf:=ad @LS (ad @ZN (ad @ZM (ad @ZO (ad @ZP (ad @ZQ (ad @ZR (ad @ZS (ad @ZT (@ZU)))))))))
theorem ZV:zlq Tryz.prog 84=some 1:=aj
theorem ZW:zmg Tryz.prog 84=some 24:=aj
theorem ZX(cs:List AV)(o:Nat):zlh Tryz.prog 84 cs o=cs[o]?:=zm9 Tryz.underlying84 rfl cs o
theorem ZY:zlV Tryz.prog 84=some [.nilS]:=aj
theorem ZZ(xs:List (List AV)){n:Int}(J:0<=n)(k:IntKind):zlO Tryz.prog 84 (.lst xs) (.int k n)=l8 1 (xs[n.toNat]?):=znG Tryz.underlying84 (show zlq Tryz.prog 4=some 1 from by kernel_rfl) xs J k
theorem Z0(r o l z:Nat){n:Int}(J:0<=n)(k:IntKind):zlO Tryz.prog 84 (.sl r o l z) (.int k n)=bif decide (n.toNat<l)then some (.ptr r (o+n.toNat*1))else none:=znI Tryz.underlying84 (show zlq Tryz.prog 4=some 1 from by kernel_rfl) r o l z J k
theorem Z1(H:Hp)(xs:List (List AV)):zlS Tryz.prog H 84 (.lst xs)=some (.int .i64 xs.length):=jD Tryz.underlying84 xs
theorem Z2(H:Hp)(r o n z:Nat):zlS Tryz.prog H 84 (.sl r o n z)=some (.int .i64 n):=znB Tryz.underlying84 r o n z
theorem Z3(H:Hp):zlS Tryz.prog H 84 .nilS=some (.int .i64 0):=znE Tryz.underlying84
def LU:=ad @ZV (ad @ZX (ad @ZW (ad @ZY (ad @ZZ (ad @Z0 (ad @Z1 (ad @Z2 (@Z3))))))))
theorem zA:zlq Tryz.prog 86=some 2:=aj
theorem Cy:zmg Tryz.prog 86=some 24:=aj
theorem Z4(cs:List AV)(o:Nat):zlh Tryz.prog 86 cs o=zlT 2 (cs.drop o):=jV Tryz.underlying86 rfl zA cs o
theorem Cz:zlV Tryz.prog 86=some [(.str []),(.int .i64 0)]:=aj
theorem Z5(r o:Nat):zlg Tryz.prog 86 (.ptr r o) 0=some (.ptr r (o+0)):=aj
theorem Z6(cs:List AV):zlg Tryz.prog 86 (.iptr cs) 0=some (.iptr (cs.drop 0)):=aj
theorem Z7(cs:List AV):zlW Tryz.prog 86 (.agg cs) 0=zlh Tryz.prog 9 cs 0:=aj
theorem Z8(r o:Nat):zlg Tryz.prog 86 (.ptr r o) 1=some (.ptr r (o+1)):=aj
theorem Z9(cs:List AV):zlg Tryz.prog 86 (.iptr cs) 1=some (.iptr (cs.drop 1)):=aj
theorem zaa(cs:List AV):zlW Tryz.prog 86 (.agg cs) 1=zlh Tryz.prog 3 cs 1:=aj
def jw:=ad @zA (ad @Z4 (ad @Cy (ad @Cz (ad @Z5 (ad @Z6 (ad @Z7 (ad @Z8 (ad @Z9 (@zaa)))))))))
theorem zab:zlq Tryz.prog 93=some 1:=aj
theorem zac:zmg Tryz.prog 93=some 24:=aj
theorem zad(cs:List AV)(o:Nat):zlh Tryz.prog 93 cs o=cs[o]?:=zm9 Tryz.underlying93 rfl cs o
theorem zae:zlV Tryz.prog 93=some [.nilS]:=aj
theorem zaf(xs:List (List AV)){n:Int}(J:0<=n)(k:IntKind):zlO Tryz.prog 93 (.lst xs) (.int k n)=l8 1 (xs[n.toNat]?):=znG Tryz.underlying93 (show zlq Tryz.prog 5=some 1 from by kernel_rfl) xs J k
theorem zag(r o l z:Nat){n:Int}(J:0<=n)(k:IntKind):zlO Tryz.prog 93 (.sl r o l z) (.int k n)=bif decide (n.toNat<l)then some (.ptr r (o+n.toNat*1))else none:=znI Tryz.underlying93 (show zlq Tryz.prog 5=some 1 from by kernel_rfl) r o l z J k
theorem zah(H:Hp)(xs:List (List AV)):zlS Tryz.prog H 93 (.lst xs)=some (.int .i64 xs.length):=jD Tryz.underlying93 xs
theorem zai(H:Hp)(r o n z:Nat):zlS Tryz.prog H 93 (.sl r o n z)=some (.int .i64 n):=znB Tryz.underlying93 r o n z
theorem zaj(H:Hp):zlS Tryz.prog H 93 .nilS=some (.int .i64 0):=znE Tryz.underlying93
def rH:=ad @zab (ad @zad (ad @zac (ad @zae (ad @zaf (ad @zag (ad @zah (ad @zai (@zaj))))))))
theorem qN:zlq Tryz.prog 96=some 17:=aj
theorem sQ:zmg Tryz.prog 96=some 248:=aj
theorem zak(cs:List AV)(o:Nat):zlh Tryz.prog 96 cs o=zlT 17 (cs.drop o):=jV Tryz.underlying96 rfl qN cs o
theorem vF:zlV Tryz.prog 96=some [(.int .i64 0),(.str []),(.str []),(.int .i64 0),(.int .i64 0),(.int .i64 0),(.str []),(.int .i64 0),.nilS,(.int .i64 0),(.int .i64 0),(.str []),(.int .i64 0),.nilS,.nilS,.nilS,.nilS]:=aj
theorem zyV(r o:Nat):zlg Tryz.prog 96 (.ptr r o) 0=some (.ptr r (o+0)):=aj
theorem zyW(cs:List AV):zlg Tryz.prog 96 (.iptr cs) 0=some (.iptr (cs.drop 0)):=aj
theorem zan(cs:List AV):zlW Tryz.prog 96 (.agg cs) 0=zlh Tryz.prog 3 cs 0:=aj
theorem zyX(r o:Nat):zlg Tryz.prog 96 (.ptr r o) 1=some (.ptr r (o+1)):=aj
theorem zyY(cs:List AV):zlg Tryz.prog 96 (.iptr cs) 1=some (.iptr (cs.drop 1)):=aj
theorem zaq(cs:List AV):zlW Tryz.prog 96 (.agg cs) 1=zlh Tryz.prog 9 cs 1:=aj
theorem zyZ(r o:Nat):zlg Tryz.prog 96 (.ptr r o) 2=some (.ptr r (o+2)):=aj
theorem zy0(cs:List AV):zlg Tryz.prog 96 (.iptr cs) 2=some (.iptr (cs.drop 2)):=aj
theorem zat(cs:List AV):zlW Tryz.prog 96 (.agg cs) 2=zlh Tryz.prog 9 cs 2:=aj
theorem zy1(r o:Nat):zlg Tryz.prog 96 (.ptr r o) 3=some (.ptr r (o+3)):=aj
theorem zy2(cs:List AV):zlg Tryz.prog 96 (.iptr cs) 3=some (.iptr (cs.drop 3)):=aj
theorem zaw(cs:List AV):zlW Tryz.prog 96 (.agg cs) 3=zlh Tryz.prog 3 cs 3:=aj
theorem zy3(r o:Nat):zlg Tryz.prog 96 (.ptr r o) 4=some (.ptr r (o+4)):=aj
theorem zy4(cs:List AV):zlg Tryz.prog 96 (.iptr cs) 4=some (.iptr (cs.drop 4)):=aj
theorem zaz(cs:List AV):zlW Tryz.prog 96 (.agg cs) 4=zlh Tryz.prog 63 cs 4:=aj
theorem zy5(r o:Nat):zlg Tryz.prog 96 (.ptr r o) 5=some (.ptr r (o+9)):=aj
theorem zy6(cs:List AV):zlg Tryz.prog 96 (.iptr cs) 5=some (.iptr (cs.drop 9)):=aj
theorem zaC(cs:List AV):zlW Tryz.prog 96 (.agg cs) 5=zlh Tryz.prog 63 cs 9:=aj
theorem zy7(r o:Nat):zlg Tryz.prog 96 (.ptr r o) 6=some (.ptr r (o+14)):=aj
theorem zy8(cs:List AV):zlg Tryz.prog 96 (.iptr cs) 6=some (.iptr (cs.drop 14)):=aj
theorem zaF(cs:List AV):zlW Tryz.prog 96 (.agg cs) 6=zlh Tryz.prog 61 cs 14:=aj
theorem zy9(r o:Nat):zlg Tryz.prog 96 (.ptr r o) 7=some (.ptr r (o+15)):=aj
theorem zza(cs:List AV):zlg Tryz.prog 96 (.iptr cs) 7=some (.iptr (cs.drop 15)):=aj
theorem zaI(cs:List AV):zlW Tryz.prog 96 (.agg cs) 7=zlh Tryz.prog 60 cs 15:=aj
theorem zzb(r o:Nat):zlg Tryz.prog 96 (.ptr r o) 8=some (.ptr r (o+16)):=aj
theorem zzc(cs:List AV):zlg Tryz.prog 96 (.iptr cs) 8=some (.iptr (cs.drop 16)):=aj
theorem zaL(cs:List AV):zlW Tryz.prog 96 (.agg cs) 8=zlh Tryz.prog 60 cs 16:=aj
def eY:=ad @qN (ad @zak (ad @sQ (ad @vF (ad @zyV (ad @zyW (ad @zan (ad @zyX (ad @zyY (ad @zaq (ad @zyZ (ad @zy0 (ad @zat (ad @zy1 (ad @zy2 (ad @zaw (ad @zy3 (ad @zy4 (ad @zaz (ad @zy5 (ad @zy6 (ad @zaC (ad @zy7 (ad @zy8 (ad @zaF (ad @zy9 (ad @zza (ad @zaI (ad @zzb (ad @zzc (@zaL))))))))))))))))))))))))))))))
theorem zaM:zlq Tryz.prog 98=some 1:=aj
theorem zaN:zmg Tryz.prog 98=some 8:=aj
theorem zaO(cs:List AV)(o:Nat):zlh Tryz.prog 98 cs o=cs[o]?:=zm9 Tryz.underlying98 rfl cs o
theorem zaP:zlV Tryz.prog 98=some [.nilM]:=aj
def oR:=ad @zaM (ad @zaO (ad @zaN (@zaP)))
theorem LV:zlq Tryz.prog 101=some 10:=aj
theorem zaQ:zmg Tryz.prog 101=some 144:=aj
theorem zaR(cs:List AV)(o:Nat):zlh Tryz.prog 101 cs o=zlT 10 (cs.drop o):=jV Tryz.underlying101 rfl LV cs o
theorem zaS:zlV Tryz.prog 101=some [.nilS,.nilS,.nilM,.nilM,.nilS,.nilM,.nilM,.nilS,(.int .i64 0),(.int .i64 0)]:=aj
theorem zun(r o:Nat):zlg Tryz.prog 101 (.ptr r o) 0=some (.ptr r (o+0)):=aj
theorem zuo(cs:List AV):zlg Tryz.prog 101 (.iptr cs) 0=some (.iptr (cs.drop 0)):=aj
theorem zzd(cs:List AV):zlW Tryz.prog 101 (.agg cs) 0=zlh Tryz.prog 49 cs 0:=aj
theorem zup(r o:Nat):zlg Tryz.prog 101 (.ptr r o) 1=some (.ptr r (o+2)):=aj
theorem zuq(cs:List AV):zlg Tryz.prog 101 (.iptr cs) 1=some (.iptr (cs.drop 2)):=aj
theorem zze(cs:List AV):zlW Tryz.prog 101 (.agg cs) 1=zlh Tryz.prog 98 cs 2:=aj
theorem zur(r o:Nat):zlg Tryz.prog 101 (.ptr r o) 2=some (.ptr r (o+3)):=aj
theorem zus(cs:List AV):zlg Tryz.prog 101 (.iptr cs) 2=some (.iptr (cs.drop 3)):=aj
theorem zzf(cs:List AV):zlW Tryz.prog 101 (.agg cs) 2=zlh Tryz.prog 98 cs 3:=aj
theorem zut(r o:Nat):zlg Tryz.prog 101 (.ptr r o) 3=some (.ptr r (o+4)):=aj
theorem zuu(cs:List AV):zlg Tryz.prog 101 (.iptr cs) 3=some (.iptr (cs.drop 4)):=aj
theorem zzg(cs:List AV):zlW Tryz.prog 101 (.agg cs) 3=zlh Tryz.prog 22 cs 4:=aj
theorem zuv(r o:Nat):zlg Tryz.prog 101 (.ptr r o) 4=some (.ptr r (o+5)):=aj
theorem zuw(cs:List AV):zlg Tryz.prog 101 (.iptr cs) 4=some (.iptr (cs.drop 5)):=aj
theorem zzh(cs:List AV):zlW Tryz.prog 101 (.agg cs) 4=zlh Tryz.prog 98 cs 5:=aj
theorem zux(r o:Nat):zlg Tryz.prog 101 (.ptr r o) 5=some (.ptr r (o+6)):=aj
theorem zuy(cs:List AV):zlg Tryz.prog 101 (.iptr cs) 5=some (.iptr (cs.drop 6)):=aj
theorem zzi(cs:List AV):zlW Tryz.prog 101 (.agg cs) 5=zlh Tryz.prog 98 cs 6:=aj
theorem zuz(r o:Nat):zlg Tryz.prog 101 (.ptr r o) 6=some (.ptr r (o+7)):=aj
theorem zuA(cs:List AV):zlg Tryz.prog 101 (.iptr cs) 6=some (.iptr (cs.drop 7)):=aj
theorem zzj(cs:List AV):zlW Tryz.prog 101 (.agg cs) 6=zlh Tryz.prog 23 cs 7:=aj
theorem zuB(r o:Nat):zlg Tryz.prog 101 (.ptr r o) 7=some (.ptr r (o+8)):=aj
theorem zuC(cs:List AV):zlg Tryz.prog 101 (.iptr cs) 7=some (.iptr (cs.drop 8)):=aj
theorem zzk(cs:List AV):zlW Tryz.prog 101 (.agg cs) 7=zlh Tryz.prog 3 cs 8:=aj
theorem zuD(r o:Nat):zlg Tryz.prog 101 (.ptr r o) 8=some (.ptr r (o+9)):=aj
theorem zuE(cs:List AV):zlg Tryz.prog 101 (.iptr cs) 8=some (.iptr (cs.drop 9)):=aj
theorem zzl(cs:List AV):zlW Tryz.prog 101 (.agg cs) 8=zlh Tryz.prog 3 cs 9:=aj
def qO:=ad @LV (ad @zaR (ad @zaQ (ad @zaS (ad @zun (ad @zuo (ad @zzd (ad @zup (ad @zuq (ad @zze (ad @zur (ad @zus (ad @zzf (ad @zut (ad @zuu (ad @zzg (ad @zuv (ad @zuw (ad @zzh (ad @zux (ad @zuy (ad @zzi (ad @zuz (ad @zuA (ad @zzj (ad @zuB (ad @zuC (ad @zzk (ad @zuD (ad @zuE (@zzl))))))))))))))))))))))))))))))
theorem LW:zlq Tryz.prog 111=some 2:=aj
theorem zbk:zmg Tryz.prog 111=some 16:=aj
theorem zbl(cs:List AV)(o:Nat):zlh Tryz.prog 111 cs o=zlT 2 (cs.drop o):=jV Tryz.underlying111 rfl LW cs o
theorem zbm:zlV Tryz.prog 111=some [(.int .i64 0),(.int .i64 0)]:=aj
theorem zuF(r o:Nat):zlg Tryz.prog 111 (.ptr r o) 0=some (.ptr r (o+0)):=aj
theorem zuG(cs:List AV):zlg Tryz.prog 111 (.iptr cs) 0=some (.iptr (cs.drop 0)):=aj
theorem zzm(cs:List AV):zlW Tryz.prog 111 (.agg cs) 0=zlh Tryz.prog 53 cs 0:=aj
theorem zuH(r o:Nat):zlg Tryz.prog 111 (.ptr r o) 1=some (.ptr r (o+1)):=aj
theorem zuI(cs:List AV):zlg Tryz.prog 111 (.iptr cs) 1=some (.iptr (cs.drop 1)):=aj
theorem zzn(cs:List AV):zlW Tryz.prog 111 (.agg cs) 1=zlh Tryz.prog 3 cs 1:=aj
def GN:=ad @LW (ad @zbl (ad @zbk (ad @zbm (ad @zuF (ad @zuG (ad @zzm (ad @zuH (ad @zuI (@zzn)))))))))
theorem LX:zlq Tryz.prog 116=some 4:=aj
theorem zbt:zmg Tryz.prog 116=some 96:=aj
theorem zbu(cs:List AV)(o:Nat):zlh Tryz.prog 116 cs o=zlT 4 (cs.drop o):=jV Tryz.underlying116 rfl LX cs o
theorem zbv:zlV Tryz.prog 116=some [.nilS,.nilS,.nilS,.nilS]:=aj
theorem zuK(r o:Nat):zlg Tryz.prog 116 (.ptr r o) 0=some (.ptr r (o+0)):=aj
theorem zuL(cs:List AV):zlg Tryz.prog 116 (.iptr cs) 0=some (.iptr (cs.drop 0)):=aj
theorem zzo(cs:List AV):zlW Tryz.prog 116 (.agg cs) 0=zlh Tryz.prog 59 cs 0:=aj
theorem zuM(r o:Nat):zlg Tryz.prog 116 (.ptr r o) 1=some (.ptr r (o+1)):=aj
theorem zuN(cs:List AV):zlg Tryz.prog 116 (.iptr cs) 1=some (.iptr (cs.drop 1)):=aj
theorem zzp(cs:List AV):zlW Tryz.prog 116 (.agg cs) 1=zlh Tryz.prog 59 cs 1:=aj
theorem zuO(r o:Nat):zlg Tryz.prog 116 (.ptr r o) 2=some (.ptr r (o+2)):=aj
theorem zuP(cs:List AV):zlg Tryz.prog 116 (.iptr cs) 2=some (.iptr (cs.drop 2)):=aj
theorem zzq(cs:List AV):zlW Tryz.prog 116 (.agg cs) 2=zlh Tryz.prog 49 cs 2:=aj
def GO:=ad @LX (ad @zbu (ad @zbt (ad @zbv (ad @zuK (ad @zuL (ad @zzo (ad @zuM (ad @zuN (ad @zzp (ad @zuO (ad @zuP (@zzq))))))))))))
theorem zbF:zlq Tryz.prog 129=some 1:=aj
theorem zbG:zmg Tryz.prog 129=some 24:=aj
theorem zbH(cs:List AV)(o:Nat):zlh Tryz.prog 129 cs o=cs[o]?:=zm9 Tryz.underlying129 rfl cs o
theorem zbI:zlV Tryz.prog 129=some [.nilS]:=aj
theorem zbJ(xs:List (List AV)){n:Int}(J:0<=n)(k:IntKind):zlO Tryz.prog 129 (.lst xs) (.int k n)=l8 1 (xs[n.toNat]?):=znG Tryz.underlying129 (show zlq Tryz.prog 131=some 1 from by kernel_rfl) xs J k
theorem zbK(r o l z:Nat){n:Int}(J:0<=n)(k:IntKind):zlO Tryz.prog 129 (.sl r o l z) (.int k n)=bif decide (n.toNat<l)then some (.ptr r (o+n.toNat*1))else none:=znI Tryz.underlying129 (show zlq Tryz.prog 131=some 1 from by kernel_rfl) r o l z J k
theorem zbL(H:Hp)(xs:List (List AV)):zlS Tryz.prog H 129 (.lst xs)=some (.int .i64 xs.length):=jD Tryz.underlying129 xs
theorem zbM(H:Hp)(r o n z:Nat):zlS Tryz.prog H 129 (.sl r o n z)=some (.int .i64 n):=znB Tryz.underlying129 r o n z
theorem zbN(H:Hp):zlS Tryz.prog H 129 .nilS=some (.int .i64 0):=znE Tryz.underlying129
def LY:=ad @zbF (ad @zbH (ad @zbG (ad @zbI (ad @zbJ (ad @zbK (ad @zbL (ad @zbM (@zbN))))))))
theorem CA:zlq Tryz.prog 131=some 1:=aj
theorem LZ:zmg Tryz.prog 131=some 4:=aj
theorem zbO(cs:List AV)(o:Nat):zlh Tryz.prog 131 cs o=cs[o]?:=zm9 Tryz.underlying131 rfl cs o
theorem L0:zlV Tryz.prog 131=some [(.int .u32 0)]:=aj
def L2:=ad @CA (ad @zbO (ad @LZ (@L0)))
theorem zbP:zlq Tryz.prog 142=some 1:=aj
theorem zbQ:zmg Tryz.prog 142=some 24:=aj
theorem zbR(cs:List AV)(o:Nat):zlh Tryz.prog 142 cs o=cs[o]?:=zm9 Tryz.underlying142 rfl cs o
theorem zbS:zlV Tryz.prog 142=some [.nilS]:=aj
theorem zbT(xs:List (List AV)){n:Int}(J:0<=n)(k:IntKind):zlO Tryz.prog 142 (.lst xs) (.int k n)=l8 3 (xs[n.toNat]?):=znG Tryz.underlying142 (show zlq Tryz.prog 188=some 3 from by kernel_rfl) xs J k
theorem zbU(r o l z:Nat){n:Int}(J:0<=n)(k:IntKind):zlO Tryz.prog 142 (.sl r o l z) (.int k n)=bif decide (n.toNat<l)then some (.ptr r (o+n.toNat*3))else none:=znI Tryz.underlying142 (show zlq Tryz.prog 188=some 3 from by kernel_rfl) r o l z J k
theorem zbV(H:Hp)(xs:List (List AV)):zlS Tryz.prog H 142 (.lst xs)=some (.int .i64 xs.length):=jD Tryz.underlying142 xs
theorem zbW(H:Hp)(r o n z:Nat):zlS Tryz.prog H 142 (.sl r o n z)=some (.int .i64 n):=znB Tryz.underlying142 r o n z
theorem zbX(H:Hp):zlS Tryz.prog H 142 .nilS=some (.int .i64 0):=znE Tryz.underlying142
def GP:=ad @zbP (ad @zbR (ad @zbQ (ad @zbS (ad @zbT (ad @zbU (ad @zbV (ad @zbW (@zbX))))))))
theorem zbY:zlq Tryz.prog 172=some 1:=aj
theorem zbZ:zmg Tryz.prog 172=some 8:=aj
theorem zb0(cs:List AV)(o:Nat):zlh Tryz.prog 172 cs o=cs[o]?:=zm9 Tryz.underlying172 rfl cs o
theorem zb1:zlV Tryz.prog 172=some [.nilF]:=aj
def L3:=ad @zbY (ad @zb0 (ad @zbZ (@zb1)))
theorem zb2:zlq Tryz.prog 178=some 1:=aj
theorem zb3:zmg Tryz.prog 178=some 8:=aj
theorem zb4(cs:List AV)(o:Nat):zlh Tryz.prog 178 cs o=cs[o]?:=zm9 Tryz.underlying178 rfl cs o
theorem zb5:zlV Tryz.prog 178=some [.nilM]:=aj
def CB:=ad @zb2 (ad @zb4 (ad @zb3 (@zb5)))
theorem L4:zlq Tryz.prog 181=some 16:=aj
theorem zb6:zmg Tryz.prog 181=some 128:=aj
theorem zb7(cs:List AV)(o:Nat):zlh Tryz.prog 181 cs o=zlT 16 (cs.drop o):=jV Tryz.underlying181 rfl L4 cs o
theorem zb8:zlV Tryz.prog 181=some [(.int .i64 0),(.int .i64 0),(.int .i64 0),(.int .i64 0),(.int .i64 0),(.int .i64 0),(.int .i64 0),(.int .i64 0),(.int .i64 0),(.int .i64 0),(.int .i64 0),(.int .i64 0),(.int .i64 0),(.int .i64 0),(.int .i64 0),(.int .i64 0)]:=aj
def zb9:=ad @L4 (ad @zb7 (ad @zb6 (@zb8)))
theorem zca:zlq Tryz.prog 182=some 1:=aj
theorem zcb:zmg Tryz.prog 182=some 8:=aj
theorem zcc(cs:List AV)(o:Nat):zlh Tryz.prog 182 cs o=cs[o]?:=zm9 Tryz.underlying182 rfl cs o
theorem zcd:zlV Tryz.prog 182=some [(.int .u64 0)]:=aj
def GQ:=ad @zca (ad @zcc (ad @zcb (@zcd)))
theorem zce:zlq Tryz.prog 185=some 1:=aj
theorem zcf:zmg Tryz.prog 185=some 8:=aj
theorem zcg(cs:List AV)(o:Nat):zlh Tryz.prog 185 cs o=cs[o]?:=zm9 Tryz.underlying185 rfl cs o
theorem zch:zlV Tryz.prog 185=some [(.int .u64 0)]:=aj
def L5:=ad @zce (ad @zcg (ad @zcf (@zch)))
theorem CC:zlq Tryz.prog 188=some 3:=aj
theorem GR:zmg Tryz.prog 188=some 32:=aj
theorem zci(cs:List AV)(o:Nat):zlh Tryz.prog 188 cs o=zlT 3 (cs.drop o):=jV Tryz.underlying188 rfl CC cs o
theorem GS:zlV Tryz.prog 188=some [(.int .i64 0),(.str []),(.int .i64 0)]:=aj
theorem zuV(r o:Nat):zlg Tryz.prog 188 (.ptr r o) 0=some (.ptr r (o+0)):=aj
theorem zuW(cs:List AV):zlg Tryz.prog 188 (.iptr cs) 0=some (.iptr (cs.drop 0)):=aj
theorem zzr(cs:List AV):zlW Tryz.prog 188 (.agg cs) 0=zlh Tryz.prog 3 cs 0:=aj
theorem zuX(r o:Nat):zlg Tryz.prog 188 (.ptr r o) 1=some (.ptr r (o+1)):=aj
theorem zuY(cs:List AV):zlg Tryz.prog 188 (.iptr cs) 1=some (.iptr (cs.drop 1)):=aj
theorem zzs(cs:List AV):zlW Tryz.prog 188 (.agg cs) 1=zlh Tryz.prog 9 cs 1:=aj
theorem zuZ(r o:Nat):zlg Tryz.prog 188 (.ptr r o) 2=some (.ptr r (o+2)):=aj
theorem zu0(cs:List AV):zlg Tryz.prog 188 (.iptr cs) 2=some (.iptr (cs.drop 2)):=aj
theorem zzt(cs:List AV):zlW Tryz.prog 188 (.agg cs) 2=zlh Tryz.prog 3 cs 2:=aj
def CD:=ad @CC (ad @zci (ad @GR (ad @GS (ad @zuV (ad @zuW (ad @zzr (ad @zuX (ad @zuY (ad @zzs (ad @zuZ (ad @zu0 (@zzt))))))))))))
theorem L6:zlq Tryz.prog 206=some 8:=aj
theorem zcs:zmg Tryz.prog 206=some 8:=aj
theorem zct(cs:List AV)(o:Nat):zlh Tryz.prog 206 cs o=zlT 8 (cs.drop o):=jV Tryz.underlying206 rfl L6 cs o
theorem zcu:zlV Tryz.prog 206=some [(.bool false),(.bool false),(.bool false),(.bool false),(.bool false),(.bool false),(.bool false),(.bool false)]:=aj
theorem zu1(r o:Nat):zlg Tryz.prog 206 (.ptr r o) 0=some (.ptr r (o+0)):=aj
theorem zu2(cs:List AV):zlg Tryz.prog 206 (.iptr cs) 0=some (.iptr (cs.drop 0)):=aj
theorem zzu(cs:List AV):zlW Tryz.prog 206 (.agg cs) 0=zlh Tryz.prog 4 cs 0:=aj
theorem zu3(r o:Nat):zlg Tryz.prog 206 (.ptr r o) 1=some (.ptr r (o+1)):=aj
theorem zu4(cs:List AV):zlg Tryz.prog 206 (.iptr cs) 1=some (.iptr (cs.drop 1)):=aj
theorem zzv(cs:List AV):zlW Tryz.prog 206 (.agg cs) 1=zlh Tryz.prog 4 cs 1:=aj
theorem zu5(r o:Nat):zlg Tryz.prog 206 (.ptr r o) 2=some (.ptr r (o+2)):=aj
theorem zu6(cs:List AV):zlg Tryz.prog 206 (.iptr cs) 2=some (.iptr (cs.drop 2)):=aj
theorem zzw(cs:List AV):zlW Tryz.prog 206 (.agg cs) 2=zlh Tryz.prog 4 cs 2:=aj
theorem zu7(r o:Nat):zlg Tryz.prog 206 (.ptr r o) 3=some (.ptr r (o+3)):=aj
theorem zu8(cs:List AV):zlg Tryz.prog 206 (.iptr cs) 3=some (.iptr (cs.drop 3)):=aj
theorem zzx(cs:List AV):zlW Tryz.prog 206 (.agg cs) 3=zlh Tryz.prog 4 cs 3:=aj
theorem zu9(r o:Nat):zlg Tryz.prog 206 (.ptr r o) 4=some (.ptr r (o+4)):=aj
theorem zva(cs:List AV):zlg Tryz.prog 206 (.iptr cs) 4=some (.iptr (cs.drop 4)):=aj
theorem zzy(cs:List AV):zlW Tryz.prog 206 (.agg cs) 4=zlh Tryz.prog 4 cs 4:=aj
theorem zvb(r o:Nat):zlg Tryz.prog 206 (.ptr r o) 5=some (.ptr r (o+5)):=aj
theorem zvc(cs:List AV):zlg Tryz.prog 206 (.iptr cs) 5=some (.iptr (cs.drop 5)):=aj
theorem zzz(cs:List AV):zlW Tryz.prog 206 (.agg cs) 5=zlh Tryz.prog 4 cs 5:=aj
theorem zvd(r o:Nat):zlg Tryz.prog 206 (.ptr r o) 6=some (.ptr r (o+6)):=aj
theorem zve(cs:List AV):zlg Tryz.prog 206 (.iptr cs) 6=some (.iptr (cs.drop 6)):=aj
theorem zzA(cs:List AV):zlW Tryz.prog 206 (.agg cs) 6=zlh Tryz.prog 4 cs 6:=aj
theorem zvf(r o:Nat):zlg Tryz.prog 206 (.ptr r o) 7=some (.ptr r (o+7)):=aj
theorem zvg(cs:List AV):zlg Tryz.prog 206 (.iptr cs) 7=some (.iptr (cs.drop 7)):=aj
theorem zzB(cs:List AV):zlW Tryz.prog 206 (.agg cs) 7=zlh Tryz.prog 4 cs 7:=aj
def L7:=ad @L6 (ad @zct (ad @zcs (ad @zcu (ad @zu1 (ad @zu2 (ad @zzu (ad @zu3 (ad @zu4 (ad @zzv (ad @zu5 (ad @zu6 (ad @zzw (ad @zu7 (ad @zu8 (ad @zzx (ad @zu9 (ad @zva (ad @zzy (ad @zvb (ad @zvc (ad @zzz (ad @zvd (ad @zve (ad @zzA (ad @zvf (ad @zvg (@zzB)))))))))))))))))))))))))))
theorem zcT:zlq Tryz.prog 211=some 1:=aj
theorem zcU:zmg Tryz.prog 211=some 24:=aj
theorem zcV(cs:List AV)(o:Nat):zlh Tryz.prog 211 cs o=cs[o]?:=zm9 Tryz.underlying211 rfl cs o
theorem zcW:zlV Tryz.prog 211=some [.nilS]:=aj
theorem zcX(xs:List (List AV)){n:Int}(J:0<=n)(k:IntKind):zlO Tryz.prog 211 (.lst xs) (.int k n)=l8 1 (xs[n.toNat]?):=znG Tryz.underlying211 (show zlq Tryz.prog 59=some 1 from by kernel_rfl) xs J k
theorem zcY(r o l z:Nat){n:Int}(J:0<=n)(k:IntKind):zlO Tryz.prog 211 (.sl r o l z) (.int k n)=bif decide (n.toNat<l)then some (.ptr r (o+n.toNat*1))else none:=znI Tryz.underlying211 (show zlq Tryz.prog 59=some 1 from by kernel_rfl) r o l z J k
theorem zcZ(H:Hp)(xs:List (List AV)):zlS Tryz.prog H 211 (.lst xs)=some (.int .i64 xs.length):=jD Tryz.underlying211 xs
theorem zc0(H:Hp)(r o n z:Nat):zlS Tryz.prog H 211 (.sl r o n z)=some (.int .i64 n):=znB Tryz.underlying211 r o n z
theorem zc1(H:Hp):zlS Tryz.prog H 211 .nilS=some (.int .i64 0):=znE Tryz.underlying211
def GT:=ad @zcT (ad @zcV (ad @zcU (ad @zcW (ad @zcX (ad @zcY (ad @zcZ (ad @zc0 (@zc1))))))))
theorem L8:zlq Tryz.prog 227=some 7:=aj
theorem zc2:zmg Tryz.prog 227=some 112:=aj
theorem zc3(cs:List AV)(o:Nat):zlh Tryz.prog 227 cs o=zlT 7 (cs.drop o):=jV Tryz.underlying227 rfl L8 cs o
theorem zc4:zlV Tryz.prog 227=some [(.str []),(.str []),(.str []),(.str []),(.str []),(.str []),(.str [])]:=aj
def zc5:=ad @L8 (ad @zc3 (ad @zc2 (@zc4)))
theorem zzC(H:Hp)(k:IntKind)(n:Int):zny Tryz.prog H 2 182 (.int k n)=some (.int .u64 (IntKind.wrap .u64 n)):=xc
theorem L9(H:Hp)(k:IntKind)(n:Int):zny Tryz.prog H 2 185 (.int k n)=some (.int .u64 (IntKind.wrap .u64 n)):=xc
theorem pU(H:Hp)(k:IntKind)(n:Int):zny Tryz.prog H 3 5 (.int k n)=some (.int .u8 (IntKind.wrap .u8 n)):=xc
theorem Ma(H:Hp)(k:IntKind)(n:Int):zny Tryz.prog H 3 182 (.int k n)=some (.int .u64 (IntKind.wrap .u64 n)):=xc
theorem Mb(H:Hp)(k:IntKind)(n:Int):zny Tryz.prog H 3 185 (.int k n)=some (.int .u64 (IntKind.wrap .u64 n)):=xc
theorem Mc(H:Hp)(k:IntKind)(n:Int):zny Tryz.prog H 185 5 (.int k n)=some (.int .u8 (IntKind.wrap .u8 n)):=xc
end Go.Proofs.YtpbcimfiofmoeaaGreat
namespace Go.Ab
set_option maxRecDepth 20000
open Go
variable {P:Program} {cfg:Cfg} {f N:Nat}
theorem zlL{a:SC}{E:aw}{H:Hp}{Q:AX->aw->Hp->Prop}(cs rs:List Nat)(I n:Nat)(J:Nat->aw->Hp->Prop)(Y:E.at I=.int .i64 0)(z:J 0 E H)
 (h:∀(i:Nat) (E':aw) (H':Hp),i<=n->(∀k∈cs,E'.at k=E.at k)->(∀r∈rs,H'.get r=H.get r)->H.next<=H'.next->E'.at I=.int .i64 i->J i E' H' ->
   zlt P cfg f N a E' H' (lF Q fun U Z=>i<n/\(∀k∈cs,U.at k=E.at k)/\(∀r∈rs,Z.get r=H.get r)/\H.next<=Z.next/\U.at I=.int .i64 ((i+1:Nat):Int)/\J (i+1) U Z)):zlt P cfg f N (.loop a) E H Q:=
 qJ (fun i E' H'=>(∀k∈cs,E'.at k=E.at k)/\(∀r∈rs,H'.get r=H.get r)/\H.next<=H'.next/\E'.at I=.int .i64 i/\J i E' H') n (fun i E' H' V ⟨m,j,O,M,K⟩=>h i E' H' V m j O M K) ⟨fun _ _=>rfl,fun _ _=>rfl,aB _,Y,z⟩
theorem zzD{a:SC}{E:aw}{H:Hp}{Q:AX->aw->Hp->Prop}(cs rs:List Nat)(J:Nat->aw->Hp->Prop)(n:Nat)(z:J n E H)
 (h:∀(i:Nat) (E':aw) (H':Hp),(∀k∈cs,E'.at k=E.at k)->(∀r∈rs,H'.get r=H.get r)->H.next<=H'.next->J i E' H' ->
   zlt P cfg f N a E' H' (lF Q fun U I=>(∀k∈cs,U.at k=E.at k)/\(∀r∈rs,I.get r=H.get r)/\H.next<=I.next/\∃m,m<i/\J m U I)):zlt P cfg f N (.loop a) E H Q:=
 zr (fun i E' H'=>(∀k∈cs,E'.at k=E.at k)/\(∀r∈rs,H'.get r=H.get r)/\H.next<=H'.next/\J i E' H') (fun i E' H' ⟨Z,j,Y,O⟩=>w6 (fun x U I V=>by
  cases x with
  |normal=>obtain⟨K,o,M,m,C,q5⟩:=V;exact⟨m,C,K,o,M,q5⟩
  |exit id=>exact V
  |ret=>exact V) (h i E' H' Z j Y O)) (n:=n) ⟨fun _ _=>rfl,fun _ _=>rfl,aB _,z⟩
theorem zlm{p:Nat->Prop}{a:Nat}{l:List Nat}:(∀k∈a::l,p k)↔p a/\∀k∈l,p k:=Ct
theorem zlb{p:Nat->Prop}:(∀k∈([]:List Nat),p k)↔True:=⟨fun _=>trivial,fun _ _ h=>lY⟩
theorem zkV{a b:Nat}(h:a≠b):(a == b)=false:=j8
theorem zni{i n:Nat}(h:i<n)(J:n<2^62):AV.int .i64 (IntKind.wrap .i64 ((i:Int)+1))=.int .i64 ((i+1:Nat):Int):=by rw[zm3 ac]
theorem oS{Z:Type}(v:Option Z)(f:Nat)(u:Option Z)(l r:T Z)(k:Nat):jS v (f+1) (.n u l r) k=if k=0 then .n v l r else if k%2=1 then .n u (jS v f l (k/2)) r else .n u l (jS v f r (k/2-1)):=by
 rw[BJ];show jR (Nat.beq k 0) _ (jR (Nat.beq (k%2) 1) _ _)=_;cases C:Nat.beq k 0 with
 |true=>rw[am (jk C)];rfl
 |false=>
  rw[af (yL C)];cases hc:Nat.beq (k%2) 1 with
  |true=>rw[am (jk hc)];rfl
  |false=>rw[af (yL hc)];rfl
theorem Md{Z:Type}(v:Option Z)(f k:Nat):jS v (f+1) .e k=jS v (f+1) (.n none .e .e) k:=by
 rw[BJ,BJ]
theorem GU{Z:Type}(v w:Option Z):∀(f g:Nat) (t:T Z) (k j:Nat),k<f->j<g->k≠j->jS w g (jS v f t k) j=jS v f (jS w g t j) k
 |0,_,_,_,_,h,_,_=>by omega
 |_+1,0,_,_,_,_,h,_=>by omega
 |f+1,g+1,t,k,j,hk,hj,hne=>by
  have M:∀(u:Option Z) (l r:T Z),jS w (g+1) (jS v (f+1) (.n u l r) k) j=jS v (f+1) (jS w (g+1) (.n u l r) j) k:=fun u l r=>by
   rw[oS,oS];by_cases k0:k=0
   .rw[am k0,oS];have J:¬j=0:=ac;rw[af J,af J];by_cases K:j%2=1
    .rw[am K,am K,oS,am k0]
    .rw[af K,af K,oS,am k0]
   .rw[af k0];by_cases Y:k%2=1
    .rw[am Y,oS];by_cases J:j=0
     .rw[am J,am J,oS,af k0,am Y]
     .rw[af J,af J];by_cases K:j%2=1
      .rw[am K,am K,oS,af k0,am Y,GU v w f g l (k/2) (j/2) ac ac ac]
      .rw[af K,af K,oS,af k0,am Y]
    .rw[af Y,oS];by_cases J:j=0
     .rw[am J,am J,oS,af k0,af Y]
     .rw[af J,af J];by_cases K:j%2=1
      .rw[am K,am K,oS,af k0,af Y]
      .rw[af K,af K,oS,af k0,af Y,GU v w f g r (k/2-1) (j/2-1) ac ac ac]
  cases t with
  |e=>rw[Md v,Md w];exact M _ _ _
  |n u l r=>exact M u l r
theorem Me(H:Hp){r s:Nat}(h:r≠s)(a b:HB):(H.set r a).set s b=(H.set s b).set r a:=by
 show Hp.mk H.next _=Hp.mk H.next _
 congr 1
 exact GU (some a) (some b) (r+1) (s+1) H.t r s ac ac h
theorem T.beq_refl{Z:Type}{O:Z->Z->Bool}(o:∀a,O a a=true):∀x:T Z,T.beq O x x=true
 | .e=>rfl
 | .n none l r=>by simp[T.beq,T.beq_refl o l,T.beq_refl o r]
 | .n (some a) l r=>by simp[T.beq,o a,T.beq_refl o l,T.beq_refl o r]
theorem zmW(ops:List Oper)(E:aw)(H:Hp):yF ops E E H H=true:=by
 unfold yF;rw[T.beq_refl HB.beq_refl,Nat.beq_refl,fR,fR,iP];intro o _;cases o.dst with
 |none=>rfl
 |some d=>exact AV.beq_refl _
def znu(o:Oper):Option Tmp×Op×Option (Nat×Bool):=(o.dst,o.op,o.guard)
theorem zth{I K:List Oper}(h:I.map znu=K.map znu)(g:Option (Nat×Bool)):zln I g=zln K g:=by
 cases g with
 |none=>rfl
 |some g=>
  obtain⟨j,b⟩:=g;have e:(I[j]?).map znu=(K[j]?).map znu:=by rw[<-eS,<-eS,h]
  unfold zln;cases m:I[j]? with
  |none=>
   rw[m]at e;cases Z:K[j]? with
   |none=>simp only[m,Z]
   |some o=>rw[Z]at e;cases e
  |some o=>
   rw[m]at e;cases Z:K[j]? with
   |none=>rw[Z]at e;cases e
   |some Y=>
    rw[Z]at e;simp only[pM,znu,gR]at e;simp only[m,Z,cn,e.1]
theorem GV{N:Nat}{I K:List Oper}(h:I.map znu=K.map znu):∀{l J:List Oper},l.map znu=J.map znu->zle N I l=zle N K J
 |[],[],_=>rfl
 |[],_::_,k=>by simp at k
 |_::_,[],k=>by simp at k
 |o::l,o'::J,k=>by
  simp only[dM,ea]at k;have e:=k.1;simp only[znu,gR]at e;rw[zle,zle,e.1,e.2.1,e.2.2,zth h,GV h k.2]
theorem CE(q p:Nat)(l:List Oper):(eJ q p l).map znu=l.map znu:=by
 unfold eJ;cases h:l[q]? with
 |none=>rfl
 |some o=>
  simp only;rw[qL];apply GD;intro i;rw[oJ];by_cases e:q=i
  .subst e;rw[am rfl,eS,h];simp only[cp,oH,znu];rw[am (fw.1 h).1]
  .rw[af e]
theorem Mf(ord:List Nat){l J:List Oper}(h:l.map znu=J.map znu):(zmE ord l).map znu=(zmE ord J).map znu:=by
 unfold zmE;rw[List.map_filterMap,List.map_filterMap]
 congr 1
 funext i
 have e:(l[i]?).map znu=(J[i]?).map znu:=by rw[<-eS,<-eS,h]
 cases m:l[i]? with
 |none=>
  rw[m]at e;cases j:J[i]? with
  |none=>rfl
  |some o=>rw[j]at e;cases e
 |some o=>
  rw[m]at e;cases j:J[i]? with
  |none=>rw[j]at e;cases e
  |some Z=>
   rw[j]at e;simp only[pM,znu,gR]at e⊢;simp only[sr,e.1,e.2.1,e.2.2,oM]
section
variable {P:Program} {cfg:Cfg} {f N:Nat}
theorem zvi{id p q:Nat}{ord:List Nat}{ops:List Oper}{l1 J:List SOp}{M O:List (Nat×Nat)}{E Z:aw}{H Y:Hp}{Q:AX->aw->Hp->Prop}
 (K:cfg.plan f id=.split p q .text (.perm ord)) (C:Nat.beq p q=false) (c1:nJ (eJ q p ops)=true) (z:zle N ops ops=some l1) (zlQ:mz (eJ q p ops)=M)
 (pb:vc ord (eJ p q ops)=true) (c2:nJ (zmE ord (eJ p q ops))=true) (o:zle N (zmE ord ops) (zmE ord ops)=some J) (n2:mz (zmE ord (eJ p q ops))=O)
 (h1:eh P cfg f l1 [] E H fun j E' H'=>oO P cfg M j H'/\E'=Z/\H'=Y) (h2:eh P cfg f J [] E H fun j E' H'=>oO P cfg O j H'/\E'=Z/\H'=Y) (hk:Q .normal Z Y):zlt P cfg f N (.draw id ops) E H Q:=by
 have z:zle N (eJ q p ops) (eJ q p ops)=some l1:=by rw[GV (CE q p ops) (CE q p ops)];exact z
 have o:zle N (zmE ord (eJ p q ops)) (zmE ord (eJ p q ops))=some J:=by rw[GV (Mf ord (CE p q ops)) (Mf ord (CE p q ops))];exact o
 unfold zlt;intro code hc;cases code with
 |region id' V draw=>
  cases draw with
  |false=>simp only[aC,zll]at hc;split at hc<;>simp at hc
  |true=>
   simp only[aC,SC.draw.injEq]at hc;obtain⟨rfl,rfl⟩:=hc;obtain⟨n,E',H',rs,a1,a2,rfl,rfl⟩:=eh.run z h1;obtain⟨m,U,I,rs2,b1,b2,rfl,rfl⟩:=eh.run o h2;have r1:zns P cfg (zmi P cfg (n+m)) f N (eJ q p V.toList) E H=.done .normal U I:=by
    have e:zns P cfg (zmi P cfg n) f N (eJ q p V.toList) E H=.done .normal U I:=by
     unfold zns;rw[c1];simp only[a1];rw[zlQ,GC (by simpa using a2)]
    rw[Cg (fun t ht=>zq (Nat.le_add_right n m) ht) (by rw[e];simp),e]
   have r2:zns P cfg (zmi P cfg (n+m)) f N (zmE ord (eJ p q V.toList)) E H=.done .normal U I:=by
    have e:zns P cfg (zmi P cfg m) f N (zmE ord (eJ p q V.toList)) E H=.done .normal U I:=by
     unfold zns;rw[c2];simp only[b1];rw[n2,GC (by simpa using b2)]
    rw[Cg (fun t ht=>zq (Nat.le_add_left m n) ht) (by rw[e];simp),e]
   refine⟨_,_,_,zmj.draw (n:=n+m) (r:=.done .normal U I) ?_ ax,hk⟩;rw[K];simp only[znt,C,pb,r1,r2,tV,zmW]
 |_=>simp[aC]at hc
end
end Go.Ab
