/- Parts: Facts, AbFor. -/
import Derived.KernelRfl
import Derived.Test.YtpbcimfiofmoeaaNCE
import Derived.Test.YtpbcimfiofmoeaaRows
set_option linter.unusedSimpArgs false
set_option linter.unusedVariables false
set_option linter.unusedSectionVars false
set_option linter.defProp false
set_option maxHeartbeats 32000000
namespace Go.Ab
set_option maxRecDepth 20000
open Go
theorem vt{P:Prop}(h:P:=by cases k<;>kernel_rfl):P:=h
def ad:=@And.intro
def lw:=@Bool.not_false
def fI:=@Bool.true_and
def br:=@and_true
def pQ:=@Int.toNat_natCast
end Go.Ab
namespace Go.Proofs.Ytpbcimfiofmoeaa
set_option maxRecDepth 20000
open Go Go.Ab
def za4:=ad @Ol (ad @List.toList_toArray.{0} (ad @zb4 (ad @pE (ad @zdq (ad @mc (ad @lw (ad @List.length_map.{0,0} (ad @Int.natCast_zero (ad @No (ad @Np (ad @Nq (ad @Nr (ad @Ns (ad @iF (ad @cond_true.{1} (ad @cond_false.{1} (@b4)))))))))))))))))
def zbg:=ad @sh (ad @Ex.c0 (ad @Ex.c1 (ad @Ex.c2 (ad @Ex.c3 (ad @Ex.c4 (ad @Ex.whole (ad @sk (ad @St.clen (ad @St.c0 (ad @St.c1 (ad @St.c2 (ad @St.c3 (ad @St.c4 (ad @St.c5 (ad @St.c6 (ad @St.c7 (ad @St.c8 (ad @St.c9 (ad @St.c10 (ad @St.c11 (ad @St.c12 (ad @St.c13 (ad @St.c14 (ad @St.c15 (ad @St.c16 (ad @St.whole (ad @St.one (ad @OB (ad @St.part_value (ad @Fu.clen (ad @Fu.c0 (ad @Fu.c1 (ad @Fu.c2 (ad @Fu.c3 (ad @Fu.c4 (ad @Fu.c5 (ad @Fu.c6 (ad @Fu.c7 (ad @Fu.c8 (ad @Fu.whole (ad @Fu.one (ad @Fu.part_value (ad @Ar.clen (ad @Ar.c0 (ad @Ar.c1 (ad @Ar.whole (ad @Ar.one (ad @Pr.clen (ad @Pr.c0 (ad @Pr.c1 (ad @Pr.whole (ad @Pr.one (ad @Tk.clen (ad @Tk.c0 (ad @Tk.c1 (ad @Tk.c2 (ad @Tk.whole (ad @Tk.one (ad @Nd.clen (ad @Nd.c0 (ad @Nd.c1 (ad @Nd.c2 (ad @Nd.whole (ad @Nd.one (ad @Gr.clen (ad @Gr.c0 (ad @Gr.c1 (ad @Gr.c2 (ad @Gr.c3 (ad @Gr.c4 (ad @Gr.whole (ad @Gr.one (ad @Un.clen (ad @Un.c0 (ad @Un.c1 (ad @Un.whole (ad @Un.one (ad @Oc (ad @Od (ad @Oe (ad @Of (ad @List.getElem?_drop.{0} (ad @pG (ad @if_true.{1} (ad @BM (ad @BL (ad @Fx (ad @NQ (ad @cells_int (ad @Fy (ad @NR (ad @NS (ad @NT (ad @NU (ad @NV (ad @NW (ad @NX (ad @NY (ad @NZ (ad @N0 (ad @N2 (ad @N4 (ad @N8 (ad @N9 (ad @Oa (ad @Ob (ad @List.all_cons.{0} (ad @List.all_nil.{0} (ad @gm (ad @fI (ad @br (ad @kK (ad @dg (ad @aA (ad @List.nil_append.{0} (ad @List.append_nil.{0} (ad @List.cons_append.{0} (ad @zbb (ad @zbl (ad @zb4 (ad @beq_self_eq_true.{0} (ad @BN (ad @BO (ad @Fz (ad @i7 (ad @List.getElem?_map.{0,0} (ad @Option.map_some.{0,0} (ad @NO (ad @NP (ad @NN (ad @NK (ad @NL (ad @get_set (ad @sd (ad @List.getElem?_cons_succ.{0} (ad @List.getElem?_cons_zero.{0} (ad @List.drop_succ_cons.{0} (ad @List.drop_zero.{0} (ad @List.take_succ_cons.{0} (ad @List.take_zero.{0} (ad @List.length_cons.{0} (ad @List.length_nil.{0} (ad @Int.natCast_nonneg (ad @pQ (ad @Nt (ad @Nu (ad @Nv (ad @Nw (ad @Nx (ad @Ny (ad @Nz (ad @NA (ad @NB (ad @NC (ad @ND (ad @NE (ad @NF (ad @NG (ad @NH (@NI))))))))))))))))))))))))))))))))))))))))))))))))))))))))))))))))))))))))))))))))))))))))))))))))))))))))))))))))))))))))))))))))))))))))))))))))))))))))))))))))
structure Plain (cfg:Cfg) (f:FuncId):Prop where
 call:∀args,cfg.call f args=none
 ice:cfg.ice f=false
 froz:cfg.froz f=false
theorem OC:zbh Try.prog 2=some 1:=ah
theorem OD:zb3 Try.prog 2=some 8:=ah
theorem OE(cs:List AV)(o:Nat):zba Try.prog 2 cs o=cs[o]?:=zcT Try.underlying2 rfl cs o
theorem OF:zbU Try.prog 2=some [(.int .i64 0)]:=ah
def eJ:=ad @OC (ad @OE (ad @OD (@OF)))
theorem jK:zbh Try.prog 3=some 1:=ah
theorem nU:zb3 Try.prog 3=some 8:=ah
theorem OG(cs:List AV)(o:Nat):zba Try.prog 3 cs o=cs[o]?:=zcT Try.underlying3 rfl cs o
theorem nV:zbU Try.prog 3=some [(.int .i64 0)]:=ah
def cQ:=ad @jK (ad @OG (ad @nU (@nV)))
theorem yb:zbh Try.prog 4=some 1:=ah
theorem FG:zb3 Try.prog 4=some 1:=ah
theorem OH(cs:List AV)(o:Nat):zba Try.prog 4 cs o=cs[o]?:=zcT Try.underlying4 rfl cs o
theorem FH:zbU Try.prog 4=some [(.bool false)]:=ah
def yd:=ad @yb (ad @OH (ad @FG (@FH)))
theorem BS:zbh Try.prog 5=some 1:=ah
theorem BT:zb3 Try.prog 5=some 1:=ah
theorem OI(cs:List AV)(o:Nat):zba Try.prog 5 cs o=cs[o]?:=zcT Try.underlying5 rfl cs o
theorem BU:zbU Try.prog 5=some [(.int .u8 0)]:=ah
def vu:=ad @BS (ad @OI (ad @BT (@BU)))
theorem vx:zbh Try.prog 9=some 1:=ah
theorem vy:zb3 Try.prog 9=some 16:=ah
theorem OJ(cs:List AV)(o:Nat):zba Try.prog 9 cs o=cs[o]?:=zcT Try.underlying9 rfl cs o
theorem vz:zbU Try.prog 9=some [(.str [])]:=ah
theorem OK(H:Hp)(s:List UInt8):zbO Try.prog H 9 (.str s)=some (.int .i64 s.length):=NJ Try.underlying9 s
theorem OL(s:List UInt8){n:Int}(U:0<=n)(k:IntKind):nH Try.prog 9 (.str s) (.int k n)=x5 (s[n.toNat]?):=NM Try.underlying9 s U k
def cW:=ad @vx (ad @OJ (ad @vy (ad @vz (ad @OK (@OL)))))
theorem OM:zbh Try.prog 23=some 1:=ah
theorem ON:zb3 Try.prog 23=some 24:=ah
theorem OO(cs:List AV)(o:Nat):zba Try.prog 23 cs o=cs[o]?:=zcT Try.underlying23 rfl cs o
theorem OP:zbU Try.prog 23=some [.nilS]:=ah
theorem OQ(xs:List (List AV)){n:Int}(U:0<=n)(k:IntKind):zb1 Try.prog 23 (.lst xs) (.int k n)=kg 1 (xs[n.toNat]?):=zdw Try.underlying23 (show zbh Try.prog 3=some 1 from by kernel_rfl) xs U k
theorem FI(r o l z:Nat){n:Int}(U:0<=n)(k:IntKind):zb1 Try.prog 23 (.sl r o l z) (.int k n)=bif decide (n.toNat<l)then some (.ptr r (o+n.toNat*1))else none:=zdx Try.underlying23 (show zbh Try.prog 3=some 1 from by kernel_rfl) r o l z U k
theorem OR(H:Hp)(xs:List (List AV)):zbO Try.prog H 23 (.lst xs)=some (.int .i64 xs.length):=zdr Try.underlying23 xs
theorem OS(H:Hp)(r o n z:Nat):zbO Try.prog H 23 (.sl r o n z)=some (.int .i64 n):=zdk Try.underlying23 r o n z
theorem OT(H:Hp):zbO Try.prog H 23 .nilS=some (.int .i64 0):=zdo Try.underlying23
def gU:=ad @OM (ad @OO (ad @ON (ad @OP (ad @OQ (ad @FI (ad @OR (ad @OS (@OT))))))))
theorem BV:zbh Try.prog 25=some 3:=ah
theorem FJ:zb3 Try.prog 25=some 40:=ah
theorem OU(cs:List AV)(o:Nat):zba Try.prog 25 cs o=zbJ 3 (cs.drop o):=zdp Try.underlying25 rfl BV cs o
theorem FK:zbU Try.prog 25=some [(.int .i64 0),(.int .i64 0),.nilS]:=ah
theorem OV(r o:Nat):za6 Try.prog 25 (.ptr r o) 0=some (.ptr r (o+0)):=ah
theorem OW(cs:List AV):za6 Try.prog 25 (.iptr cs) 0=some (.iptr (cs.drop 0)):=ah
theorem OX(cs:List AV):zbG Try.prog 25 (.agg cs) 0=zba Try.prog 3 cs 0:=ah
theorem OY(r o:Nat):za6 Try.prog 25 (.ptr r o) 1=some (.ptr r (o+1)):=ah
theorem OZ(cs:List AV):za6 Try.prog 25 (.iptr cs) 1=some (.iptr (cs.drop 1)):=ah
theorem O0(cs:List AV):zbG Try.prog 25 (.agg cs) 1=zba Try.prog 2 cs 1:=ah
theorem O1(r o:Nat):za6 Try.prog 25 (.ptr r o) 2=some (.ptr r (o+2)):=ah
theorem O2(cs:List AV):za6 Try.prog 25 (.iptr cs) 2=some (.iptr (cs.drop 2)):=ah
theorem O3(cs:List AV):zbG Try.prog 25 (.agg cs) 2=zba Try.prog 23 cs 2:=ah
def qN:=ad @BV (ad @OU (ad @FJ (ad @FK (ad @OV (ad @OW (ad @OX (ad @OY (ad @OZ (ad @O0 (ad @O1 (ad @O2 (@O3))))))))))))
theorem O4:zbh Try.prog 26=some 1:=ah
theorem O5:zb3 Try.prog 26=some 24:=ah
theorem O6(cs:List AV)(o:Nat):zba Try.prog 26 cs o=cs[o]?:=zcT Try.underlying26 rfl cs o
theorem O7:zbU Try.prog 26=some [.nilS]:=ah
theorem O8(xs:List (List AV)){n:Int}(U:0<=n)(k:IntKind):zb1 Try.prog 26 (.lst xs) (.int k n)=kg 3 (xs[n.toNat]?):=zdw Try.underlying26 (show zbh Try.prog 25=some 3 from by kernel_rfl) xs U k
theorem O9(r o l z:Nat){n:Int}(U:0<=n)(k:IntKind):zb1 Try.prog 26 (.sl r o l z) (.int k n)=bif decide (n.toNat<l)then some (.ptr r (o+n.toNat*3))else none:=zdx Try.underlying26 (show zbh Try.prog 25=some 3 from by kernel_rfl) r o l z U k
theorem Pa(H:Hp)(xs:List (List AV)):zbO Try.prog H 26 (.lst xs)=some (.int .i64 xs.length):=zdr Try.underlying26 xs
theorem Pb(H:Hp)(r o n z:Nat):zbO Try.prog H 26 (.sl r o n z)=some (.int .i64 n):=zdk Try.underlying26 r o n z
theorem Pc(H:Hp):zbO Try.prog H 26 .nilS=some (.int .i64 0):=zdo Try.underlying26
def lx:=ad @O4 (ad @O6 (ad @O5 (ad @O7 (ad @O8 (ad @O9 (ad @Pa (ad @Pb (@Pc))))))))
theorem BW:zbh Try.prog 28=some 5:=ah
theorem FL:zb3 Try.prog 28=some 64:=ah
theorem Pd(cs:List AV)(o:Nat):zba Try.prog 28 cs o=zbJ 5 (cs.drop o):=zdp Try.underlying28 rfl BW cs o
theorem FM:zbU Try.prog 28=some [(.str []),(.int .i64 0),.nilS,(.int .i64 0),(.int .i64 0)]:=ah
theorem Pe(r o:Nat):za6 Try.prog 28 (.ptr r o) 0=some (.ptr r (o+0)):=ah
theorem Pf(cs:List AV):za6 Try.prog 28 (.iptr cs) 0=some (.iptr (cs.drop 0)):=ah
theorem Pg(cs:List AV):zbG Try.prog 28 (.agg cs) 0=zba Try.prog 9 cs 0:=ah
theorem Ph(r o:Nat):za6 Try.prog 28 (.ptr r o) 1=some (.ptr r (o+1)):=ah
theorem Pi(cs:List AV):za6 Try.prog 28 (.iptr cs) 1=some (.iptr (cs.drop 1)):=ah
theorem Pj(cs:List AV):zbG Try.prog 28 (.agg cs) 1=zba Try.prog 3 cs 1:=ah
theorem Pk(r o:Nat):za6 Try.prog 28 (.ptr r o) 2=some (.ptr r (o+2)):=ah
theorem Pm(cs:List AV):za6 Try.prog 28 (.iptr cs) 2=some (.iptr (cs.drop 2)):=ah
theorem Pn(cs:List AV):zbG Try.prog 28 (.agg cs) 2=zba Try.prog 26 cs 2:=ah
theorem Po(r o:Nat):za6 Try.prog 28 (.ptr r o) 3=some (.ptr r (o+3)):=ah
theorem Pp(cs:List AV):za6 Try.prog 28 (.iptr cs) 3=some (.iptr (cs.drop 3)):=ah
theorem Pq(cs:List AV):zbG Try.prog 28 (.agg cs) 3=zba Try.prog 3 cs 3:=ah
theorem Ps(r o:Nat):za6 Try.prog 28 (.ptr r o) 4=some (.ptr r (o+4)):=ah
theorem Pt(cs:List AV):za6 Try.prog 28 (.iptr cs) 4=some (.iptr (cs.drop 4)):=ah
theorem Pu(cs:List AV):zbG Try.prog 28 (.agg cs) 4=zba Try.prog 3 cs 4:=ah
def ye:=ad @BW (ad @Pd (ad @FL (ad @FM (ad @Pe (ad @Pf (ad @Pg (ad @Ph (ad @Pi (ad @Pj (ad @Pk (ad @Pm (ad @Pn (ad @Po (ad @Pp (ad @Pq (ad @Ps (ad @Pt (@Pu))))))))))))))))))
theorem Pv:zbh Try.prog 31=some 1:=ah
theorem Pw:zb3 Try.prog 31=some 24:=ah
theorem Px(cs:List AV)(o:Nat):zba Try.prog 31 cs o=cs[o]?:=zcT Try.underlying31 rfl cs o
theorem Py:zbU Try.prog 31=some [.nilS]:=ah
theorem Pz(xs:List (List AV)){n:Int}(U:0<=n)(k:IntKind):zb1 Try.prog 31 (.lst xs) (.int k n)=kg 5 (xs[n.toNat]?):=zdw Try.underlying31 (show zbh Try.prog 28=some 5 from by kernel_rfl) xs U k
theorem PA(r o l z:Nat){n:Int}(U:0<=n)(k:IntKind):zb1 Try.prog 31 (.sl r o l z) (.int k n)=bif decide (n.toNat<l)then some (.ptr r (o+n.toNat*5))else none:=zdx Try.underlying31 (show zbh Try.prog 28=some 5 from by kernel_rfl) r o l z U k
theorem PB(H:Hp)(xs:List (List AV)):zbO Try.prog H 31 (.lst xs)=some (.int .i64 xs.length):=zdr Try.underlying31 xs
theorem PC(H:Hp)(r o n z:Nat):zbO Try.prog H 31 (.sl r o n z)=some (.int .i64 n):=zdk Try.underlying31 r o n z
theorem PD(H:Hp):zbO Try.prog H 31 .nilS=some (.int .i64 0):=zdo Try.underlying31
def BX:=ad @Pv (ad @Px (ad @Pw (ad @Py (ad @Pz (ad @PA (ad @PB (ad @PC (@PD))))))))
theorem PE:zbh Try.prog 32=some 1:=ah
theorem PF:zb3 Try.prog 32=some 24:=ah
theorem PG(cs:List AV)(o:Nat):zba Try.prog 32 cs o=cs[o]?:=zcT Try.underlying32 rfl cs o
theorem PH:zbU Try.prog 32=some [.nilS]:=ah
theorem PI(xs:List (List AV)){n:Int}(U:0<=n)(k:IntKind):zb1 Try.prog 32 (.lst xs) (.int k n)=kg 2 (xs[n.toNat]?):=zdw Try.underlying32 (show zbh Try.prog 74=some 2 from by kernel_rfl) xs U k
theorem PJ(r o l z:Nat){n:Int}(U:0<=n)(k:IntKind):zb1 Try.prog 32 (.sl r o l z) (.int k n)=bif decide (n.toNat<l)then some (.ptr r (o+n.toNat*2))else none:=zdx Try.underlying32 (show zbh Try.prog 74=some 2 from by kernel_rfl) r o l z U k
theorem PK(H:Hp)(xs:List (List AV)):zbO Try.prog H 32 (.lst xs)=some (.int .i64 xs.length):=zdr Try.underlying32 xs
theorem PL(H:Hp)(r o n z:Nat):zbO Try.prog H 32 (.sl r o n z)=some (.int .i64 n):=zdk Try.underlying32 r o n z
theorem PM(H:Hp):zbO Try.prog H 32 .nilS=some (.int .i64 0):=zdo Try.underlying32
def kQ:=ad @PE (ad @PG (ad @PF (ad @PH (ad @PI (ad @PJ (ad @PK (ad @PL (@PM))))))))
theorem FN:zbh Try.prog 34=some 2:=ah
theorem PN:zb3 Try.prog 34=some 48:=ah
theorem PO(cs:List AV)(o:Nat):zba Try.prog 34 cs o=zbJ 2 (cs.drop o):=zdp Try.underlying34 rfl FN cs o
theorem PP:zbU Try.prog 34=some [.nilS,.nilS]:=ah
theorem PQ(r o:Nat):za6 Try.prog 34 (.ptr r o) 0=some (.ptr r (o+0)):=ah
theorem PR(cs:List AV):za6 Try.prog 34 (.iptr cs) 0=some (.iptr (cs.drop 0)):=ah
theorem PS(cs:List AV):zbG Try.prog 34 (.agg cs) 0=zba Try.prog 32 cs 0:=ah
theorem PT(r o:Nat):za6 Try.prog 34 (.ptr r o) 1=some (.ptr r (o+1)):=ah
theorem PU(cs:List AV):za6 Try.prog 34 (.iptr cs) 1=some (.iptr (cs.drop 1)):=ah
theorem PV(cs:List AV):zbG Try.prog 34 (.agg cs) 1=zba Try.prog 31 cs 1:=ah
def BY:=ad @FN (ad @PO (ad @PN (ad @PP (ad @PQ (ad @PR (ad @PS (ad @PT (ad @PU (@PV)))))))))
theorem PW:zbh Try.prog 40=some 1:=ah
theorem PX:zb3 Try.prog 40=some 24:=ah
theorem PY(cs:List AV)(o:Nat):zba Try.prog 40 cs o=cs[o]?:=zcT Try.underlying40 rfl cs o
theorem PZ:zbU Try.prog 40=some [.nilS]:=ah
theorem P1(xs:List (List AV)){n:Int}(U:0<=n)(k:IntKind):zb1 Try.prog 40 (.lst xs) (.int k n)=kg 9 (xs[n.toNat]?):=zdw Try.underlying40 (show zbh Try.prog 53=some 9 from by kernel_rfl) xs U k
theorem P2(r o l z:Nat){n:Int}(U:0<=n)(k:IntKind):zb1 Try.prog 40 (.sl r o l z) (.int k n)=bif decide (n.toNat<l)then some (.ptr r (o+n.toNat*9))else none:=zdx Try.underlying40 (show zbh Try.prog 53=some 9 from by kernel_rfl) r o l z U k
theorem P3(H:Hp)(xs:List (List AV)):zbO Try.prog H 40 (.lst xs)=some (.int .i64 xs.length):=zdr Try.underlying40 xs
theorem P4(H:Hp)(r o n z:Nat):zbO Try.prog H 40 (.sl r o n z)=some (.int .i64 n):=zdk Try.underlying40 r o n z
theorem P5(H:Hp):zbO Try.prog H 40 .nilS=some (.int .i64 0):=zdo Try.underlying40
def ly:=ad @PW (ad @PY (ad @PX (ad @PZ (ad @P1 (ad @P2 (ad @P3 (ad @P4 (@P5))))))))
theorem FO:zbh Try.prog 42=some 2:=ah
theorem P6:zb3 Try.prog 42=some 48:=ah
theorem P7(cs:List AV)(o:Nat):zba Try.prog 42 cs o=zbJ 2 (cs.drop o):=zdp Try.underlying42 rfl FO cs o
theorem P8:zbU Try.prog 42=some [.nilS,.nilS]:=ah
theorem P9(r o:Nat):za6 Try.prog 42 (.ptr r o) 0=some (.ptr r (o+0)):=ah
theorem Qa(cs:List AV):za6 Try.prog 42 (.iptr cs) 0=some (.iptr (cs.drop 0)):=ah
theorem Qb(cs:List AV):zbG Try.prog 42 (.agg cs) 0=zba Try.prog 32 cs 0:=ah
theorem Qc(r o:Nat):za6 Try.prog 42 (.ptr r o) 1=some (.ptr r (o+1)):=ah
theorem Qd(cs:List AV):za6 Try.prog 42 (.iptr cs) 1=some (.iptr (cs.drop 1)):=ah
theorem Qe(cs:List AV):zbG Try.prog 42 (.agg cs) 1=zba Try.prog 40 cs 1:=ah
def gI:=ad @FO (ad @P7 (ad @P6 (ad @P8 (ad @P9 (ad @Qa (ad @Qb (ad @Qc (ad @Qd (@Qe)))))))))
theorem Qf:zbh Try.prog 44=some 1:=ah
theorem Qg:zb3 Try.prog 44=some 8:=ah
theorem Qh(cs:List AV)(o:Nat):zba Try.prog 44 cs o=cs[o]?:=zcT Try.underlying44 rfl cs o
theorem Qi:zbU Try.prog 44=some [(.int .i64 0)]:=ah
def sm:=ad @Qf (ad @Qh (ad @Qg (@Qi)))
theorem Qj:zbh Try.prog 47=some 1:=ah
theorem Qk:zb3 Try.prog 47=some 24:=ah
theorem Ql(cs:List AV)(o:Nat):zba Try.prog 47 cs o=cs[o]?:=zcT Try.underlying47 rfl cs o
theorem Qm:zbU Try.prog 47=some [.nilS]:=ah
theorem Qn(xs:List (List AV)){n:Int}(U:0<=n)(k:IntKind):zb1 Try.prog 47 (.lst xs) (.int k n)=kg 1 (xs[n.toNat]?):=zdw Try.underlying47 (show zbh Try.prog 9=some 1 from by kernel_rfl) xs U k
theorem FP(r o l z:Nat){n:Int}(U:0<=n)(k:IntKind):zb1 Try.prog 47 (.sl r o l z) (.int k n)=bif decide (n.toNat<l)then some (.ptr r (o+n.toNat*1))else none:=zdx Try.underlying47 (show zbh Try.prog 9=some 1 from by kernel_rfl) r o l z U k
theorem Qo(H:Hp)(xs:List (List AV)):zbO Try.prog H 47 (.lst xs)=some (.int .i64 xs.length):=zdr Try.underlying47 xs
theorem Qp(H:Hp)(r o n z:Nat):zbO Try.prog H 47 (.sl r o n z)=some (.int .i64 n):=zdk Try.underlying47 r o n z
theorem Qq(H:Hp):zbO Try.prog H 47 .nilS=some (.int .i64 0):=zdo Try.underlying47
def gJ:=ad @Qj (ad @Ql (ad @Qk (ad @Qm (ad @Qn (ad @FP (ad @Qo (ad @Qp (@Qq))))))))
theorem Qr:zbh Try.prog 48=some 1:=ah
theorem Qs:zb3 Try.prog 48=some 24:=ah
theorem Qt(cs:List AV)(o:Nat):zba Try.prog 48 cs o=cs[o]?:=zcT Try.underlying48 rfl cs o
theorem Qu:zbU Try.prog 48=some [.nilS]:=ah
theorem Qv(xs:List (List AV)){n:Int}(U:0<=n)(k:IntKind):zb1 Try.prog 48 (.lst xs) (.int k n)=kg 17 (xs[n.toNat]?):=zdw Try.underlying48 (show zbh Try.prog 55=some 17 from by kernel_rfl) xs U k
theorem Qw(r o l z:Nat){n:Int}(U:0<=n)(k:IntKind):zb1 Try.prog 48 (.sl r o l z) (.int k n)=bif decide (n.toNat<l)then some (.ptr r (o+n.toNat*17))else none:=zdx Try.underlying48 (show zbh Try.prog 55=some 17 from by kernel_rfl) r o l z U k
theorem Qx(H:Hp)(xs:List (List AV)):zbO Try.prog H 48 (.lst xs)=some (.int .i64 xs.length):=zdr Try.underlying48 xs
theorem Qy(H:Hp)(r o n z:Nat):zbO Try.prog H 48 (.sl r o n z)=some (.int .i64 n):=zdk Try.underlying48 r o n z
theorem Qz(H:Hp):zbO Try.prog H 48 .nilS=some (.int .i64 0):=zdo Try.underlying48
def eK:=ad @Qr (ad @Qt (ad @Qs (ad @Qu (ad @Qv (ad @Qw (ad @Qx (ad @Qy (@Qz))))))))
theorem QA:zbh Try.prog 49=some 1:=ah
theorem QB:zb3 Try.prog 49=some 24:=ah
theorem QC(cs:List AV)(o:Nat):zba Try.prog 49 cs o=cs[o]?:=zcT Try.underlying49 rfl cs o
theorem QD:zbU Try.prog 49=some [.nilS]:=ah
theorem QE(xs:List (List AV)){n:Int}(U:0<=n)(k:IntKind):zb1 Try.prog 49 (.lst xs) (.int k n)=kg 5 (xs[n.toNat]?):=zdw Try.underlying49 (show zbh Try.prog 51=some 5 from by kernel_rfl) xs U k
theorem QF(r o l z:Nat){n:Int}(U:0<=n)(k:IntKind):zb1 Try.prog 49 (.sl r o l z) (.int k n)=bif decide (n.toNat<l)then some (.ptr r (o+n.toNat*5))else none:=zdx Try.underlying49 (show zbh Try.prog 51=some 5 from by kernel_rfl) r o l z U k
theorem QG(H:Hp)(xs:List (List AV)):zbO Try.prog H 49 (.lst xs)=some (.int .i64 xs.length):=zdr Try.underlying49 xs
theorem QH(H:Hp)(r o n z:Nat):zbO Try.prog H 49 (.sl r o n z)=some (.int .i64 n):=zdk Try.underlying49 r o n z
theorem QI(H:Hp):zbO Try.prog H 49 .nilS=some (.int .i64 0):=zdo Try.underlying49
def eA:=ad @QA (ad @QC (ad @QB (ad @QD (ad @QE (ad @QF (ad @QG (ad @QH (@QI))))))))
theorem tB:zbh Try.prog 51=some 5:=ah
theorem vA:zb3 Try.prog 51=some 64:=ah
theorem QJ(cs:List AV)(o:Nat):zba Try.prog 51 cs o=zbJ 5 (cs.drop o):=zdp Try.underlying51 rfl tB cs o
theorem vB:zbU Try.prog 51=some [(.int .i64 0),(.int .i64 0),(.str []),(.int .i64 0),.nilS]:=ah
theorem QK(r o:Nat):za6 Try.prog 51 (.ptr r o) 0=some (.ptr r (o+0)):=ah
theorem QL(cs:List AV):za6 Try.prog 51 (.iptr cs) 0=some (.iptr (cs.drop 0)):=ah
theorem QM(cs:List AV):zbG Try.prog 51 (.agg cs) 0=zba Try.prog 3 cs 0:=ah
theorem QN(r o:Nat):za6 Try.prog 51 (.ptr r o) 1=some (.ptr r (o+1)):=ah
theorem QO(cs:List AV):za6 Try.prog 51 (.iptr cs) 1=some (.iptr (cs.drop 1)):=ah
theorem QP(cs:List AV):zbG Try.prog 51 (.agg cs) 1=zba Try.prog 2 cs 1:=ah
theorem QQ(r o:Nat):za6 Try.prog 51 (.ptr r o) 2=some (.ptr r (o+2)):=ah
theorem QR(cs:List AV):za6 Try.prog 51 (.iptr cs) 2=some (.iptr (cs.drop 2)):=ah
theorem QS(cs:List AV):zbG Try.prog 51 (.agg cs) 2=zba Try.prog 9 cs 2:=ah
theorem QT(r o:Nat):za6 Try.prog 51 (.ptr r o) 3=some (.ptr r (o+3)):=ah
theorem QU(cs:List AV):za6 Try.prog 51 (.iptr cs) 3=some (.iptr (cs.drop 3)):=ah
theorem QV(cs:List AV):zbG Try.prog 51 (.agg cs) 3=zba Try.prog 3 cs 3:=ah
theorem QW(r o:Nat):za6 Try.prog 51 (.ptr r o) 4=some (.ptr r (o+4)):=ah
theorem QX(cs:List AV):za6 Try.prog 51 (.iptr cs) 4=some (.iptr (cs.drop 4)):=ah
theorem QY(cs:List AV):zbG Try.prog 51 (.agg cs) 4=zba Try.prog 49 cs 4:=ah
def dX:=ad @tB (ad @QJ (ad @vA (ad @vB (ad @QK (ad @QL (ad @QM (ad @QN (ad @QO (ad @QP (ad @QQ (ad @QR (ad @QS (ad @QT (ad @QU (ad @QV (ad @QW (ad @QX (@QY))))))))))))))))))
theorem BZ:zbh Try.prog 53=some 9:=ah
theorem FQ:zb3 Try.prog 53=some 152:=ah
theorem QZ(cs:List AV)(o:Nat):zba Try.prog 53 cs o=zbJ 9 (cs.drop o):=zdp Try.underlying53 rfl BZ cs o
theorem FR:zbU Try.prog 53=some [(.str []),.nilS,.nilS,.nilS,(.int .i64 0),(.int .i64 0),(.str []),(.int .i64 0),.nilS]:=ah
theorem Q0(r o:Nat):za6 Try.prog 53 (.ptr r o) 0=some (.ptr r (o+0)):=ah
theorem Q1(cs:List AV):za6 Try.prog 53 (.iptr cs) 0=some (.iptr (cs.drop 0)):=ah
theorem Q3(cs:List AV):zbG Try.prog 53 (.agg cs) 0=zba Try.prog 9 cs 0:=ah
theorem Q4(r o:Nat):za6 Try.prog 53 (.ptr r o) 1=some (.ptr r (o+1)):=ah
theorem Q5(cs:List AV):za6 Try.prog 53 (.iptr cs) 1=some (.iptr (cs.drop 1)):=ah
theorem Q6(cs:List AV):zbG Try.prog 53 (.agg cs) 1=zba Try.prog 47 cs 1:=ah
theorem Q7(r o:Nat):za6 Try.prog 53 (.ptr r o) 2=some (.ptr r (o+2)):=ah
theorem Q8(cs:List AV):za6 Try.prog 53 (.iptr cs) 2=some (.iptr (cs.drop 2)):=ah
theorem Q9(cs:List AV):zbG Try.prog 53 (.agg cs) 2=zba Try.prog 47 cs 2:=ah
theorem Ra(r o:Nat):za6 Try.prog 53 (.ptr r o) 3=some (.ptr r (o+3)):=ah
theorem Rd(cs:List AV):za6 Try.prog 53 (.iptr cs) 3=some (.iptr (cs.drop 3)):=ah
theorem Re(cs:List AV):zbG Try.prog 53 (.agg cs) 3=zba Try.prog 48 cs 3:=ah
theorem Rf(r o:Nat):za6 Try.prog 53 (.ptr r o) 4=some (.ptr r (o+4)):=ah
theorem Rg(cs:List AV):za6 Try.prog 53 (.iptr cs) 4=some (.iptr (cs.drop 4)):=ah
theorem Rh(cs:List AV):zbG Try.prog 53 (.agg cs) 4=zba Try.prog 51 cs 4:=ah
def lA:=ad @BZ (ad @QZ (ad @FQ (ad @FR (ad @Q0 (ad @Q1 (ad @Q3 (ad @Q4 (ad @Q5 (ad @Q6 (ad @Q7 (ad @Q8 (ad @Q9 (ad @Ra (ad @Rd (ad @Re (ad @Rf (ad @Rg (@Rh))))))))))))))))))
theorem vC:zbh Try.prog 55=some 17:=ah
theorem yf:zb3 Try.prog 55=some 248:=ah
theorem Rk(cs:List AV)(o:Nat):zba Try.prog 55 cs o=zbJ 17 (cs.drop o):=zdp Try.underlying55 rfl vC cs o
theorem yg:zbU Try.prog 55=some [(.int .i64 0),(.str []),(.str []),(.int .i64 0),(.int .i64 0),(.int .i64 0),(.str []),(.int .i64 0),.nilS,(.int .i64 0),(.int .i64 0),(.str []),(.int .i64 0),.nilS,.nilS,.nilS,.nilS]:=ah
theorem Rl(r o:Nat):za6 Try.prog 55 (.ptr r o) 0=some (.ptr r (o+0)):=ah
theorem Rm(cs:List AV):za6 Try.prog 55 (.iptr cs) 0=some (.iptr (cs.drop 0)):=ah
theorem Rn(cs:List AV):zbG Try.prog 55 (.agg cs) 0=zba Try.prog 3 cs 0:=ah
theorem Ro(r o:Nat):za6 Try.prog 55 (.ptr r o) 1=some (.ptr r (o+1)):=ah
theorem Rp(cs:List AV):za6 Try.prog 55 (.iptr cs) 1=some (.iptr (cs.drop 1)):=ah
theorem Rq(cs:List AV):zbG Try.prog 55 (.agg cs) 1=zba Try.prog 9 cs 1:=ah
theorem Rr(r o:Nat):za6 Try.prog 55 (.ptr r o) 2=some (.ptr r (o+2)):=ah
theorem Rt(cs:List AV):za6 Try.prog 55 (.iptr cs) 2=some (.iptr (cs.drop 2)):=ah
theorem Ru(cs:List AV):zbG Try.prog 55 (.agg cs) 2=zba Try.prog 9 cs 2:=ah
theorem Rv(r o:Nat):za6 Try.prog 55 (.ptr r o) 3=some (.ptr r (o+3)):=ah
theorem Rw(cs:List AV):za6 Try.prog 55 (.iptr cs) 3=some (.iptr (cs.drop 3)):=ah
theorem Rz(cs:List AV):zbG Try.prog 55 (.agg cs) 3=zba Try.prog 3 cs 3:=ah
theorem RA(r o:Nat):za6 Try.prog 55 (.ptr r o) 4=some (.ptr r (o+4)):=ah
theorem RB(cs:List AV):za6 Try.prog 55 (.iptr cs) 4=some (.iptr (cs.drop 4)):=ah
theorem RC(cs:List AV):zbG Try.prog 55 (.agg cs) 4=zba Try.prog 51 cs 4:=ah
theorem RD(r o:Nat):za6 Try.prog 55 (.ptr r o) 5=some (.ptr r (o+9)):=ah
theorem RE(cs:List AV):za6 Try.prog 55 (.iptr cs) 5=some (.iptr (cs.drop 9)):=ah
theorem RF(cs:List AV):zbG Try.prog 55 (.agg cs) 5=zba Try.prog 51 cs 9:=ah
theorem RG(r o:Nat):za6 Try.prog 55 (.ptr r o) 6=some (.ptr r (o+14)):=ah
theorem RH(cs:List AV):za6 Try.prog 55 (.iptr cs) 6=some (.iptr (cs.drop 14)):=ah
theorem RI(cs:List AV):zbG Try.prog 55 (.agg cs) 6=zba Try.prog 49 cs 14:=ah
theorem RJ(r o:Nat):za6 Try.prog 55 (.ptr r o) 7=some (.ptr r (o+15)):=ah
theorem RK(cs:List AV):za6 Try.prog 55 (.iptr cs) 7=some (.iptr (cs.drop 15)):=ah
theorem RL(cs:List AV):zbG Try.prog 55 (.agg cs) 7=zba Try.prog 48 cs 15:=ah
theorem RM(r o:Nat):za6 Try.prog 55 (.ptr r o) 8=some (.ptr r (o+16)):=ah
theorem RN(cs:List AV):za6 Try.prog 55 (.iptr cs) 8=some (.iptr (cs.drop 16)):=ah
theorem RO(cs:List AV):zbG Try.prog 55 (.agg cs) 8=zba Try.prog 48 cs 16:=ah
def fj:=ad @vC (ad @Rk (ad @yf (ad @yg (ad @Rl (ad @Rm (ad @Rn (ad @Ro (ad @Rp (ad @Rq (ad @Rr (ad @Rt (ad @Ru (ad @Rv (ad @Rw (ad @Rz (ad @RA (ad @RB (ad @RC (ad @RD (ad @RE (ad @RF (ad @RG (ad @RH (ad @RI (ad @RJ (ad @RK (ad @RL (ad @RM (ad @RN (@RO))))))))))))))))))))))))))))))
theorem RP:zbh Try.prog 61=some 1:=ah
theorem RQ:zb3 Try.prog 61=some 24:=ah
theorem RR(cs:List AV)(o:Nat):zba Try.prog 61 cs o=cs[o]?:=zcT Try.underlying61 rfl cs o
theorem RS:zbU Try.prog 61=some [.nilS]:=ah
theorem RT(xs:List (List AV)){n:Int}(U:0<=n)(k:IntKind):zb1 Try.prog 61 (.lst xs) (.int k n)=kg 1 (xs[n.toNat]?):=zdw Try.underlying61 (show zbh Try.prog 5=some 1 from by kernel_rfl) xs U k
theorem RU(r o l z:Nat){n:Int}(U:0<=n)(k:IntKind):zb1 Try.prog 61 (.sl r o l z) (.int k n)=bif decide (n.toNat<l)then some (.ptr r (o+n.toNat*1))else none:=zdx Try.underlying61 (show zbh Try.prog 5=some 1 from by kernel_rfl) r o l z U k
theorem RV(H:Hp)(xs:List (List AV)):zbO Try.prog H 61 (.lst xs)=some (.int .i64 xs.length):=zdr Try.underlying61 xs
theorem RW(H:Hp)(r o n z:Nat):zbO Try.prog H 61 (.sl r o n z)=some (.int .i64 n):=zdk Try.underlying61 r o n z
theorem RX(H:Hp):zbO Try.prog H 61 .nilS=some (.int .i64 0):=zdo Try.underlying61
def FS:=ad @RP (ad @RR (ad @RQ (ad @RS (ad @RT (ad @RU (ad @RV (ad @RW (@RX))))))))
theorem FT:zbh Try.prog 63=some 2:=ah
theorem RY:zb3 Try.prog 63=some 16:=ah
theorem RZ(cs:List AV)(o:Nat):zba Try.prog 63 cs o=zbJ 2 (cs.drop o):=zdp Try.underlying63 rfl FT cs o
theorem R0:zbU Try.prog 63=some [(.int .i64 0),(.int .i64 0)]:=ah
theorem Sa(r o:Nat):za6 Try.prog 63 (.ptr r o) 0=some (.ptr r (o+0)):=ah
theorem Sb(cs:List AV):za6 Try.prog 63 (.iptr cs) 0=some (.iptr (cs.drop 0)):=ah
theorem Sd(cs:List AV):zbG Try.prog 63 (.agg cs) 0=zba Try.prog 44 cs 0:=ah
theorem Se(r o:Nat):za6 Try.prog 63 (.ptr r o) 1=some (.ptr r (o+1)):=ah
theorem Sf(cs:List AV):za6 Try.prog 63 (.iptr cs) 1=some (.iptr (cs.drop 1)):=ah
theorem Sg(cs:List AV):zbG Try.prog 63 (.agg cs) 1=zba Try.prog 3 cs 1:=ah
def B0:=ad @FT (ad @RZ (ad @RY (ad @R0 (ad @Sa (ad @Sb (ad @Sd (ad @Se (ad @Sf (@Sg)))))))))
theorem vD:zbh Try.prog 74=some 2:=ah
theorem yh:zb3 Try.prog 74=some 24:=ah
theorem Sh(cs:List AV)(o:Nat):zba Try.prog 74 cs o=zbJ 2 (cs.drop o):=zdp Try.underlying74 rfl vD cs o
theorem yj:zbU Try.prog 74=some [(.str []),(.int .i64 0)]:=ah
theorem Sk(r o:Nat):za6 Try.prog 74 (.ptr r o) 0=some (.ptr r (o+0)):=ah
theorem Sl(cs:List AV):za6 Try.prog 74 (.iptr cs) 0=some (.iptr (cs.drop 0)):=ah
theorem Sn(cs:List AV):zbG Try.prog 74 (.agg cs) 0=zba Try.prog 9 cs 0:=ah
theorem So(r o:Nat):za6 Try.prog 74 (.ptr r o) 1=some (.ptr r (o+1)):=ah
theorem Sp(cs:List AV):za6 Try.prog 74 (.iptr cs) 1=some (.iptr (cs.drop 1)):=ah
theorem Sq(cs:List AV):zbG Try.prog 74 (.agg cs) 1=zba Try.prog 3 cs 1:=ah
def oM:=ad @vD (ad @Sh (ad @yh (ad @yj (ad @Sk (ad @Sl (ad @Sn (ad @So (ad @Sp (@Sq)))))))))
theorem FU:zbh Try.prog 77=some 2:=ah
theorem Sr:zb3 Try.prog 77=some 32:=ah
theorem Ss(cs:List AV)(o:Nat):zba Try.prog 77 cs o=zbJ 2 (cs.drop o):=zdp Try.underlying77 rfl FU cs o
theorem Su:zbU Try.prog 77=some [.nilS,(.int .i64 0)]:=ah
theorem Sv(r o:Nat):za6 Try.prog 77 (.ptr r o) 0=some (.ptr r (o+0)):=ah
theorem Sw(cs:List AV):za6 Try.prog 77 (.iptr cs) 0=some (.iptr (cs.drop 0)):=ah
theorem Sy(cs:List AV):zbG Try.prog 77 (.agg cs) 0=zba Try.prog 23 cs 0:=ah
theorem Sz(r o:Nat):za6 Try.prog 77 (.ptr r o) 1=some (.ptr r (o+1)):=ah
theorem SA(cs:List AV):za6 Try.prog 77 (.iptr cs) 1=some (.iptr (cs.drop 1)):=ah
theorem SB(cs:List AV):zbG Try.prog 77 (.agg cs) 1=zba Try.prog 3 cs 1:=ah
def tC:=ad @FU (ad @Ss (ad @Sr (ad @Su (ad @Sv (ad @Sw (ad @Sy (ad @Sz (ad @SA (@SB)))))))))
theorem SD:zbh Try.prog 81=some 1:=ah
theorem SE:zb3 Try.prog 81=some 8:=ah
theorem SF(cs:List AV)(o:Nat):zba Try.prog 81 cs o=cs[o]?:=zcT Try.underlying81 rfl cs o
theorem SG:zbU Try.prog 81=some [.nilM]:=ah
def ml:=ad @SD (ad @SF (ad @SE (@SG)))
theorem FV:zbh Try.prog 84=some 10:=ah
theorem SH:zb3 Try.prog 84=some 144:=ah
theorem SI(cs:List AV)(o:Nat):zba Try.prog 84 cs o=zbJ 10 (cs.drop o):=zdp Try.underlying84 rfl FV cs o
theorem SJ:zbU Try.prog 84=some [.nilS,.nilS,.nilM,.nilM,.nilS,.nilM,.nilM,.nilS,(.int .i64 0),(.int .i64 0)]:=ah
theorem SK(r o:Nat):za6 Try.prog 84 (.ptr r o) 0=some (.ptr r (o+0)):=ah
theorem SL(cs:List AV):za6 Try.prog 84 (.iptr cs) 0=some (.iptr (cs.drop 0)):=ah
theorem SM(cs:List AV):zbG Try.prog 84 (.agg cs) 0=zba Try.prog 42 cs 0:=ah
theorem SN(r o:Nat):za6 Try.prog 84 (.ptr r o) 1=some (.ptr r (o+2)):=ah
theorem SO(cs:List AV):za6 Try.prog 84 (.iptr cs) 1=some (.iptr (cs.drop 2)):=ah
theorem SP(cs:List AV):zbG Try.prog 84 (.agg cs) 1=zba Try.prog 81 cs 2:=ah
theorem SQ(r o:Nat):za6 Try.prog 84 (.ptr r o) 2=some (.ptr r (o+3)):=ah
theorem SR(cs:List AV):za6 Try.prog 84 (.iptr cs) 2=some (.iptr (cs.drop 3)):=ah
theorem SS(cs:List AV):zbG Try.prog 84 (.agg cs) 2=zba Try.prog 81 cs 3:=ah
theorem SU(r o:Nat):za6 Try.prog 84 (.ptr r o) 3=some (.ptr r (o+4)):=ah
theorem SV(cs:List AV):za6 Try.prog 84 (.iptr cs) 3=some (.iptr (cs.drop 4)):=ah
theorem SW(cs:List AV):zbG Try.prog 84 (.agg cs) 3=zba Try.prog 26 cs 4:=ah
theorem SX(r o:Nat):za6 Try.prog 84 (.ptr r o) 4=some (.ptr r (o+5)):=ah
theorem SY(cs:List AV):za6 Try.prog 84 (.iptr cs) 4=some (.iptr (cs.drop 5)):=ah
theorem SZ(cs:List AV):zbG Try.prog 84 (.agg cs) 4=zba Try.prog 81 cs 5:=ah
theorem S0(r o:Nat):za6 Try.prog 84 (.ptr r o) 5=some (.ptr r (o+6)):=ah
theorem S1(cs:List AV):za6 Try.prog 84 (.iptr cs) 5=some (.iptr (cs.drop 6)):=ah
theorem S8(cs:List AV):zbG Try.prog 84 (.agg cs) 5=zba Try.prog 81 cs 6:=ah
theorem Ta(r o:Nat):za6 Try.prog 84 (.ptr r o) 6=some (.ptr r (o+7)):=ah
theorem Tb(cs:List AV):za6 Try.prog 84 (.iptr cs) 6=some (.iptr (cs.drop 7)):=ah
theorem Tc(cs:List AV):zbG Try.prog 84 (.agg cs) 6=zba Try.prog 23 cs 7:=ah
theorem Td(r o:Nat):za6 Try.prog 84 (.ptr r o) 7=some (.ptr r (o+8)):=ah
theorem Te(cs:List AV):za6 Try.prog 84 (.iptr cs) 7=some (.iptr (cs.drop 8)):=ah
theorem Tf(cs:List AV):zbG Try.prog 84 (.agg cs) 7=zba Try.prog 3 cs 8:=ah
theorem Tg(r o:Nat):za6 Try.prog 84 (.ptr r o) 8=some (.ptr r (o+9)):=ah
theorem Th(cs:List AV):za6 Try.prog 84 (.iptr cs) 8=some (.iptr (cs.drop 9)):=ah
theorem Ti(cs:List AV):zbG Try.prog 84 (.agg cs) 8=zba Try.prog 3 cs 9:=ah
def nW:=ad @FV (ad @SI (ad @SH (ad @SJ (ad @SK (ad @SL (ad @SM (ad @SN (ad @SO (ad @SP (ad @SQ (ad @SR (ad @SS (ad @SU (ad @SV (ad @SW (ad @SX (ad @SY (ad @SZ (ad @S0 (ad @S1 (ad @S8 (ad @Ta (ad @Tb (ad @Tc (ad @Td (ad @Te (ad @Tf (ad @Tg (ad @Th (@Ti))))))))))))))))))))))))))))))
theorem Tj:zbh Try.prog 90=some 1:=ah
theorem Tl:zb3 Try.prog 90=some 24:=ah
theorem Tm(cs:List AV)(o:Nat):zba Try.prog 90 cs o=cs[o]?:=zcT Try.underlying90 rfl cs o
theorem Tn:zbU Try.prog 90=some [.nilS]:=ah
theorem To(xs:List (List AV)){n:Int}(U:0<=n)(k:IntKind):zb1 Try.prog 90 (.lst xs) (.int k n)=kg 3 (xs[n.toNat]?):=zdw Try.underlying90 (show zbh Try.prog 119=some 3 from by kernel_rfl) xs U k
theorem Tp(r o l z:Nat){n:Int}(U:0<=n)(k:IntKind):zb1 Try.prog 90 (.sl r o l z) (.int k n)=bif decide (n.toNat<l)then some (.ptr r (o+n.toNat*3))else none:=zdx Try.underlying90 (show zbh Try.prog 119=some 3 from by kernel_rfl) r o l z U k
theorem Tq(H:Hp)(xs:List (List AV)):zbO Try.prog H 90 (.lst xs)=some (.int .i64 xs.length):=zdr Try.underlying90 xs
theorem Tr(H:Hp)(r o n z:Nat):zbO Try.prog H 90 (.sl r o n z)=some (.int .i64 n):=zdk Try.underlying90 r o n z
theorem Ts(H:Hp):zbO Try.prog H 90 .nilS=some (.int .i64 0):=zdo Try.underlying90
def B3:=ad @Tj (ad @Tm (ad @Tl (ad @Tn (ad @To (ad @Tp (ad @Tq (ad @Tr (@Ts))))))))
theorem Tt:zbh Try.prog 107=some 1:=ah
theorem Tu:zb3 Try.prog 107=some 24:=ah
theorem Tv(cs:List AV)(o:Nat):zba Try.prog 107 cs o=cs[o]?:=zcT Try.underlying107 rfl cs o
theorem Tw:zbU Try.prog 107=some [.nilS]:=ah
theorem Tx(xs:List (List AV)){n:Int}(U:0<=n)(k:IntKind):zb1 Try.prog 107 (.lst xs) (.int k n)=kg 1 (xs[n.toNat]?):=zdw Try.underlying107 (show zbh Try.prog 4=some 1 from by kernel_rfl) xs U k
theorem Ty(r o l z:Nat){n:Int}(U:0<=n)(k:IntKind):zb1 Try.prog 107 (.sl r o l z) (.int k n)=bif decide (n.toNat<l)then some (.ptr r (o+n.toNat*1))else none:=zdx Try.underlying107 (show zbh Try.prog 4=some 1 from by kernel_rfl) r o l z U k
theorem Tz(H:Hp)(xs:List (List AV)):zbO Try.prog H 107 (.lst xs)=some (.int .i64 xs.length):=zdr Try.underlying107 xs
theorem TA(H:Hp)(r o n z:Nat):zbO Try.prog H 107 (.sl r o n z)=some (.int .i64 n):=zdk Try.underlying107 r o n z
theorem TB(H:Hp):zbO Try.prog H 107 .nilS=some (.int .i64 0):=zdo Try.underlying107
def FW:=ad @Tt (ad @Tv (ad @Tu (ad @Tw (ad @Tx (ad @Ty (ad @Tz (ad @TA (@TB))))))))
theorem yk:zbh Try.prog 119=some 3:=ah
theorem B4:zb3 Try.prog 119=some 32:=ah
theorem TC(cs:List AV)(o:Nat):zba Try.prog 119 cs o=zbJ 3 (cs.drop o):=zdp Try.underlying119 rfl yk cs o
theorem B5:zbU Try.prog 119=some [(.int .i64 0),(.str []),(.int .i64 0)]:=ah
theorem TD(r o:Nat):za6 Try.prog 119 (.ptr r o) 0=some (.ptr r (o+0)):=ah
theorem TE(cs:List AV):za6 Try.prog 119 (.iptr cs) 0=some (.iptr (cs.drop 0)):=ah
theorem TF(cs:List AV):zbG Try.prog 119 (.agg cs) 0=zba Try.prog 3 cs 0:=ah
theorem TG(r o:Nat):za6 Try.prog 119 (.ptr r o) 1=some (.ptr r (o+1)):=ah
theorem TH(cs:List AV):za6 Try.prog 119 (.iptr cs) 1=some (.iptr (cs.drop 1)):=ah
theorem TI(cs:List AV):zbG Try.prog 119 (.agg cs) 1=zba Try.prog 9 cs 1:=ah
theorem TJ(r o:Nat):za6 Try.prog 119 (.ptr r o) 2=some (.ptr r (o+2)):=ah
theorem TK(cs:List AV):za6 Try.prog 119 (.iptr cs) 2=some (.iptr (cs.drop 2)):=ah
theorem TL(cs:List AV):zbG Try.prog 119 (.agg cs) 2=zba Try.prog 3 cs 2:=ah
def yl:=ad @yk (ad @TC (ad @B4 (ad @B5 (ad @TD (ad @TE (ad @TF (ad @TG (ad @TH (ad @TI (ad @TJ (ad @TK (@TL))))))))))))
theorem TM:zbh Try.prog 121=some 1:=ah
theorem TN:zb3 Try.prog 121=some 8:=ah
theorem TO(cs:List AV)(o:Nat):zba Try.prog 121 cs o=cs[o]?:=zcT Try.underlying121 rfl cs o
theorem TP:zbU Try.prog 121=some [(.int .u64 0)]:=ah
def FX:=ad @TM (ad @TO (ad @TN (@TP)))
theorem TQ:zbh Try.prog 133=some 1:=ah
theorem TS:zb3 Try.prog 133=some 8:=ah
theorem TT(cs:List AV)(o:Nat):zba Try.prog 133 cs o=cs[o]?:=zcT Try.underlying133 rfl cs o
theorem TU:zbU Try.prog 133=some [.nilF]:=ah
def FY:=ad @TQ (ad @TT (ad @TS (@TU)))
theorem TV:zbh Try.prog 140=some 1:=ah
theorem TW:zb3 Try.prog 140=some 8:=ah
theorem TX(cs:List AV)(o:Nat):zba Try.prog 140 cs o=cs[o]?:=zcT Try.underlying140 rfl cs o
theorem TY:zbU Try.prog 140=some [.nilM]:=ah
def B6:=ad @TV (ad @TX (ad @TW (@TY)))
theorem TZ:zbh Try.prog 145=some 1:=ah
theorem T0:zb3 Try.prog 145=some 8:=ah
theorem T1(cs:List AV)(o:Nat):zba Try.prog 145 cs o=cs[o]?:=zcT Try.underlying145 rfl cs o
theorem T2:zbU Try.prog 145=some [(.int .u64 0)]:=ah
def FZ:=ad @TZ (ad @T1 (ad @T0 (@T2)))
theorem Ga:zbh Try.prog 147=some 4:=ah
theorem T3:zb3 Try.prog 147=some 96:=ah
theorem T4(cs:List AV)(o:Nat):zba Try.prog 147 cs o=zbJ 4 (cs.drop o):=zdp Try.underlying147 rfl Ga cs o
theorem T5:zbU Try.prog 147=some [.nilS,.nilS,.nilS,.nilS]:=ah
theorem T6(r o:Nat):za6 Try.prog 147 (.ptr r o) 0=some (.ptr r (o+0)):=ah
theorem T7(cs:List AV):za6 Try.prog 147 (.iptr cs) 0=some (.iptr (cs.drop 0)):=ah
theorem T8(cs:List AV):zbG Try.prog 147 (.agg cs) 0=zba Try.prog 47 cs 0:=ah
theorem T9(r o:Nat):za6 Try.prog 147 (.ptr r o) 1=some (.ptr r (o+1)):=ah
theorem Ua(cs:List AV):za6 Try.prog 147 (.iptr cs) 1=some (.iptr (cs.drop 1)):=ah
theorem Ub(cs:List AV):zbG Try.prog 147 (.agg cs) 1=zba Try.prog 47 cs 1:=ah
theorem Uc(r o:Nat):za6 Try.prog 147 (.ptr r o) 2=some (.ptr r (o+2)):=ah
theorem Ud(cs:List AV):za6 Try.prog 147 (.iptr cs) 2=some (.iptr (cs.drop 2)):=ah
theorem Ue(cs:List AV):zbG Try.prog 147 (.agg cs) 2=zba Try.prog 42 cs 2:=ah
def Uf:=ad @Ga (ad @T4 (ad @T3 (ad @T5 (ad @T6 (ad @T7 (ad @T8 (ad @T9 (ad @Ua (ad @Ub (ad @Uc (ad @Ud (@Ue))))))))))))
theorem Ug:zbh Try.prog 154=some 1:=ah
theorem Uh:zb3 Try.prog 154=some 24:=ah
theorem Ui(cs:List AV)(o:Nat):zba Try.prog 154 cs o=cs[o]?:=zcT Try.underlying154 rfl cs o
theorem Uj:zbU Try.prog 154=some [.nilS]:=ah
theorem Uk(xs:List (List AV)){n:Int}(U:0<=n)(k:IntKind):zb1 Try.prog 154 (.lst xs) (.int k n)=kg 1 (xs[n.toNat]?):=zdw Try.underlying154 (show zbh Try.prog 2=some 1 from by kernel_rfl) xs U k
theorem Ul(r o l z:Nat){n:Int}(U:0<=n)(k:IntKind):zb1 Try.prog 154 (.sl r o l z) (.int k n)=bif decide (n.toNat<l)then some (.ptr r (o+n.toNat*1))else none:=zdx Try.underlying154 (show zbh Try.prog 2=some 1 from by kernel_rfl) r o l z U k
theorem Um(H:Hp)(xs:List (List AV)):zbO Try.prog H 154 (.lst xs)=some (.int .i64 xs.length):=zdr Try.underlying154 xs
theorem Uo(H:Hp)(r o n z:Nat):zbO Try.prog H 154 (.sl r o n z)=some (.int .i64 n):=zdk Try.underlying154 r o n z
theorem Up(H:Hp):zbO Try.prog H 154 .nilS=some (.int .i64 0):=zdo Try.underlying154
def Uq:=ad @Ug (ad @Ui (ad @Uh (ad @Uj (ad @Uk (ad @Ul (ad @Um (ad @Uo (@Up))))))))
theorem Gb:zbh Try.prog 162=some 8:=ah
theorem Ur:zb3 Try.prog 162=some 8:=ah
theorem Us(cs:List AV)(o:Nat):zba Try.prog 162 cs o=zbJ 8 (cs.drop o):=zdp Try.underlying162 rfl Gb cs o
theorem Ut:zbU Try.prog 162=some [(.bool false),(.bool false),(.bool false),(.bool false),(.bool false),(.bool false),(.bool false),(.bool false)]:=ah
theorem Uu(r o:Nat):za6 Try.prog 162 (.ptr r o) 0=some (.ptr r (o+0)):=ah
theorem Uv(cs:List AV):za6 Try.prog 162 (.iptr cs) 0=some (.iptr (cs.drop 0)):=ah
theorem Uw(cs:List AV):zbG Try.prog 162 (.agg cs) 0=zba Try.prog 4 cs 0:=ah
theorem Ux(r o:Nat):za6 Try.prog 162 (.ptr r o) 1=some (.ptr r (o+1)):=ah
theorem Uy(cs:List AV):za6 Try.prog 162 (.iptr cs) 1=some (.iptr (cs.drop 1)):=ah
theorem Uz(cs:List AV):zbG Try.prog 162 (.agg cs) 1=zba Try.prog 4 cs 1:=ah
theorem UA(r o:Nat):za6 Try.prog 162 (.ptr r o) 2=some (.ptr r (o+2)):=ah
theorem UB(cs:List AV):za6 Try.prog 162 (.iptr cs) 2=some (.iptr (cs.drop 2)):=ah
theorem UC(cs:List AV):zbG Try.prog 162 (.agg cs) 2=zba Try.prog 4 cs 2:=ah
theorem UD(r o:Nat):za6 Try.prog 162 (.ptr r o) 3=some (.ptr r (o+3)):=ah
theorem UE(cs:List AV):za6 Try.prog 162 (.iptr cs) 3=some (.iptr (cs.drop 3)):=ah
theorem UF(cs:List AV):zbG Try.prog 162 (.agg cs) 3=zba Try.prog 4 cs 3:=ah
theorem UG(r o:Nat):za6 Try.prog 162 (.ptr r o) 4=some (.ptr r (o+4)):=ah
theorem UH(cs:List AV):za6 Try.prog 162 (.iptr cs) 4=some (.iptr (cs.drop 4)):=ah
theorem UI(cs:List AV):zbG Try.prog 162 (.agg cs) 4=zba Try.prog 4 cs 4:=ah
theorem UJ(r o:Nat):za6 Try.prog 162 (.ptr r o) 5=some (.ptr r (o+5)):=ah
theorem UK(cs:List AV):za6 Try.prog 162 (.iptr cs) 5=some (.iptr (cs.drop 5)):=ah
theorem UL(cs:List AV):zbG Try.prog 162 (.agg cs) 5=zba Try.prog 4 cs 5:=ah
theorem UM(r o:Nat):za6 Try.prog 162 (.ptr r o) 6=some (.ptr r (o+6)):=ah
theorem UN(cs:List AV):za6 Try.prog 162 (.iptr cs) 6=some (.iptr (cs.drop 6)):=ah
theorem UO(cs:List AV):zbG Try.prog 162 (.agg cs) 6=zba Try.prog 4 cs 6:=ah
theorem UP(r o:Nat):za6 Try.prog 162 (.ptr r o) 7=some (.ptr r (o+7)):=ah
theorem UQ(cs:List AV):za6 Try.prog 162 (.iptr cs) 7=some (.iptr (cs.drop 7)):=ah
theorem UR(cs:List AV):zbG Try.prog 162 (.agg cs) 7=zba Try.prog 4 cs 7:=ah
def Gc:=ad @Gb (ad @Us (ad @Ur (ad @Ut (ad @Uu (ad @Uv (ad @Uw (ad @Ux (ad @Uy (ad @Uz (ad @UA (ad @UB (ad @UC (ad @UD (ad @UE (ad @UF (ad @UG (ad @UH (ad @UI (ad @UJ (ad @UK (ad @UL (ad @UM (ad @UN (ad @UO (ad @UP (ad @UQ (@UR)))))))))))))))))))))))))))
theorem US:zbh Try.prog 167=some 1:=ah
theorem UT:zb3 Try.prog 167=some 24:=ah
theorem UU(cs:List AV)(o:Nat):zba Try.prog 167 cs o=cs[o]?:=zcT Try.underlying167 rfl cs o
theorem UV:zbU Try.prog 167=some [.nilS]:=ah
theorem UW(xs:List (List AV)){n:Int}(U:0<=n)(k:IntKind):zb1 Try.prog 167 (.lst xs) (.int k n)=kg 1 (xs[n.toNat]?):=zdw Try.underlying167 (show zbh Try.prog 47=some 1 from by kernel_rfl) xs U k
theorem UX(r o l z:Nat){n:Int}(U:0<=n)(k:IntKind):zb1 Try.prog 167 (.sl r o l z) (.int k n)=bif decide (n.toNat<l)then some (.ptr r (o+n.toNat*1))else none:=zdx Try.underlying167 (show zbh Try.prog 47=some 1 from by kernel_rfl) r o l z U k
theorem UY(H:Hp)(xs:List (List AV)):zbO Try.prog H 167 (.lst xs)=some (.int .i64 xs.length):=zdr Try.underlying167 xs
theorem UZ(H:Hp)(r o n z:Nat):zbO Try.prog H 167 (.sl r o n z)=some (.int .i64 n):=zdk Try.underlying167 r o n z
theorem U0(H:Hp):zbO Try.prog H 167 .nilS=some (.int .i64 0):=zdo Try.underlying167
def B7:=ad @US (ad @UU (ad @UT (ad @UV (ad @UW (ad @UX (ad @UY (ad @UZ (@U0))))))))
theorem Gd:zbh Try.prog 182=some 7:=ah
theorem U1:zb3 Try.prog 182=some 112:=ah
theorem U2(cs:List AV)(o:Nat):zba Try.prog 182 cs o=zbJ 7 (cs.drop o):=zdp Try.underlying182 rfl Gd cs o
theorem U3:zbU Try.prog 182=some [(.str []),(.str []),(.str []),(.str []),(.str []),(.str []),(.str [])]:=ah
def U4:=ad @Gd (ad @U2 (ad @U1 (@U3)))
theorem Ge(H:Hp)(k:IntKind)(n:Int):zdg Try.prog H 2 121 (.int k n)=some (.int .u64 (IntKind.wrap .u64 n)):=vt
theorem Gf(H:Hp)(k:IntKind)(n:Int):zdg Try.prog H 3 5 (.int k n)=some (.int .u8 (IntKind.wrap .u8 n)):=vt
theorem Gg(H:Hp)(k:IntKind)(n:Int):zdg Try.prog H 3 121 (.int k n)=some (.int .u64 (IntKind.wrap .u64 n)):=vt
theorem Gi(H:Hp)(k:IntKind)(n:Int):zdg Try.prog H 3 145 (.int k n)=some (.int .u64 (IntKind.wrap .u64 n)):=vt
theorem Gj(H:Hp)(k:IntKind)(n:Int):zdg Try.prog H 121 5 (.int k n)=some (.int .u8 (IntKind.wrap .u8 n)):=vt
end Go.Proofs.Ytpbcimfiofmoeaa
namespace Go.Ab
set_option maxRecDepth 20000
open Go
variable {P:Program} {cfg:Cfg} {f N:Nat}
theorem zcj{a:SC}{E:au}{H:Hp}{Q:AX->au->Hp->Prop}(cs rs:List Nat)(C n:Nat)(J:Nat->au->Hp->Prop)(Y:E.at C=.int .i64 0)(V:J 0 E H)
 (h:∀(i:Nat) (E':au) (H':Hp),i<=n->(∀k∈cs,E'.at k=E.at k)->(∀r∈rs,H'.get r=H.get r)->H.next<=H'.next->E'.at C=.int .i64 i->J i E' H' ->
   zbu P cfg f N a E' H' (kM Q fun Z m=>i<n/\(∀k∈cs,Z.at k=E.at k)/\(∀r∈rs,m.get r=H.get r)/\H.next<=m.next/\Z.at C=.int .i64 ((i+1:Nat):Int)/\J (i+1) Z m)):zbu P cfg f N (.loop a) E H Q:=
 nT (fun i E' H'=>(∀k∈cs,E'.at k=E.at k)/\(∀r∈rs,H'.get r=H.get r)/\H.next<=H'.next/\E'.at C=.int .i64 i/\J i E' H') n (fun i E' H' z ⟨U,g,O,L,o⟩=>h i E' H' z U g O L o) ⟨fun _ _=>rfl,fun _ _=>rfl,aA _,Y,V⟩
theorem U5{a:SC}{E:au}{H:Hp}{Q:AX->au->Hp->Prop}(cs rs:List Nat)(J:Nat->au->Hp->Prop)(n:Nat)(V:J n E H)
 (h:∀(i:Nat) (E':au) (H':Hp),(∀k∈cs,E'.at k=E.at k)->(∀r∈rs,H'.get r=H.get r)->H.next<=H'.next->J i E' H' ->
   zbu P cfg f N a E' H' (kM Q fun Y Z=>(∀k∈cs,Y.at k=E.at k)/\(∀r∈rs,Z.get r=H.get r)/\H.next<=Z.next/\∃m,m<i/\J m Y Z)):zbu P cfg f N (.loop a) E H Q:=
 vj (fun i E' H'=>(∀k∈cs,E'.at k=E.at k)/\(∀r∈rs,H'.get r=H.get r)/\H.next<=H'.next/\J i E' H') (fun i E' H' ⟨U,g,O,L⟩=>zbu.mono (fun x Y Z I=>by
  cases x with
  |normal=>obtain⟨M,j,K,m,C,z⟩:=I;exact⟨m,C,M,j,K,z⟩
  |exit id=>exact I
  |ret=>exact I) (h i E' H' U g O L)) (n:=n) ⟨fun _ _=>rfl,fun _ _=>rfl,aA _,V⟩
theorem zbR{p:Nat->Prop}{a:Nat}{l:List Nat}:(∀k∈a::l,p k)↔p a/\∀k∈l,p k:=List.forall_mem_cons
theorem zbq{p:Nat->Prop}:(∀k∈([]:List Nat),p k)↔True:=⟨fun _=>trivial,fun _ _ h=>j6⟩
theorem zbn{a b:Nat}(h:a≠b):(a == b)=false:=j5
theorem zc7{i n:Nat}(h:i<n)(U:n<2^62):AV.int .i64 (IntKind.wrap .i64 ((i:Int)+1))=.int .i64 ((i+1:Nat):Int):=by rw[zcL ac]
end Go.Ab
