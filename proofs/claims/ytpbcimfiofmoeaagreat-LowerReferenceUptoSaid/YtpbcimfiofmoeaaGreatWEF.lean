/- Lemmas for the last file. -/
import Derived.KernelRfl
import Derived.Test.YtpbcimfiofmoeaaGreatRows
import Derived.Test.YtpbcimfiofmoeaaGreatWEE
set_option linter.all false
set_option maxHeartbeats 32000000
namespace Go.Ab
set_option maxRecDepth 20000
open Go
abbrev qx:=List qA
variable{qe:Prop}
def tS(h:qe:=by rw[Ex.aH];rfl):=h
def jZ(h:qe:=by rw[St.aH];rfl):=h
def rL(h:qe:=by rw[Fu.aH];rfl):=h
def Du(h:qe:=by rw[Ar.aH];rfl):=h
def Dv(h:qe:=by rw[Pr.aH];rfl):=h
def Ay(h:qe:=by rw[Tk.aH];rfl):=h
def Az(h:qe:=by rw[Nd.aH];rfl):=h
def wM(h:qe:=by rw[Gr.aH];rfl):=h
def Dw(h:qe:=by rw[Un.aH];rfl):=h
def ax(h:qe:=by kernel_rfl):=h
def AA(h:qe:=by cases k<;>kernel_rfl):=h
def ad:=@And.intro
def ll:=@Bool.not_false
def dx:=@List.length_map
def ja:=@Bool.true_and
def aW:=@and_true
def tT:=@Int.toNat_natCast
def AB:=@List.forall_mem_cons
def wN:=@List.map_set
def HV:=@List.ext_getElem?
end Go.Ab
namespace Go.Ab
set_option maxRecDepth 20000
open Go
abbrev cH(l:qx):AV:=.az (l.map fun s=>[.aj s])
abbrev Dx(l:qy):AV:=.az (l.map fun n=>[.int .i64 n])
inductive Ex where
 |mk (kind:Int) (n:Int) (name:qA) (op:Int) (kids:List Ex)
abbrev qI:=List Ex
def Ex.am:Ex->Int|.mk x _ _ _ _=>x
def Ex.n:Ex->Int|.mk _ x _ _ _=>x
def Ex.name:Ex->qA|.mk _ _ x _ _=>x
def Ex.op:Ex->Int|.mk _ _ _ x _=>x
def Ex.ao:Ex->qI|.mk _ _ _ _ x=>x
mutual
def Ex.cells:Ex->qu
 | .mk kV O Y J m=>[.int .i64 kV,.int .i64 O,.aj Y,.int .i64 J,.az (Dy m)]
def Dy:qI->List qu
 |[]=>[]
 |x::xs=>Ex.cells x::Dy xs
end
theorem MI:∀l:qI,Dy l=l.map Ex.cells
 |[]=>rfl
 |x::xs=>by rw[Dy,MI xs];rfl
def Ex.aH(x:Ex):x.cells=[.int .i64 x.am,.int .i64 x.n,.aj x.name,.int .i64 x.op,.az (x.ao.map Ex.cells)]:=by
 cases x;simp only[Ex.cells,MI,Ex.am,Ex.n,Ex.name,Ex.op,Ex.ao]
def j0:=@Ex.aH
def Ex.a9(x:Ex):x.cells.length=5:=tS
def Ex.c0(x:Ex):x.cells[0]?=some (.int .i64 x.am):=tS
def Ex.c1(x:Ex):x.cells[1]?=some (.int .i64 x.n):=tS
def Ex.c2(x:Ex):x.cells[2]?=some (.aj x.name):=tS
def Ex.c3(x:Ex):x.cells[3]?=some (.int .i64 x.op):=tS
def Ex.c4(x:Ex):x.cells[4]?=some (.az (x.ao.map Ex.cells)):=tS
theorem Ex.bu(x:Ex):cq 5 x.cells=some (.agg x.cells):=by unfold cq;rw[j0];rfl
def Ex.one(x:Ex):x.cells.all AV.one=true:=tS
inductive St where
 |mk (kind:Int) (name:qA) (to:qA) (n:Int) (at_:Ex) (value:Ex) (args:qI) (thn:List St) (els:List St)
abbrev qD:=List St
def St.am:St->Int|.mk x _ _ _ _ _ _ _ _=>x
def St.name:St->qA|.mk _ x _ _ _ _ _ _ _=>x
def St.to:St->qA|.mk _ _ x _ _ _ _ _ _=>x
def St.n:St->Int|.mk _ _ _ x _ _ _ _ _=>x
def St.a8:St->Ex|.mk _ _ _ _ x _ _ _ _=>x
def St.value:St->Ex|.mk _ _ _ _ _ x _ _ _=>x
def St.args:St->qI|.mk _ _ _ _ _ _ x _ _=>x
def St.bl:St->qD|.mk _ _ _ _ _ _ _ x _=>x
def St.bA:St->qD|.mk _ _ _ _ _ _ _ _ x=>x
mutual
def St.cells:St->qu
 | .mk kV O Y Z m J V U j=>[.int .i64 kV,.aj O,.aj Y,.int .i64 Z,.int .i64 m.am,.int .i64 m.n,.aj m.name,.int .i64 m.op,.az (m.ao.map Ex.cells),.int .i64 J.am,.int .i64 J.n,.aj J.name,.int .i64 J.op,.az (J.ao.map Ex.cells),.az (V.map Ex.cells),.az (AC U),.az (AC j)]
def AC:qD->List qu
 |[]=>[]
 |x::xs=>St.cells x::AC xs
end
theorem MJ:∀l:qD,AC l=l.map St.cells
 |[]=>rfl
 |x::xs=>by rw[AC,MJ xs];rfl
def St.aH(x:St):x.cells=[.int .i64 x.am,.aj x.name,.aj x.to,.int .i64 x.n,.int .i64 x.a8.am,.int .i64 x.a8.n,.aj x.a8.name,.int .i64 x.a8.op,.az (x.a8.ao.map Ex.cells),.int .i64 x.value.am,.int .i64 x.value.n,.aj x.value.name,.int .i64 x.value.op,.az (x.value.ao.map Ex.cells),.az (x.args.map Ex.cells),.az (x.bl.map St.cells),.az (x.bA.map St.cells)]:=by
 cases x;simp only[St.cells,MJ,St.am,St.name,St.to,St.n,St.a8,St.value,St.args,St.bl,St.bA]
def nX:=@St.aH
def St.a9(x:St):x.cells.length=17:=jZ
def St.c0(x:St):x.cells[0]?=some (.int .i64 x.am):=jZ
def St.c1(x:St):x.cells[1]?=some (.aj x.name):=jZ
def St.c2(x:St):x.cells[2]?=some (.aj x.to):=jZ
def St.c3(x:St):x.cells[3]?=some (.int .i64 x.n):=jZ
def St.c4(x:St):x.cells[4]?=some (.int .i64 x.a8.am):=jZ
def St.c5(x:St):x.cells[5]?=some (.int .i64 x.a8.n):=jZ
def St.c6(x:St):x.cells[6]?=some (.aj x.a8.name):=jZ
def St.c7(x:St):x.cells[7]?=some (.int .i64 x.a8.op):=jZ
def St.c8(x:St):x.cells[8]?=some (.az (x.a8.ao.map Ex.cells)):=jZ
def St.c9(x:St):x.cells[9]?=some (.int .i64 x.value.am):=jZ
def St.c10(x:St):x.cells[10]?=some (.int .i64 x.value.n):=jZ
def St.c11(x:St):x.cells[11]?=some (.aj x.value.name):=jZ
def St.c12(x:St):x.cells[12]?=some (.int .i64 x.value.op):=jZ
def St.c13(x:St):x.cells[13]?=some (.az (x.value.ao.map Ex.cells)):=jZ
def St.c14(x:St):x.cells[14]?=some (.az (x.args.map Ex.cells)):=jZ
def St.c15(x:St):x.cells[15]?=some (.az (x.bl.map St.cells)):=jZ
def St.c16(x:St):x.cells[16]?=some (.az (x.bA.map St.cells)):=jZ
theorem St.bu(x:St):cq 17 x.cells=some (.agg x.cells):=by unfold cq;rw[nX];rfl
def St.one(x:St):x.cells.all AV.one=true:=jZ
theorem X8(x:St):cq 5 (x.cells.drop 4)=some (.agg x.a8.cells):=by unfold cq;rw[nX,j0];rfl
theorem St.ce(x:St):cq 5 (x.cells.drop 9)=some (.agg x.value.cells):=by unfold cq;rw[nX,j0];rfl
structure Fu where
 name:qA
 params:qx
 ak:qx
 body:qD
 value:Ex
abbrev qN:=List Fu
def Fu.cells(x:Fu):qu:=[.aj x.name,cH x.params,cH x.ak,.az (x.body.map St.cells),.int .i64 x.value.am,.int .i64 x.value.n,.aj x.value.name,.int .i64 x.value.op,.az (x.value.ao.map Ex.cells)]
theorem Fu.aH(x:Fu):x.cells=[.aj x.name,cH x.params,cH x.ak,.az (x.body.map St.cells),.int .i64 x.value.am,.int .i64 x.value.n,.aj x.value.name,.int .i64 x.value.op,.az (x.value.ao.map Ex.cells)]:=rfl
def wO:=@Fu.aH
def Fu.a9(x:Fu):x.cells.length=9:=rL
def Fu.c0(x:Fu):x.cells[0]?=some (.aj x.name):=rL
def Fu.c1(x:Fu):x.cells[1]?=some (cH x.params):=rL
def Fu.c2(x:Fu):x.cells[2]?=some (cH x.ak):=rL
def Fu.c3(x:Fu):x.cells[3]?=some (.az (x.body.map St.cells)):=rL
def Fu.c4(x:Fu):x.cells[4]?=some (.int .i64 x.value.am):=rL
def Fu.c5(x:Fu):x.cells[5]?=some (.int .i64 x.value.n):=rL
def Fu.c6(x:Fu):x.cells[6]?=some (.aj x.value.name):=rL
def Fu.c7(x:Fu):x.cells[7]?=some (.int .i64 x.value.op):=rL
def Fu.c8(x:Fu):x.cells[8]?=some (.az (x.value.ao.map Ex.cells)):=rL
theorem Fu.bu(x:Fu):cq 9 x.cells=some (.agg x.cells):=by unfold cq;rw[wO];rfl
def Fu.one(x:Fu):x.cells.all AV.one=true:=rL
theorem Fu.ce(x:Fu):cq 5 (x.cells.drop 4)=some (.agg x.value.cells):=by unfold cq;rw[wO,j0];rfl
structure Ar where
 name:qA
 len:Int
def Ar.cells(x:Ar):qu:=[.aj x.name,.int .i64 x.len]
theorem Ar.aH(x:Ar):x.cells=[.aj x.name,.int .i64 x.len]:=rfl
def HW:=@Ar.aH
def Ar.a9(x:Ar):x.cells.length=2:=Du
def Ar.c0(x:Ar):x.cells[0]?=some (.aj x.name):=Du
def Ar.c1(x:Ar):x.cells[1]?=some (.int .i64 x.len):=Du
theorem Ar.bu(x:Ar):cq 2 x.cells=some (.agg x.cells):=by unfold cq;rw[HW];rfl
def Ar.one(x:Ar):x.cells.all AV.one=true:=Du
structure Pr where
 aa:List Ar
 funcs:qN
def Pr.cells(x:Pr):qu:=[.az (x.aa.map Ar.cells),.az (x.funcs.map Fu.cells)]
theorem Pr.aH(x:Pr):x.cells=[.az (x.aa.map Ar.cells),.az (x.funcs.map Fu.cells)]:=rfl
def Dz:=@Pr.aH
def Pr.a9(x:Pr):x.cells.length=2:=Dv
def Pr.c0(x:Pr):x.cells[0]?=some (.az (x.aa.map Ar.cells)):=Dv
def Pr.c1(x:Pr):x.cells[1]?=some (.az (x.funcs.map Fu.cells)):=Dv
theorem Pr.bu(x:Pr):cq 2 x.cells=some (.agg x.cells):=by unfold cq;rw[Dz];rfl
def Pr.one(x:Pr):x.cells.all AV.one=true:=Dv
structure Tk where
 am:Int
 text:qA
 a8:Int
def Tk.cells(x:Tk):qu:=[.int .i64 x.am,.aj x.text,.int .i64 x.a8]
theorem Tk.aH(x:Tk):x.cells=[.int .i64 x.am,.aj x.text,.int .i64 x.a8]:=rfl
def Tk.a9(x:Tk):x.cells.length=3:=Ay
def Tk.c0(x:Tk):x.cells[0]?=some (.int .i64 x.am):=Ay
def Tk.c1(x:Tk):x.cells[1]?=some (.aj x.text):=Ay
def Tk.c2(x:Tk):x.cells[2]?=some (.int .i64 x.a8):=Ay
theorem Tk.bu(x:Tk):cq 3 x.cells=some (.agg x.cells):=by unfold cq;rw[Tk.aH];rfl
def Tk.one(x:Tk):x.cells.all AV.one=true:=Ay
structure Nd where
 op:Int
 aP:Int
 ao:qy
abbrev qF:=List Nd
def Nd.cells(x:Nd):qu:=[.int .i64 x.op,.int .i64 x.aP,Dx x.ao]
theorem Nd.aH(x:Nd):x.cells=[.int .i64 x.op,.int .i64 x.aP,Dx x.ao]:=rfl
def Nd.a9(x:Nd):x.cells.length=3:=Az
def Nd.c0(x:Nd):x.cells[0]?=some (.int .i64 x.op):=Az
def Nd.c1(x:Nd):x.cells[1]?=some (.int .i64 x.aP):=Az
def Nd.c2(x:Nd):x.cells[2]?=some (Dx x.ao):=Az
theorem Nd.bu(x:Nd):cq 3 x.cells=some (.agg x.cells):=by unfold cq;rw[Nd.aH];rfl
def Nd.one(x:Nd):x.cells.all AV.one=true:=Az
structure Gr where
 name:qA
 params:Int
 aL:qF
 value:Int
 ab:Int
def Gr.cells(x:Gr):qu:=[.aj x.name,.int .i64 x.params,.az (x.aL.map Nd.cells),.int .i64 x.value,.int .i64 x.ab]
theorem Gr.aH(x:Gr):x.cells=[.aj x.name,.int .i64 x.params,.az (x.aL.map Nd.cells),.int .i64 x.value,.int .i64 x.ab]:=rfl
def Gr.a9(x:Gr):x.cells.length=5:=wM
def Gr.c0(x:Gr):x.cells[0]?=some (.aj x.name):=wM
def Gr.c1(x:Gr):x.cells[1]?=some (.int .i64 x.params):=wM
def Gr.c2(x:Gr):x.cells[2]?=some (.az (x.aL.map Nd.cells)):=wM
def Gr.c3(x:Gr):x.cells[3]?=some (.int .i64 x.value):=wM
def Gr.c4(x:Gr):x.cells[4]?=some (.int .i64 x.ab):=wM
theorem Gr.bu(x:Gr):cq 5 x.cells=some (.agg x.cells):=by unfold cq;rw[Gr.aH];rfl
def Gr.one(x:Gr):x.cells.all AV.one=true:=wM
structure Un where
 aa:List Ar
 funcs:List Gr
def Un.cells(x:Un):qu:=[.az (x.aa.map Ar.cells),.az (x.funcs.map Gr.cells)]
theorem Un.aH(x:Un):x.cells=[.az (x.aa.map Ar.cells),.az (x.funcs.map Gr.cells)]:=rfl
def Un.a9(x:Un):x.cells.length=2:=Dw
def Un.c0(x:Un):x.cells[0]?=some (.az (x.aa.map Ar.cells)):=Dw
def Un.c1(x:Un):x.cells[1]?=some (.az (x.funcs.map Gr.cells)):=Dw
theorem Un.bu(x:Un):cq 2 x.cells=some (.agg x.cells):=by unfold cq;rw[Un.aH];rfl
def Un.one(x:Un):x.cells.all AV.one=true:=Dw
end Go.Ab
namespace Go.Proofs.YtpbcimfiofmoeaaGreat
set_option maxRecDepth 20000
open Go Go.Ab Proofs.Tryz
variable{t:Nat}
def fit:Fit prog:=Fit.of ax
def pls:List (Nat×Nat×zf4):=[(26,36,(.split 10 13 .text (.cn [0,1,2,3,4,5,6,7,8,9,11,12,13,10]))),
 (26,41,(.split 11 14 .text (.cn [0,1,2,3,4,5,6,7,8,9,10,12,13,14,11]))),
 (32,14,(.cn [0,1,2,4,5,7,9,3,6,8,10])),
 (90,23,(.cn [0,1,2,3,4,5,6,7,9,10,11,12,13,14,8,15,16,17,18,19])),
 (90,24,(.cn [0,1,2,3,4,5,6,8,9,10,11,12,13,7,14,15,16])),
 (111,4,(.cn [0,1,2,4,5,7,8,10,11,12,3,6,9,13,14,15,16])),
 (163,23,(.cn [0,2,3,4,5,6,7,1,8,9]))]
def aG:=ad @XW (ad @List.toList_toArray.{0} (ad @ce (ad @tH (ad @nR (ad @wH (ad @ll (ad @List.length_map.{0,0} (ad @Int.natCast_zero (ad @WX (ad @WY (ad @WZ (ad @W0 (ad @W1 (ad @jY (ad @cond_true.{1} (ad @cond_false.{1} (@bR)))))))))))))))))
def aY:=ad @Ex.a9 (ad @Ex.c0 (ad @Ex.c1 (ad @Ex.c2 (ad @Ex.c3 (ad @Ex.c4 (ad @Ex.bu (ad @Ex.one (ad @St.a9 (ad @St.c0 (ad @St.c1 (ad @St.c2 (ad @St.c3 (ad @St.c4 (ad @St.c5 (ad @St.c6 (ad @St.c7 (ad @St.c8 (ad @St.c9 (ad @St.c10 (ad @St.c11 (ad @St.c12 (ad @St.c13 (ad @St.c14 (ad @St.c15 (ad @St.c16 (ad @St.bu (ad @St.one (ad @X8 (ad @St.ce (ad @Fu.a9 (ad @Fu.c0 (ad @Fu.c1 (ad @Fu.c2 (ad @Fu.c3 (ad @Fu.c4 (ad @Fu.c5 (ad @Fu.c6 (ad @Fu.c7 (ad @Fu.c8 (ad @Fu.bu (ad @Fu.one (ad @Fu.ce (ad @Ar.a9 (ad @Ar.c0 (ad @Ar.c1 (ad @Ar.bu (ad @Ar.one (ad @Pr.a9 (ad @Pr.c0 (ad @Pr.c1 (ad @Pr.bu (ad @Pr.one (ad @Tk.a9 (ad @Tk.c0 (ad @Tk.c1 (ad @Tk.c2 (ad @Tk.bu (ad @Tk.one (ad @Nd.a9 (ad @Nd.c0 (ad @Nd.c1 (ad @Nd.c2 (ad @Nd.bu (ad @Nd.one (ad @Gr.a9 (ad @Gr.c0 (ad @Gr.c1 (ad @Gr.c2 (ad @Gr.c3 (ad @Gr.c4 (ad @Gr.bu (ad @Gr.one (ad @Un.a9 (ad @Un.c0 (ad @Un.c1 (ad @Un.bu (ad @Un.one (ad @XN (ad @XO (ad @XP (ad @XQ (ad @List.getElem?_drop.{0} (ad @tL (ad @if_true.{1} (ad @HO (ad @HN (ad @HP (ad @Xx (ad @cells_int (ad @Mz (ad @Xy (ad @Xz (ad @XA (ad @XB (ad @XC (ad @XD (ad @XE (ad @XF (ad @XG (ad @XH (ad @XI (ad @MA (ad @XJ (ad @XK (ad @XL (ad @XM (ad @List.all_cons.{0} (ad @List.all_nil.{0} (ad @hT (ad @ja (ad @aW (ad @kN (ad @cZ (ad @ay (ad @List.nil_append.{0} (ad @List.append_nil.{0} (ad @List.cons_append.{0} (ad @aU (ad @bq (ad @ce (ad @beq_self_eq_true.{0} (ad @HQ (ad @HR (ad @MB (ad @iH (ad @List.getElem?_map.{0,0} (ad @Option.map_some.{0,0} (ad @Av (ad @Xw (ad @Xv (ad @Xr (ad @Xs (ad @get_set (ad @wJ (ad @List.getElem?_cons_succ.{0} (ad @List.getElem?_cons_zero.{0} (ad @List.drop_succ_cons.{0} (ad @List.drop_zero.{0} (ad @List.take_succ_cons.{0} (ad @List.take_zero.{0} (ad @List.length_cons.{0} (ad @List.length_nil.{0} (ad @Int.natCast_nonneg (ad @tT (ad @Xa (ad @Xb (ad @Xc (ad @Xd (ad @Xe (ad @Xf (ad @Xg (ad @Xh (ad @Xi (ad @Xj (ad @Xk (ad @Xl (ad @Xm (ad @Xn (ad @Xo (@Xp))))))))))))))))))))))))))))))))))))))))))))))))))))))))))))))))))))))))))))))))))))))))))))))))))))))))))))))))))))))))))))))))))))))))))))))))))))))))))))))))
structure zd0 (cfg:Cfg) (f:FuncId):Prop where
 call:∀args,cfg.call f args=none
 aG:cfg.aG f=false
 aB:cfg.aB f=false
abbrev cI(t i k u:Nat):Prop:=(∀r o:Nat,uK prog t (.ptr r o) i=some (.ptr r (o+k)))/\(∀I:qu,uK prog t (.bI I) i=some (.bI (I.drop k)))/\∀I:qu,wi prog t (.agg I) i=dc prog u I k
def cO{i k u:Nat}(h:cI t i k u:=by exact⟨fun _ _=>ax,fun _=>ax,fun _=>ax⟩):cI t i k u:=h
abbrev nY(t s:Nat):Prop:=∀(r o l z:Nat) {n:Int} (_:0<=n) (k:IntKind),el prog t (.sl r o l z) (.int k n)=bif decide (n.toNat<l)then some (.ptr r (o+n.toNat*s))else none
abbrev mT(t s:Nat):Prop:=(∀(Z:List qu) {n:Int} (_:0<=n) (k:IntKind),el prog t (.az Z) (.int k n)=Dp s (Z[n.toNat]?))/\(∀(H:Hp) (Z:List qu),gO prog H t (.az Z)=some (.int .i64 Z.length))/\(∀(H:Hp) (r o n z:Nat),gO prog H t (.sl r o n z)=some (.int .i64 n))/\∀H:Hp,gO prog H t .ag=some (.int .i64 0)
def nZ{e s:Nat}(h:prog.underlying t=some (.slice e))(U:bL prog e=some s):mT t s:=⟨fun Z _ J k=>Xt h U Z J k,fun _ Z=>Mw h Z,fun _ r o n z=>As h r o n z,fun _=>Do h⟩
def MK:bL prog 2=some 1:=ax
def X9:dF prog 2=some 8:=ax
def Ya(cs:qu)(o:Nat):dc prog 2 cs o=cs[o]?:=iI underlying2 rfl cs o
def Yb:cQ prog 2=some [(.int .i64 0)]:=ax
def dQ:=ad @MK (ad @Ya (ad @X9 (@Yb)))
def j5:bL prog 3=some 1:=ax
def oT:dF prog 3=some 8:=ax
def Yc(cs:qu)(o:Nat):dc prog 3 cs o=cs[o]?:=iI underlying3 rfl cs o
def oU:cQ prog 3=some [(.int .i64 0)]:=ax
def cr:=ad @j5 (ad @Yc (ad @oT (@oU)))
def DA:bL prog 4=some 1:=ax
def ML:dF prog 4=some 1:=ax
def Yd(cs:qu)(o:Nat):dc prog 4 cs o=cs[o]?:=iI underlying4 rfl cs o
def MM:cQ prog 4=some [(.bool false)]:=ax
def yb:=ad @DA (ad @Yd (ad @ML (@MM)))
def HX:bL prog 5=some 1:=ax
def HY:dF prog 5=some 1:=ax
def Ye(cs:qu)(o:Nat):dc prog 5 cs o=cs[o]?:=iI underlying5 rfl cs o
def HZ:cQ prog 5=some [(.int .u8 0)]:=ax
def oV:=ad @HX (ad @Ye (ad @HY (@HZ)))
def tU:bL prog 9=some 1:=ax
def u9:dF prog 9=some 16:=ax
def Yf(cs:qu)(o:Nat):dc prog 9 cs o=cs[o]?:=iI underlying9 rfl cs o
def vc:cQ prog 9=some [(.aj [])]:=ax
def Yg(H:Hp)(s:qA):gO prog H 9 (.aj s)=some (.int .i64 s.length):=Xq underlying9 s
def Yh(s:qA){n:Int}(J:0<=n)(k:IntKind):rC prog 9 (.aj s) (.int k n)=Dq (s[n.toNat]?):=Xu underlying9 s J k
def cK:=ad @tU (ad @Yf (ad @u9 (ad @vc (ad @Yg (@Yh)))))
def Yi:bL prog 22=some 1:=ax
def Yj:dF prog 22=some 24:=ax
def Yk(cs:qu)(o:Nat):dc prog 22 cs o=cs[o]?:=iI underlying22 rfl cs o
def Yl:cQ prog 22=some [.ag]:=ax
def Ym:nY 22 3:=fun r o l z _ J k=>nW underlying22 (show bL prog 67=some 3 from by kernel_rfl) r o l z J k
def Yn:mT 22 3:=nZ underlying22 (show bL prog 67=some 3 from by kernel_rfl)
def jn:=ad @Yi (ad @Yk (ad @Yj (ad @Yl (ad @Ym (@Yn)))))
def Yo:bL prog 23=some 1:=ax
def Yp:dF prog 23=some 24:=ax
def Yq(cs:qu)(o:Nat):dc prog 23 cs o=cs[o]?:=iI underlying23 rfl cs o
def Yr:cQ prog 23=some [.ag]:=ax
def H0:nY 23 1:=fun r o l z _ J k=>nW underlying23 (show bL prog 3=some 1 from by kernel_rfl) r o l z J k
def Ys:mT 23 1:=nZ underlying23 (show bL prog 3=some 1 from by kernel_rfl)
def fP:=ad @Yo (ad @Yq (ad @Yp (ad @Yr (ad @H0 (@Ys)))))
def Yt:bL prog 24=some 1:=ax
def Yu:dF prog 24=some 24:=ax
def Yv(cs:qu)(o:Nat):dc prog 24 cs o=cs[o]?:=iI underlying24 rfl cs o
def Yw:cQ prog 24=some [.ag]:=ax
def Yx:nY 24 2:=fun r o l z _ J k=>nW underlying24 (show bL prog 86=some 2 from by kernel_rfl) r o l z J k
def Yy:mT 24 2:=nZ underlying24 (show bL prog 86=some 2 from by kernel_rfl)
def fW:=ad @Yt (ad @Yv (ad @Yu (ad @Yw (ad @Yx (@Yy)))))
def Yz:bL prog 25=some 1:=ax
def YA:dF prog 25=some 24:=ax
def YB(cs:qu)(o:Nat):dc prog 25 cs o=cs[o]?:=iI underlying25 rfl cs o
def YC:cQ prog 25=some [.ag]:=ax
def YD:nY 25 5:=fun r o l z _ J k=>nW underlying25 (show bL prog 32=some 5 from by kernel_rfl) r o l z J k
def YE:mT 25 5:=nZ underlying25 (show bL prog 32=some 5 from by kernel_rfl)
def DB:=ad @Yz (ad @YB (ad @YA (ad @YC (ad @YD (@YE)))))
def MN:bL prog 27=some 2:=ax
def YF:dF prog 27=some 48:=ax
def YG(cs:qu)(o:Nat):dc prog 27 cs o=cq 2 (cs.drop o):=mr underlying27 rfl MN cs o
def YH:cQ prog 27=some [.ag,.ag]:=ax
def YI:cI 27 0 0 24/\cI 27 1 1 25:=⟨cO,cO⟩
def DC:=ad @MN (ad @YG (ad @YF (ad @YH (@YI))))
def DD:bL prog 32=some 5:=ax
def Ia:dF prog 32=some 64:=ax
def YJ(cs:qu)(o:Nat):dc prog 32 cs o=cq 5 (cs.drop o):=mr underlying32 rfl DD cs o
def Ib:cQ prog 32=some [(.aj []),(.int .i64 0),.ag,(.int .i64 0),(.int .i64 0)]:=ax
def YK:cI 32 0 0 9/\cI 32 1 1 3/\cI 32 2 2 22/\cI 32 3 3 3/\cI 32 4 4 3:=⟨cO,cO,cO,cO,cO⟩
def DE:=ad @DD (ad @YJ (ad @Ia (ad @Ib (@YK))))
def YL:bL prog 47=some 1:=ax
def YM:dF prog 47=some 24:=ax
def YN(cs:qu)(o:Nat):dc prog 47 cs o=cs[o]?:=iI underlying47 rfl cs o
def YO:cQ prog 47=some [.ag]:=ax
def YP:nY 47 9:=fun r o l z _ J k=>nW underlying47 (show bL prog 65=some 9 from by kernel_rfl) r o l z J k
def YQ:mT 47 9:=nZ underlying47 (show bL prog 65=some 9 from by kernel_rfl)
def gh:=ad @YL (ad @YN (ad @YM (ad @YO (ad @YP (@YQ)))))
def MO:bL prog 49=some 2:=ax
def YR:dF prog 49=some 48:=ax
def YS(cs:qu)(o:Nat):dc prog 49 cs o=cq 2 (cs.drop o):=mr underlying49 rfl MO cs o
def YT:cQ prog 49=some [.ag,.ag]:=ax
def YU:cI 49 0 0 24/\cI 49 1 1 47:=⟨cO,cO⟩
def eL:=ad @MO (ad @YS (ad @YR (ad @YT (@YU))))
def YV:bL prog 52=some 1:=ax
def YW:dF prog 52=some 24:=ax
def YX(cs:qu)(o:Nat):dc prog 52 cs o=cs[o]?:=iI underlying52 rfl cs o
def YY:cQ prog 52=some [.ag]:=ax
def MP:nY 52 2:=fun r o l z _ J k=>nW underlying52 (show bL prog 49=some 2 from by kernel_rfl) r o l z J k
def YZ:mT 52 2:=nZ underlying52 (show bL prog 49=some 2 from by kernel_rfl)
def Y0:=ad @YV (ad @YX (ad @YW (ad @YY (ad @MP (@YZ)))))
def Y1:bL prog 53=some 1:=ax
def Y2:dF prog 53=some 8:=ax
def Y3(cs:qu)(o:Nat):dc prog 53 cs o=cs[o]?:=iI underlying53 rfl cs o
def Y4:cQ prog 53=some [(.int .i64 0)]:=ax
def vd:=ad @Y1 (ad @Y3 (ad @Y2 (@Y4)))
def Y5:bL prog 59=some 1:=ax
def Y6:dF prog 59=some 24:=ax
def Y7(cs:qu)(o:Nat):dc prog 59 cs o=cs[o]?:=iI underlying59 rfl cs o
def Y8:cQ prog 59=some [.ag]:=ax
def Ic:nY 59 1:=fun r o l z _ J k=>nW underlying59 (show bL prog 9=some 1 from by kernel_rfl) r o l z J k
def Y9:mT 59 1:=nZ underlying59 (show bL prog 9=some 1 from by kernel_rfl)
def et:=ad @Y5 (ad @Y7 (ad @Y6 (ad @Y8 (ad @Ic (@Y9)))))
def Za:bL prog 60=some 1:=ax
def Zb:dF prog 60=some 24:=ax
def Zc(cs:qu)(o:Nat):dc prog 60 cs o=cs[o]?:=iI underlying60 rfl cs o
def Zd:cQ prog 60=some [.ag]:=ax
def MQ:nY 60 17:=fun r o l z _ J k=>nW underlying60 (show bL prog 96=some 17 from by kernel_rfl) r o l z J k
def Ze:mT 60 17:=nZ underlying60 (show bL prog 96=some 17 from by kernel_rfl)
def dV:=ad @Za (ad @Zc (ad @Zb (ad @Zd (ad @MQ (@Ze)))))
def Zf:bL prog 61=some 1:=ax
def Zg:dF prog 61=some 24:=ax
def Zh(cs:qu)(o:Nat):dc prog 61 cs o=cs[o]?:=iI underlying61 rfl cs o
def Zi:cQ prog 61=some [.ag]:=ax
def MR:nY 61 5:=fun r o l z _ J k=>nW underlying61 (show bL prog 63=some 5 from by kernel_rfl) r o l z J k
def Zj:mT 61 5:=nZ underlying61 (show bL prog 63=some 5 from by kernel_rfl)
def dR:=ad @Zf (ad @Zh (ad @Zg (ad @Zi (ad @MR (@Zj)))))
def tV:bL prog 63=some 5:=ax
def wP:dF prog 63=some 64:=ax
def Zk(cs:qu)(o:Nat):dc prog 63 cs o=cq 5 (cs.drop o):=mr underlying63 rfl tV cs o
def wQ:cQ prog 63=some [(.int .i64 0),(.int .i64 0),(.aj []),(.int .i64 0),.ag]:=ax
def Zl:cI 63 0 0 3/\cI 63 1 1 2/\cI 63 2 2 9/\cI 63 3 3 3/\cI 63 4 4 61:=⟨cO,cO,cO,cO,cO⟩
def dD:=ad @tV (ad @Zk (ad @wP (ad @wQ (@Zl))))
def Ie:bL prog 65=some 9:=ax
def MS:dF prog 65=some 152:=ax
def Zm(cs:qu)(o:Nat):dc prog 65 cs o=cq 9 (cs.drop o):=mr underlying65 rfl Ie cs o
def MT:cQ prog 65=some [(.aj []),.ag,.ag,.ag,(.int .i64 0),(.int .i64 0),(.aj []),(.int .i64 0),.ag]:=ax
def Zn:cI 65 0 0 9/\cI 65 1 1 59/\cI 65 2 2 59/\cI 65 3 3 60/\cI 65 4 4 63:=⟨cO,cO,cO,cO,cO⟩
def jb:=ad @Ie (ad @Zm (ad @MS (ad @MT (@Zn))))
def AD:bL prog 67=some 3:=ax
def If:dF prog 67=some 40:=ax
def Zo(cs:qu)(o:Nat):dc prog 67 cs o=cq 3 (cs.drop o):=mr underlying67 rfl AD cs o
def Ig:cQ prog 67=some [(.int .i64 0),(.int .i64 0),.ag]:=ax
def Zp:cI 67 0 0 3/\cI 67 1 1 2/\cI 67 2 2 23:=⟨cO,cO,cO⟩
def sN:=ad @AD (ad @Zo (ad @If (ad @Ig (@Zp))))
def Zq:bL prog 71=some 1:=ax
def Zr:dF prog 71=some 24:=ax
def Zs(cs:qu)(o:Nat):dc prog 71 cs o=cs[o]?:=iI underlying71 rfl cs o
def Zt:cQ prog 71=some [.ag]:=ax
def Zu:nY 71 1:=fun r o l z _ J k=>nW underlying71 (show bL prog 2=some 1 from by kernel_rfl) r o l z J k
def Zv:mT 71 1:=nZ underlying71 (show bL prog 2=some 1 from by kernel_rfl)
def Zw:=ad @Zq (ad @Zs (ad @Zr (ad @Zt (ad @Zu (@Zv)))))
def MU:bL prog 78=some 2:=ax
def Zx:dF prog 78=some 32:=ax
def Zy(cs:qu)(o:Nat):dc prog 78 cs o=cq 2 (cs.drop o):=mr underlying78 rfl MU cs o
def Zz:cQ prog 78=some [.ag,(.int .i64 0)]:=ax
def ZA:cI 78 0 0 23/\cI 78 1 1 3:=⟨cO,cO⟩
def yc:=ad @MU (ad @Zy (ad @Zx (ad @Zz (@ZA))))
def ZB:bL prog 84=some 1:=ax
def ZC:dF prog 84=some 24:=ax
def ZD(cs:qu)(o:Nat):dc prog 84 cs o=cs[o]?:=iI underlying84 rfl cs o
def ZE:cQ prog 84=some [.ag]:=ax
def ZF:nY 84 1:=fun r o l z _ J k=>nW underlying84 (show bL prog 4=some 1 from by kernel_rfl) r o l z J k
def ZG:mT 84 1:=nZ underlying84 (show bL prog 4=some 1 from by kernel_rfl)
def DF:=ad @ZB (ad @ZD (ad @ZC (ad @ZE (ad @ZF (@ZG)))))
def wR:bL prog 86=some 2:=ax
def yd:dF prog 86=some 24:=ax
def ZH(cs:qu)(o:Nat):dc prog 86 cs o=cq 2 (cs.drop o):=mr underlying86 rfl wR cs o
def ye:cQ prog 86=some [(.aj []),(.int .i64 0)]:=ax
def ZI:cI 86 0 0 9/\cI 86 1 1 3:=⟨cO,cO⟩
def jx:=ad @wR (ad @ZH (ad @yd (ad @ye (@ZI))))
def ZJ:bL prog 93=some 1:=ax
def ZK:dF prog 93=some 24:=ax
def ZL(cs:qu)(o:Nat):dc prog 93 cs o=cs[o]?:=iI underlying93 rfl cs o
def ZM:cQ prog 93=some [.ag]:=ax
def ZN:nY 93 1:=fun r o l z _ J k=>nW underlying93 (show bL prog 5=some 1 from by kernel_rfl) r o l z J k
def ZO:mT 93 1:=nZ underlying93 (show bL prog 5=some 1 from by kernel_rfl)
def sO:=ad @ZJ (ad @ZL (ad @ZK (ad @ZM (ad @ZN (@ZO)))))
def rM:bL prog 96=some 17:=ax
def tW:dF prog 96=some 248:=ax
def ZP(cs:qu)(o:Nat):dc prog 96 cs o=cq 17 (cs.drop o):=mr underlying96 rfl rM cs o
def wS:cQ prog 96=some [(.int .i64 0),(.aj []),(.aj []),(.int .i64 0),(.int .i64 0),(.int .i64 0),(.aj []),(.int .i64 0),.ag,(.int .i64 0),(.int .i64 0),(.aj []),(.int .i64 0),.ag,.ag,.ag,.ag]:=ax
def ZQ:cI 96 0 0 3/\cI 96 1 1 9/\cI 96 2 2 9/\cI 96 3 3 3/\cI 96 4 4 63/\cI 96 5 9 63/\cI 96 6 14 61/\cI 96 7 15 60/\cI 96 8 16 60:=⟨cO,cO,cO,cO,cO,cO,cO,cO,cO⟩
def eh:=ad @rM (ad @ZP (ad @tW (ad @wS (@ZQ))))
def ZR:bL prog 98=some 1:=ax
def ZS:dF prog 98=some 8:=ax
def ZT(cs:qu)(o:Nat):dc prog 98 cs o=cs[o]?:=iI underlying98 rfl cs o
def ZU:cQ prog 98=some [.bD]:=ax
def oW:=ad @ZR (ad @ZT (ad @ZS (@ZU)))
def MV:bL prog 101=some 10:=ax
def ZV:dF prog 101=some 144:=ax
def ZW(cs:qu)(o:Nat):dc prog 101 cs o=cq 10 (cs.drop o):=mr underlying101 rfl MV cs o
def ZX:cQ prog 101=some [.ag,.ag,.bD,.bD,.ag,.bD,.bD,.ag,(.int .i64 0),(.int .i64 0)]:=ax
def ZY:cI 101 0 0 49/\cI 101 1 2 98/\cI 101 2 3 98/\cI 101 3 4 22/\cI 101 4 5 98/\cI 101 5 6 98/\cI 101 6 7 23/\cI 101 7 8 3/\cI 101 8 9 3:=⟨cO,cO,cO,cO,cO,cO,cO,cO,cO⟩
def rN:=ad @MV (ad @ZW (ad @ZV (ad @ZX (@ZY))))
def MW:bL prog 105=some 7:=ax
def ZZ:dF prog 105=some 136:=ax
def Z0(cs:qu)(o:Nat):dc prog 105 cs o=cq 7 (cs.drop o):=mr underlying105 rfl MW cs o
def Z1:cQ prog 105=some [.ag,.ag,.ag,.ag,.ag,(.int .i64 0),(.int .i64 0)]:=ax
def Z2:cI 105 0 0 49/\cI 105 1 2 22/\cI 105 2 3 59/\cI 105 3 4 23/\cI 105 4 5 3/\cI 105 5 6 3:=⟨cO,cO,cO,cO,cO,cO⟩
def tX:=ad @MW (ad @Z0 (ad @ZZ (ad @Z1 (@Z2))))
def MX:bL prog 111=some 2:=ax
def Z3:dF prog 111=some 16:=ax
def Z4(cs:qu)(o:Nat):dc prog 111 cs o=cq 2 (cs.drop o):=mr underlying111 rfl MX cs o
def Z5:cQ prog 111=some [(.int .i64 0),(.int .i64 0)]:=ax
def Z6:cI 111 0 0 53/\cI 111 1 1 3:=⟨cO,cO⟩
def Ih:=ad @MX (ad @Z4 (ad @Z3 (ad @Z5 (@Z6))))
def MY:bL prog 116=some 4:=ax
def Z7:dF prog 116=some 96:=ax
def Z8(cs:qu)(o:Nat):dc prog 116 cs o=cq 4 (cs.drop o):=mr underlying116 rfl MY cs o
def Z9:cQ prog 116=some [.ag,.ag,.ag,.ag]:=ax
def zaa:cI 116 0 0 59/\cI 116 1 1 59/\cI 116 2 2 49:=⟨cO,cO,cO⟩
def Ii:=ad @MY (ad @Z8 (ad @Z7 (ad @Z9 (@zaa))))
def zab:bL prog 142=some 1:=ax
def zac:dF prog 142=some 24:=ax
def zad(cs:qu)(o:Nat):dc prog 142 cs o=cs[o]?:=iI underlying142 rfl cs o
def zae:cQ prog 142=some [.ag]:=ax
def zaf:nY 142 3:=fun r o l z _ J k=>nW underlying142 (show bL prog 188=some 3 from by kernel_rfl) r o l z J k
def zag:mT 142 3:=nZ underlying142 (show bL prog 188=some 3 from by kernel_rfl)
def Ij:=ad @zab (ad @zad (ad @zac (ad @zae (ad @zaf (@zag)))))
def zah:bL prog 172=some 1:=ax
def zai:dF prog 172=some 8:=ax
def zaj(cs:qu)(o:Nat):dc prog 172 cs o=cs[o]?:=iI underlying172 rfl cs o
def zak:cQ prog 172=some [.ch]:=ax
def MZ:=ad @zah (ad @zaj (ad @zai (@zak)))
def zal:bL prog 178=some 1:=ax
def zam:dF prog 178=some 8:=ax
def zan(cs:qu)(o:Nat):dc prog 178 cs o=cs[o]?:=iI underlying178 rfl cs o
def zao:cQ prog 178=some [.bD]:=ax
def Ik:=ad @zal (ad @zan (ad @zam (@zao)))
def zap:bL prog 182=some 1:=ax
def zaq:dF prog 182=some 8:=ax
def zar(cs:qu)(o:Nat):dc prog 182 cs o=cs[o]?:=iI underlying182 rfl cs o
def zas:cQ prog 182=some [(.int .u64 0)]:=ax
def M0:=ad @zap (ad @zar (ad @zaq (@zas)))
def zat:bL prog 185=some 1:=ax
def zau:dF prog 185=some 8:=ax
def zav(cs:qu)(o:Nat):dc prog 185 cs o=cs[o]?:=iI underlying185 rfl cs o
def zaw:cQ prog 185=some [(.int .u64 0)]:=ax
def M1:=ad @zat (ad @zav (ad @zau (@zaw)))
def DG:bL prog 188=some 3:=ax
def Il:dF prog 188=some 32:=ax
def zax(cs:qu)(o:Nat):dc prog 188 cs o=cq 3 (cs.drop o):=mr underlying188 rfl DG cs o
def Im:cQ prog 188=some [(.int .i64 0),(.aj []),(.int .i64 0)]:=ax
def zay:cI 188 0 0 3/\cI 188 1 1 9/\cI 188 2 2 3:=⟨cO,cO,cO⟩
def DH:=ad @DG (ad @zax (ad @Il (ad @Im (@zay))))
def M2:bL prog 206=some 8:=ax
def zaz:dF prog 206=some 8:=ax
def zaA(cs:qu)(o:Nat):dc prog 206 cs o=cq 8 (cs.drop o):=mr underlying206 rfl M2 cs o
def zaB:cQ prog 206=some [(.bool false),(.bool false),(.bool false),(.bool false),(.bool false),(.bool false),(.bool false),(.bool false)]:=ax
def zaC:cI 206 0 0 4/\cI 206 1 1 4/\cI 206 2 2 4/\cI 206 3 3 4/\cI 206 4 4 4/\cI 206 5 5 4/\cI 206 6 6 4/\cI 206 7 7 4:=⟨cO,cO,cO,cO,cO,cO,cO,cO⟩
def M3:=ad @M2 (ad @zaA (ad @zaz (ad @zaB (@zaC))))
def zaD:bL prog 211=some 1:=ax
def zaE:dF prog 211=some 24:=ax
def zaF(cs:qu)(o:Nat):dc prog 211 cs o=cs[o]?:=iI underlying211 rfl cs o
def zaG:cQ prog 211=some [.ag]:=ax
def zaH:nY 211 1:=fun r o l z _ J k=>nW underlying211 (show bL prog 59=some 1 from by kernel_rfl) r o l z J k
def zaI:mT 211 1:=nZ underlying211 (show bL prog 59=some 1 from by kernel_rfl)
def In:=ad @zaD (ad @zaF (ad @zaE (ad @zaG (ad @zaH (@zaI)))))
def M4:bL prog 227=some 7:=ax
def zaJ:dF prog 227=some 112:=ax
def zaK(cs:qu)(o:Nat):dc prog 227 cs o=cq 7 (cs.drop o):=mr underlying227 rfl M4 cs o
def zaL:cQ prog 227=some [(.aj []),(.aj []),(.aj []),(.aj []),(.aj []),(.aj []),(.aj [])]:=ax
def zaM:=ad @M4 (ad @zaK (ad @zaJ (@zaL)))
def M5(H:Hp)(k:IntKind)(n:Int):kX prog H 2 185 (.int k n)=some (.int .u64 (IntKind.wrap .u64 n)):=AA
def pS(H:Hp)(k:IntKind)(n:Int):kX prog H 3 5 (.int k n)=some (.int .u8 (IntKind.wrap .u8 n)):=AA
def M6(H:Hp)(k:IntKind)(n:Int):kX prog H 3 182 (.int k n)=some (.int .u64 (IntKind.wrap .u64 n)):=AA
def M7(H:Hp)(k:IntKind)(n:Int):kX prog H 3 185 (.int k n)=some (.int .u64 (IntKind.wrap .u64 n)):=AA
def M8(H:Hp)(k:IntKind)(n:Int):kX prog H 185 5 (.int k n)=some (.int .u8 (IntKind.wrap .u8 n)):=AA
end Go.Proofs.YtpbcimfiofmoeaaGreat
namespace Go.Ab
set_option maxRecDepth 20000
open Go
variable {P:Program} {cfg:Cfg} {f N:Nat}
variable{a:Nat}{E:aq}{H:Hp}{Q:AX->aq->Hp->Prop}{p:Nat->Prop}{I:Type}
def cl{a:SC}(cs rs:qG)(Y n:Nat)(J:Nat->aq->Hp->Prop)(m:E.at Y=.int .i64 0)(U:J 0 E H)
 (h:∀(i:Nat) (E':aq) (H':Hp),i<=n->(∀k∈cs,E'.at k=E.at k)->(∀r∈rs,H'.get r=H.get r)->H.next<=H'.next->E'.at Y=.int .i64 i->J i E' H' ->
   bS P cfg f N a E' H' (lP Q fun C z=>i<n/\(∀k∈cs,C.at k=E.at k)/\(∀r∈rs,z.get r=H.get r)/\H.next<=z.next/\C.at Y=.int .i64 ((i+1:Nat):Int)/\J (i+1) C z)):bS P cfg f N (.loop a) E H Q:=
 rK (fun i E' H'=>(∀k∈cs,E'.at k=E.at k)/\(∀r∈rs,H'.get r=H.get r)/\H.next<=H'.next/\E'.at Y=.int .i64 i/\J i E' H') n (fun i E' H' I ⟨Z,j,V,O,M⟩=>h i E' H' I Z j V O M) ⟨fun _ _=>rfl,fun _ _=>rfl,ay _,m,U⟩
def zaN{a:SC}(cs rs:qG)(J:Nat->aq->Hp->Prop)(n:Nat)(U:J n E H)
 (h:∀(i:Nat) (E':aq) (H':Hp),(∀k∈cs,E'.at k=E.at k)->(∀r∈rs,H'.get r=H.get r)->H.next<=H'.next->J i E' H' ->
   bS P cfg f N a E' H' (lP Q fun C z=>(∀k∈cs,C.at k=E.at k)/\(∀r∈rs,z.get r=H.get r)/\H.next<=z.next/\∃m,m<i/\J m C z)):bS P cfg f N (.loop a) E H Q:=
 Aq (fun i E' H'=>(∀k∈cs,E'.at k=E.at k)/\(∀r∈rs,H'.get r=H.get r)/\H.next<=H'.next/\J i E' H') (fun i E' H' ⟨Z,j,Y,V⟩=>x7 (fun x C z O=>by
  grind) (h i E' H' Z j Y V)) (n:=n) ⟨fun _ _=>rfl,fun _ _=>rfl,ay _,U⟩
def bC{l:qG}:(∀k∈a::l,p k)↔p a/\∀k∈l,p k:=AB
def aZ:(∀k∈([]:qG),p k)↔True:=⟨fun _=>trivial,fun _ _ h=>pP⟩
def ak{b:Nat}(h:a≠b):(a == b)=false:=mR
def hZ{i n:Nat}(h:i<n)(J:n<2^62):AV.int .i64 (IntKind.wrap .i64 ((i:Int)+1))=.int .i64 ((i+1:Nat):Int):=by rw[gS ac]
theorem oX(v:Option I)(f:Nat)(u:Option I)(l r:T I)(k:Nat):jR v (f+1) (.n u l r) k=if k=0 then .n v l r else if k%2=1 then .n u (jR v f l (k/2)) r else .n u l (jR v f r (k/2-1)):=by
 rw[CJ];show kJ (Nat.beq k 0) _ (kJ (Nat.beq (k%2) 1) _ _)=_;cases hb:Nat.beq k 0 with
 |true=>simp_all
 |false=>
  rw[af (zM hb)];cases hc:Nat.beq (k%2) 1 with
  |true=>rw[ai (rH hc)];rfl
  |false=>rw[af (zM hc)];rfl
def M9(v:Option I)(f k:Nat):jR v (f+1) .e k=jR v (f+1) (.n none .e .e) k:=by
 rw[CJ,CJ]
theorem Io{I:Type}(v w:Option I):∀(f g:Nat) (t:T I) (k j:Nat),k<f->j<g->k≠j->jR w g (jR v f t k) j=jR v f (jR w g t j) k
 |0,_,_,_,_,h,_,_=>by omega
 |_+1,0,_,_,_,_,h,_=>by omega
 |f+1,g+1,t,k,j,hk,hj,hne=>by
  have z:∀(u:Option I) (l r:T I),jR w (g+1) (jR v (f+1) (.n u l r) k) j=jR v (f+1) (jR w (g+1) (.n u l r) j) k:=fun u l r=>by
   rw[oX,oX];by_cases k0:k=0
   .rw[ai k0,oX];have Y:¬j=0:=ac;rw[af Y,af Y];by_cases Z:j%2=1
    .rw[ai Z,ai Z,oX,ai k0]
    .rw[af Z,af Z,oX,ai k0]
   .rw[af k0];by_cases U:k%2=1
    .rw[ai U,oX];by_cases Y:j=0
     .rw[ai Y,ai Y,oX,af k0,ai U]
     .rw[af Y,af Y];by_cases Z:j%2=1
      .rw[ai Z,ai Z,oX,af k0,ai U,Io v w f g l (k/2) (j/2) ac ac ac]
      .rw[af Z,af Z,oX,af k0,ai U]
    .rw[af U,oX];by_cases Y:j=0
     .rw[ai Y,ai Y,oX,af k0,af U]
     .rw[af Y,af Y];by_cases Z:j%2=1
      .rw[ai Z,ai Z,oX,af k0,af U]
      .rw[af Z,af Z,oX,af k0,af U,Io v w f g r (k/2-1) (j/2-1) ac ac ac]
  cases t with
  |e=>rw[M9 v,M9 w];exact z _ _ _
  |n u l r=>exact z u l r
def Na(H:Hp){r s:Nat}(h:r≠s)(a b:HB):(H.set r a).set s b=(H.set s b).set r a:=by
 show Hp.mk H.next _=Hp.mk H.next _
 congr 1
 exact Io (some a) (some b) (r+1) (s+1) H.t r s ac ac h
theorem T.beq_refl{I:Type}{j:I->I->Bool}(J:∀a,j a a=true):∀x:T I,T.beq j x x=true
 | .e=>rfl
 | .n none l r=>by simp[T.beq,T.beq_refl J l,T.beq_refl J r]
 | .n (some a) l r=>by simp[T.beq,J a,T.beq_refl J l,T.beq_refl J r]
theorem zaO(ops:qB)(E:aq)(H:Hp):zH ops E E H H=true:=by
 unfold zH;rw[T.beq_refl HB.beq_refl,Nat.beq_refl,hT,hT,jX];intro o _;cases o.dst with
 |none=>rfl
 |some d=>exact AV.beq_refl _
def j6(o:Oper):Option Tmp×Op×Option (Nat×Bool):=(o.dst,o.op,o.guard)
theorem zaP{m Z:qB}(h:m.map j6=Z.map j6)(g:Option (Nat×Bool)):bJ m g=bJ Z g:=by
 cases g with
 |none=>rfl
 |some g=>
  obtain⟨j,b⟩:=g;have e:(m[j]?).map j6=(Z[j]?).map j6:=by rw[<-eI,<-eI,h]
  unfold bJ;cases Y:m[j]? with
  |none=>
   grind
  |some o=>
   rw[Y]at e;cases V:Z[j]? with
   |none=>simp_all
   |some U=>
    rw[V]at e;simp only[kM,j6,iw]at e;simp_all
theorem Ip{N:Nat}{m Z:qB}(h:m.map j6=Z.map j6):∀{l O:qB},l.map j6=O.map j6->bw N m l=bw N Z O
 |[],[],_=>rfl
 |[],_::_,k=>by simp at k
 |_::_,[],k=>by simp at k
 |o::l,o'::O,k=>by
  simp only[eK,eJ]at k;have e:=k.1;simp only[j6,iw]at e;rw[bw,bw,e.1,e.2.1,e.2.2,zaP h,Ip h k.2]
theorem DI(q p:Nat)(l:qB):(eU q p l).map j6=l.map j6:=by
 unfold eU;cases h:l[q]? with
 |none=>rfl
 |some o=>
  simp only;rw[wN];apply HV;intro i;rw[sE];by_cases e:q=i
  .subst e;rw[ai rfl,eI,h];simp only[dx,sD,j6]
   grind
  .rw[af e]
def Nb(ord:qG){l O:qB}(h:l.map j6=O.map j6):(fo ord l).map j6=(fo ord O).map j6:=by
 unfold fo;rw[List.map_filterMap,List.map_filterMap]
 congr 1
 funext i
 have e:(l[i]?).map j6=(O[i]?).map j6:=by rw[<-eI,<-eI,h]
 cases m:l[i]? with
 |none=>
  grind
 |some o=>
  rw[m]at e;cases j:O[i]? with
  |none=>simp_all
  |some V=>
   rw[j]at e;simp only[kM,j6,iw]at e⊢;simp only[tD,e.1,e.2.1,e.2.2,nV]
section
variable {P:Program} {cfg:Cfg} {f N:Nat}
def zaQ{id p q:Nat}{ord:qG}{ops:qB}{l1 l2:List SOp}{j Z:qP}{Y:aq}{U:Hp}
 (V:cfg.ca f id=.split p q .text (.cn ord)) (M:Nat.beq p q=false) (c1:nO (eU q p ops)=true) (s1:bw N ops ops=some l1) (cS:lY (eU q p ops)=j)
 (pb:wq ord (eU p q ops)=true) (c2:nO (fo ord (eU p q ops))=true) (J:bw N (fo ord ops) (fo ord ops)=some l2) (n2:lY (fo ord (eU p q ops))=Z)
 (h1:dC P cfg f l1 [] E H fun I E' H'=>oS P cfg j I H'/\E'=Y/\H'=U) (h2:dC P cfg f l2 [] E H fun I E' H'=>oS P cfg Z I H'/\E'=Y/\H'=U) (hk:Q .normal Y U):bS P cfg f N (.bK id ops) E H Q:=by
 have s1:bw N (eU q p ops) (eU q p ops)=some l1:=by rw[Ip (DI q p ops) (DI q p ops)];exact s1
 have J:bw N (fo ord (eU p q ops)) (fo ord (eU p q ops))=some l2:=by rw[Ip (Nb ord (DI p q ops)) (Nb ord (DI p q ops))];exact J
 unfold bS;intro code hc;cases code with
 |region id' O draw=>
  cases draw with
  |false=>simp only[aE,bH]at hc;grind
  |true=>
   simp only[aE,SC.bK.injEq]at hc;obtain⟨rfl,rfl⟩:=hc;obtain⟨n,E',H',rs,a1,a2,rfl,rfl⟩:=dC.run s1 h1;obtain⟨m,C,z,rs2,b1,b2,rfl,rfl⟩:=dC.run J h2;have r1:jV P cfg (dL P cfg (n+m)) f N (eU q p O.toList) E H=.done .normal C z:=by
    have e:jV P cfg (dL P cfg n) f N (eU q p O.toList) E H=.done .normal C z:=by
     unfold jV;rw[c1];simp only[a1];rw[cS,HU (by simpa using a2)]
    rw[Di (fun t ht=>Ap (Nat.le_add_right n m) ht) (by rw[e];simp),e]
   have r2:jV P cfg (dL P cfg (n+m)) f N (fo ord (eU p q O.toList)) E H=.done .normal C z:=by
    have e:jV P cfg (dL P cfg m) f N (fo ord (eU p q O.toList)) E H=.done .normal C z:=by
     unfold jV;rw[c2];simp only[b1];rw[n2,HU (by simpa using b2)]
    rw[Di (fun t ht=>Ap (Nat.le_add_left m n) ht) (by rw[e];simp),e]
   refine⟨_,_,_,dG.bK (n:=n+m) (r:=.done .normal C z) ?_ aw,hk⟩;rw[V];simp only[jW,M,pb,r1,r2,uT,zaO]
 |_=>simp[aE]at hc
end
end Go.Ab
