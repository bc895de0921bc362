/- Parts: Facts, AbFor. -/
import Derived.KernelRfl
import Derived.Test.YtpbcimfiofmoeaaRows
import Derived.Test.YtpbcimfiofmoeaaSDE
set_option linter.unusedSimpArgs false
set_option linter.unusedVariables false
set_option linter.unusedSectionVars false
set_option linter.defProp false
set_option maxHeartbeats 32000000
namespace Go.Proofs.Ytpbcimfiofmoeaa
set_option maxRecDepth 20000
open Go Go.Ab
def sB:=And.intro @zpU (And.intro @List.toList_toArray.{0} (And.intro @zH (And.intro @zat (And.intro @yP (And.intro @Bool.not_true (And.intro @Bool.not_false (And.intro @List.length_map.{0,0} (And.intro @Int.natCast_zero (And.intro @zsj (And.intro @zsk (And.intro @zsl (And.intro @zsm (And.intro @zsn (And.intro @at_set (And.intro @cond_true.{1} (And.intro @cond_false.{1} (@Nat.zero_add)))))))))))))))))
def sO:=And.intro @Ex.clen (And.intro @Ex.c0 (And.intro @Ex.c1 (And.intro @Ex.c2 (And.intro @Ex.c3 (And.intro @Ex.c4 (And.intro @Ex.whole (And.intro @Ex.one (And.intro @St.clen (And.intro @St.c0 (And.intro @St.c1 (And.intro @St.c2 (And.intro @St.c3 (And.intro @St.c4 (And.intro @St.c5 (And.intro @St.c6 (And.intro @St.c7 (And.intro @St.c8 (And.intro @St.c9 (And.intro @St.c10 (And.intro @St.c11 (And.intro @St.c12 (And.intro @St.c13 (And.intro @St.c14 (And.intro @St.c15 (And.intro @St.c16 (And.intro @St.whole (And.intro @St.one (And.intro @zlc (And.intro @St.part_value (And.intro @Fu.clen (And.intro @Fu.c0 (And.intro @Fu.c1 (And.intro @Fu.c2 (And.intro @Fu.c3 (And.intro @Fu.c4 (And.intro @Fu.c5 (And.intro @Fu.c6 (And.intro @Fu.c7 (And.intro @Fu.c8 (And.intro @Fu.whole (And.intro @Fu.one (And.intro @Fu.part_value (And.intro @Ar.clen (And.intro @Ar.c0 (And.intro @Ar.c1 (And.intro @Ar.whole (And.intro @Ar.one (And.intro @Pr.clen (And.intro @Pr.c0 (And.intro @Pr.c1 (And.intro @Pr.whole (And.intro @Pr.one (And.intro @Tk.clen (And.intro @Tk.c0 (And.intro @Tk.c1 (And.intro @Tk.c2 (And.intro @Tk.whole (And.intro @Tk.one (And.intro @Nd.clen (And.intro @Nd.c0 (And.intro @Nd.c1 (And.intro @Nd.c2 (And.intro @Nd.whole (And.intro @Nd.one (And.intro @Gr.clen (And.intro @Gr.c0 (And.intro @Gr.c1 (And.intro @Gr.c2 (And.intro @Gr.c3 (And.intro @Gr.c4 (And.intro @Gr.whole (And.intro @Gr.one (And.intro @Un.clen (And.intro @Un.c0 (And.intro @Un.c1 (And.intro @Un.whole (And.intro @Un.one (And.intro @zmy (And.intro @zmz (And.intro @zoU (And.intro @zmA (And.intro @List.getElem?_drop.{0} (And.intro @Nat.add_zero (And.intro @if_true.{1} (And.intro @zh3 (And.intro @zdj (And.intro @zjg (And.intro @zoO (And.intro @cells_int (And.intro @zh4 (And.intro @zoP (And.intro @zoQ (And.intro @zpQ (And.intro @zmx (And.intro @zoR (And.intro @zoS (And.intro @zoT (And.intro @zsC (And.intro @zpR (And.intro @zsD (And.intro @zsE (And.intro @one_sl (And.intro @zpS (And.intro @zsF (And.intro @zsG (And.intro @zsH (And.intro @List.all_cons.{0} (And.intro @List.all_nil.{0} (And.intro @Bool.and_true (And.intro @Bool.true_and (And.intro @and_true (And.intro @true_and (And.intro @Nat.zero_le (And.intro @Nat.le_refl (And.intro @List.nil_append.{0} (And.intro @List.append_nil.{0} (And.intro @List.cons_append.{0} (And.intro @zb (And.intro @ze (And.intro @zH (And.intro @beq_self_eq_true.{0} (And.intro @nb1 (And.intro @nb2 (And.intro @nb3 (And.intro @Nat.add_assoc (And.intro @List.getElem?_map.{0,0} (And.intro @Option.map_some.{0,0} (And.intro @zsA (And.intro @zsB (And.intro @zk6 (And.intro @zoM (And.intro @zmw (And.intro @get_set (And.intro @get_alloc (And.intro @List.getElem?_cons_succ.{0} (And.intro @List.getElem?_cons_zero.{0} (And.intro @List.drop_succ_cons.{0} (And.intro @List.drop_zero.{0} (And.intro @List.take_succ_cons.{0} (And.intro @List.take_zero.{0} (And.intro @List.length_cons.{0} (And.intro @List.length_nil.{0} (And.intro @Int.natCast_nonneg (And.intro @Int.toNat_natCast (And.intro @zso (And.intro @zsp (And.intro @zsq (And.intro @zsr (And.intro @bin_or (And.intro @zss (And.intro @znC (And.intro @zst (And.intro @zsu (And.intro @zsv (And.intro @zsw (And.intro @zsx (And.intro @zsy (And.intro @zsz (And.intro @un_not (@un_neg))))))))))))))))))))))))))))))))))))))))))))))))))))))))))))))))))))))))))))))))))))))))))))))))))))))))))))))))))))))))))))))))))))))))))))))))))))))))))))))))
structure Plain (cfg:Cfg) (f:FuncId):Prop where
 call:∀ args,cfg.call f args=none
 ice:cfg.ice f=false
 froz:cfg.froz f=false
theorem sz2:zG Try.prog 2=some 1:=by kernel_rfl
theorem bt2:z8 Try.prog 2=some 8:=by kernel_rfl
theorem pt2 (cs:List AV) (o:Nat):zy Try.prog 2 cs o=cs[o]?:=yu Try.underlying2 rfl cs o
theorem zr2:yl Try.prog 2=some [(.int .i64 0)]:=by kernel_rfl
def tq2:=And.intro @sz2 (And.intro @pt2 (And.intro @bt2 (@zr2)))
theorem sz3:zG Try.prog 3=some 1:=by kernel_rfl
theorem bt3:z8 Try.prog 3=some 8:=by kernel_rfl
theorem pt3 (cs:List AV) (o:Nat):zy Try.prog 3 cs o=cs[o]?:=yu Try.underlying3 rfl cs o
theorem zr3:yl Try.prog 3=some [(.int .i64 0)]:=by kernel_rfl
def tq3:=And.intro @sz3 (And.intro @pt3 (And.intro @bt3 (@zr3)))
theorem sz4:zG Try.prog 4=some 1:=by kernel_rfl
theorem bt4:z8 Try.prog 4=some 1:=by kernel_rfl
theorem pt4 (cs:List AV) (o:Nat):zy Try.prog 4 cs o=cs[o]?:=yu Try.underlying4 rfl cs o
theorem zr4:yl Try.prog 4=some [(.bool false)]:=by kernel_rfl
def tq4:=And.intro @sz4 (And.intro @pt4 (And.intro @bt4 (@zr4)))
theorem sz5:zG Try.prog 5=some 1:=by kernel_rfl
theorem bt5:z8 Try.prog 5=some 1:=by kernel_rfl
theorem pt5 (cs:List AV) (o:Nat):zy Try.prog 5 cs o=cs[o]?:=yu Try.underlying5 rfl cs o
theorem zr5:yl Try.prog 5=some [(.int .u8 0)]:=by kernel_rfl
def tq5:=And.intro @sz5 (And.intro @pt5 (And.intro @bt5 (@zr5)))
theorem sz9:zG Try.prog 9=some 1:=by kernel_rfl
theorem bt9:z8 Try.prog 9=some 16:=by kernel_rfl
theorem pt9 (cs:List AV) (o:Nat):zy Try.prog 9 cs o=cs[o]?:=yu Try.underlying9 rfl cs o
theorem zr9:yl Try.prog 9=some [(.str [])]:=by kernel_rfl
theorem ln9 (H:Hp) (s:List UInt8):ye Try.prog H 9 (.str s)=some (.int .i64 s.length):=zoL Try.underlying9 s
theorem ix9 (s:List UInt8) {n:Int} (hn:0≤n) (k:IntKind):zbX Try.prog 9 (.str s) (.int k n)=znD (s[n.toNat]?):=zoN Try.underlying9 s hn k
def tq9:=And.intro @sz9 (And.intro @pt9 (And.intro @bt9 (And.intro @zr9 (And.intro @ln9 (@ix9)))))
theorem sz23:zG Try.prog 23=some 1:=by kernel_rfl
theorem bt23:z8 Try.prog 23=some 24:=by kernel_rfl
theorem pt23 (cs:List AV) (o:Nat):zy Try.prog 23 cs o=cs[o]?:=yu Try.underlying23 rfl cs o
theorem zr23:yl Try.prog 23=some [.nilS]:=by kernel_rfl
theorem ix23l (xs:List (List AV)) {n:Int} (hn:0≤n) (k:IntKind):zq Try.prog 23 (.lst xs) (.int k n)=zeu 1 (xs[n.toNat]?):=jc Try.underlying23 (show zG Try.prog 3=some 1 from by kernel_rfl) xs hn k
theorem ix23s (r o l z:Nat) {n:Int} (hn:0≤n) (k:IntKind):zq Try.prog 23 (.sl r o l z) (.int k n)=bif decide (n.toNat < l)then some (.ptr r (o+n.toNat * 1))else none:=jz Try.underlying23 (show zG Try.prog 3=some 1 from by kernel_rfl) r o l z hn k
theorem ln23l (H:Hp) (xs:List (List AV)):ye Try.prog H 23 (.lst xs)=some (.int .i64 xs.length):=jk Try.underlying23 xs
theorem ln23s (H:Hp) (r o n z:Nat):ye Try.prog H 23 (.sl r o n z)=some (.int .i64 n):=jq Try.underlying23 r o n z
theorem ln23n (H:Hp):ye Try.prog H 23 .nilS=some (.int .i64 0):=ja Try.underlying23
def zcV:=And.intro @sz23 (And.intro @pt23 (And.intro @bt23 (And.intro @zr23 (And.intro @ix23l (And.intro @ix23s (And.intro @ln23l (And.intro @ln23s (@ln23n))))))))
theorem sz25:zG Try.prog 25=some 3:=by kernel_rfl
theorem bt25:z8 Try.prog 25=some 40:=by kernel_rfl
theorem pt25 (cs:List AV) (o:Nat):zy Try.prog 25 cs o=yL 3 (cs.drop o):=jD Try.underlying25 rfl sz25 cs o
theorem zr25:yl Try.prog 25=some [(.int .i64 0),(.int .i64 0),.nilS]:=by kernel_rfl
theorem zsJ (r o:Nat):zg Try.prog 25 (.ptr r o) 0=some (.ptr r (o+0)):=by kernel_rfl
theorem zsK (cs:List AV):zg Try.prog 25 (.iptr cs) 0=some (.iptr (cs.drop 0)):=by kernel_rfl
theorem fd25_0 (cs:List AV):zN Try.prog 25 (.agg cs) 0=zy Try.prog 3 cs 0:=by kernel_rfl
theorem zsL (r o:Nat):zg Try.prog 25 (.ptr r o) 1=some (.ptr r (o+1)):=by kernel_rfl
theorem zsM (cs:List AV):zg Try.prog 25 (.iptr cs) 1=some (.iptr (cs.drop 1)):=by kernel_rfl
theorem fd25_1 (cs:List AV):zN Try.prog 25 (.agg cs) 1=zy Try.prog 2 cs 1:=by kernel_rfl
theorem zsN (r o:Nat):zg Try.prog 25 (.ptr r o) 2=some (.ptr r (o+2)):=by kernel_rfl
theorem zsO (cs:List AV):zg Try.prog 25 (.iptr cs) 2=some (.iptr (cs.drop 2)):=by kernel_rfl
theorem fd25_2 (cs:List AV):zN Try.prog 25 (.agg cs) 2=zy Try.prog 23 cs 2:=by kernel_rfl
def tq25:=And.intro @sz25 (And.intro @pt25 (And.intro @bt25 (And.intro @zr25 (And.intro @zsJ (And.intro @zsK (And.intro @fd25_0 (And.intro @zsL (And.intro @zsM (And.intro @fd25_1 (And.intro @zsN (And.intro @zsO (@fd25_2))))))))))))
theorem sz26:zG Try.prog 26=some 1:=by kernel_rfl
theorem bt26:z8 Try.prog 26=some 24:=by kernel_rfl
theorem pt26 (cs:List AV) (o:Nat):zy Try.prog 26 cs o=cs[o]?:=yu Try.underlying26 rfl cs o
theorem zr26:yl Try.prog 26=some [.nilS]:=by kernel_rfl
theorem ix26l (xs:List (List AV)) {n:Int} (hn:0≤n) (k:IntKind):zq Try.prog 26 (.lst xs) (.int k n)=zeu 3 (xs[n.toNat]?):=jc Try.underlying26 (show zG Try.prog 25=some 3 from by kernel_rfl) xs hn k
theorem ix26s (r o l z:Nat) {n:Int} (hn:0≤n) (k:IntKind):zq Try.prog 26 (.sl r o l z) (.int k n)=bif decide (n.toNat < l)then some (.ptr r (o+n.toNat * 3))else none:=jz Try.underlying26 (show zG Try.prog 25=some 3 from by kernel_rfl) r o l z hn k
theorem ln26l (H:Hp) (xs:List (List AV)):ye Try.prog H 26 (.lst xs)=some (.int .i64 xs.length):=jk Try.underlying26 xs
theorem ln26s (H:Hp) (r o n z:Nat):ye Try.prog H 26 (.sl r o n z)=some (.int .i64 n):=jq Try.underlying26 r o n z
theorem ln26n (H:Hp):ye Try.prog H 26 .nilS=some (.int .i64 0):=ja Try.underlying26
def zg4:=And.intro @sz26 (And.intro @pt26 (And.intro @bt26 (And.intro @zr26 (And.intro @ix26l (And.intro @ix26s (And.intro @ln26l (And.intro @ln26s (@ln26n))))))))
theorem sz28:zG Try.prog 28=some 5:=by kernel_rfl
theorem bt28:z8 Try.prog 28=some 64:=by kernel_rfl
theorem pt28 (cs:List AV) (o:Nat):zy Try.prog 28 cs o=yL 5 (cs.drop o):=jD Try.underlying28 rfl sz28 cs o
theorem zr28:yl Try.prog 28=some [(.str []),(.int .i64 0),.nilS,(.int .i64 0),(.int .i64 0)]:=by kernel_rfl
theorem zsP (r o:Nat):zg Try.prog 28 (.ptr r o) 0=some (.ptr r (o+0)):=by kernel_rfl
theorem zsQ (cs:List AV):zg Try.prog 28 (.iptr cs) 0=some (.iptr (cs.drop 0)):=by kernel_rfl
theorem fd28_0 (cs:List AV):zN Try.prog 28 (.agg cs) 0=zy Try.prog 9 cs 0:=by kernel_rfl
theorem zsR (r o:Nat):zg Try.prog 28 (.ptr r o) 1=some (.ptr r (o+1)):=by kernel_rfl
theorem zsS (cs:List AV):zg Try.prog 28 (.iptr cs) 1=some (.iptr (cs.drop 1)):=by kernel_rfl
theorem fd28_1 (cs:List AV):zN Try.prog 28 (.agg cs) 1=zy Try.prog 3 cs 1:=by kernel_rfl
theorem zsT (r o:Nat):zg Try.prog 28 (.ptr r o) 2=some (.ptr r (o+2)):=by kernel_rfl
theorem zsU (cs:List AV):zg Try.prog 28 (.iptr cs) 2=some (.iptr (cs.drop 2)):=by kernel_rfl
theorem fd28_2 (cs:List AV):zN Try.prog 28 (.agg cs) 2=zy Try.prog 26 cs 2:=by kernel_rfl
theorem zsV (r o:Nat):zg Try.prog 28 (.ptr r o) 3=some (.ptr r (o+3)):=by kernel_rfl
theorem zsW (cs:List AV):zg Try.prog 28 (.iptr cs) 3=some (.iptr (cs.drop 3)):=by kernel_rfl
theorem fd28_3 (cs:List AV):zN Try.prog 28 (.agg cs) 3=zy Try.prog 3 cs 3:=by kernel_rfl
theorem zsX (r o:Nat):zg Try.prog 28 (.ptr r o) 4=some (.ptr r (o+4)):=by kernel_rfl
theorem zsY (cs:List AV):zg Try.prog 28 (.iptr cs) 4=some (.iptr (cs.drop 4)):=by kernel_rfl
theorem fd28_4 (cs:List AV):zN Try.prog 28 (.agg cs) 4=zy Try.prog 3 cs 4:=by kernel_rfl
def tq28:=And.intro @sz28 (And.intro @pt28 (And.intro @bt28 (And.intro @zr28 (And.intro @zsP (And.intro @zsQ (And.intro @fd28_0 (And.intro @zsR (And.intro @zsS (And.intro @fd28_1 (And.intro @zsT (And.intro @zsU (And.intro @fd28_2 (And.intro @zsV (And.intro @zsW (And.intro @fd28_3 (And.intro @zsX (And.intro @zsY (@fd28_4))))))))))))))))))
theorem sz31:zG Try.prog 31=some 1:=by kernel_rfl
theorem bt31:z8 Try.prog 31=some 24:=by kernel_rfl
theorem pt31 (cs:List AV) (o:Nat):zy Try.prog 31 cs o=cs[o]?:=yu Try.underlying31 rfl cs o
theorem zr31:yl Try.prog 31=some [.nilS]:=by kernel_rfl
theorem ix31l (xs:List (List AV)) {n:Int} (hn:0≤n) (k:IntKind):zq Try.prog 31 (.lst xs) (.int k n)=zeu 5 (xs[n.toNat]?):=jc Try.underlying31 (show zG Try.prog 28=some 5 from by kernel_rfl) xs hn k
theorem ix31s (r o l z:Nat) {n:Int} (hn:0≤n) (k:IntKind):zq Try.prog 31 (.sl r o l z) (.int k n)=bif decide (n.toNat < l)then some (.ptr r (o+n.toNat * 5))else none:=jz Try.underlying31 (show zG Try.prog 28=some 5 from by kernel_rfl) r o l z hn k
theorem ln31l (H:Hp) (xs:List (List AV)):ye Try.prog H 31 (.lst xs)=some (.int .i64 xs.length):=jk Try.underlying31 xs
theorem ln31s (H:Hp) (r o n z:Nat):ye Try.prog H 31 (.sl r o n z)=some (.int .i64 n):=jq Try.underlying31 r o n z
theorem ln31n (H:Hp):ye Try.prog H 31 .nilS=some (.int .i64 0):=ja Try.underlying31
def tq31:=And.intro @sz31 (And.intro @pt31 (And.intro @bt31 (And.intro @zr31 (And.intro @ix31l (And.intro @ix31s (And.intro @ln31l (And.intro @ln31s (@ln31n))))))))
theorem sz32:zG Try.prog 32=some 1:=by kernel_rfl
theorem bt32:z8 Try.prog 32=some 24:=by kernel_rfl
theorem pt32 (cs:List AV) (o:Nat):zy Try.prog 32 cs o=cs[o]?:=yu Try.underlying32 rfl cs o
theorem zr32:yl Try.prog 32=some [.nilS]:=by kernel_rfl
theorem ix32l (xs:List (List AV)) {n:Int} (hn:0≤n) (k:IntKind):zq Try.prog 32 (.lst xs) (.int k n)=zeu 2 (xs[n.toNat]?):=jc Try.underlying32 (show zG Try.prog 74=some 2 from by kernel_rfl) xs hn k
theorem ix32s (r o l z:Nat) {n:Int} (hn:0≤n) (k:IntKind):zq Try.prog 32 (.sl r o l z) (.int k n)=bif decide (n.toNat < l)then some (.ptr r (o+n.toNat * 2))else none:=jz Try.underlying32 (show zG Try.prog 74=some 2 from by kernel_rfl) r o l z hn k
theorem ln32l (H:Hp) (xs:List (List AV)):ye Try.prog H 32 (.lst xs)=some (.int .i64 xs.length):=jk Try.underlying32 xs
theorem ln32s (H:Hp) (r o n z:Nat):ye Try.prog H 32 (.sl r o n z)=some (.int .i64 n):=jq Try.underlying32 r o n z
theorem ln32n (H:Hp):ye Try.prog H 32 .nilS=some (.int .i64 0):=ja Try.underlying32
def zgb:=And.intro @sz32 (And.intro @pt32 (And.intro @bt32 (And.intro @zr32 (And.intro @ix32l (And.intro @ix32s (And.intro @ln32l (And.intro @ln32s (@ln32n))))))))
theorem sz34:zG Try.prog 34=some 2:=by kernel_rfl
theorem bt34:z8 Try.prog 34=some 48:=by kernel_rfl
theorem pt34 (cs:List AV) (o:Nat):zy Try.prog 34 cs o=yL 2 (cs.drop o):=jD Try.underlying34 rfl sz34 cs o
theorem zr34:yl Try.prog 34=some [.nilS,.nilS]:=by kernel_rfl
theorem zsZ (r o:Nat):zg Try.prog 34 (.ptr r o) 0=some (.ptr r (o+0)):=by kernel_rfl
theorem zs0 (cs:List AV):zg Try.prog 34 (.iptr cs) 0=some (.iptr (cs.drop 0)):=by kernel_rfl
theorem fd34_0 (cs:List AV):zN Try.prog 34 (.agg cs) 0=zy Try.prog 32 cs 0:=by kernel_rfl
theorem zs1 (r o:Nat):zg Try.prog 34 (.ptr r o) 1=some (.ptr r (o+1)):=by kernel_rfl
theorem zs2 (cs:List AV):zg Try.prog 34 (.iptr cs) 1=some (.iptr (cs.drop 1)):=by kernel_rfl
theorem fd34_1 (cs:List AV):zN Try.prog 34 (.agg cs) 1=zy Try.prog 31 cs 1:=by kernel_rfl
def tq34:=And.intro @sz34 (And.intro @pt34 (And.intro @bt34 (And.intro @zr34 (And.intro @zsZ (And.intro @zs0 (And.intro @fd34_0 (And.intro @zs1 (And.intro @zs2 (@fd34_1)))))))))
theorem sz40:zG Try.prog 40=some 1:=by kernel_rfl
theorem bt40:z8 Try.prog 40=some 24:=by kernel_rfl
theorem pt40 (cs:List AV) (o:Nat):zy Try.prog 40 cs o=cs[o]?:=yu Try.underlying40 rfl cs o
theorem zr40:yl Try.prog 40=some [.nilS]:=by kernel_rfl
theorem ix40l (xs:List (List AV)) {n:Int} (hn:0≤n) (k:IntKind):zq Try.prog 40 (.lst xs) (.int k n)=zeu 9 (xs[n.toNat]?):=jc Try.underlying40 (show zG Try.prog 53=some 9 from by kernel_rfl) xs hn k
theorem ix40s (r o l z:Nat) {n:Int} (hn:0≤n) (k:IntKind):zq Try.prog 40 (.sl r o l z) (.int k n)=bif decide (n.toNat < l)then some (.ptr r (o+n.toNat * 9))else none:=jz Try.underlying40 (show zG Try.prog 53=some 9 from by kernel_rfl) r o l z hn k
theorem ln40l (H:Hp) (xs:List (List AV)):ye Try.prog H 40 (.lst xs)=some (.int .i64 xs.length):=jk Try.underlying40 xs
theorem ln40s (H:Hp) (r o n z:Nat):ye Try.prog H 40 (.sl r o n z)=some (.int .i64 n):=jq Try.underlying40 r o n z
theorem ln40n (H:Hp):ye Try.prog H 40 .nilS=some (.int .i64 0):=ja Try.underlying40
def zgc:=And.intro @sz40 (And.intro @pt40 (And.intro @bt40 (And.intro @zr40 (And.intro @ix40l (And.intro @ix40s (And.intro @ln40l (And.intro @ln40s (@ln40n))))))))
theorem sz42:zG Try.prog 42=some 2:=by kernel_rfl
theorem bt42:z8 Try.prog 42=some 48:=by kernel_rfl
theorem pt42 (cs:List AV) (o:Nat):zy Try.prog 42 cs o=yL 2 (cs.drop o):=jD Try.underlying42 rfl sz42 cs o
theorem zr42:yl Try.prog 42=some [.nilS,.nilS]:=by kernel_rfl
theorem zs3 (r o:Nat):zg Try.prog 42 (.ptr r o) 0=some (.ptr r (o+0)):=by kernel_rfl
theorem zs4 (cs:List AV):zg Try.prog 42 (.iptr cs) 0=some (.iptr (cs.drop 0)):=by kernel_rfl
theorem fd42_0 (cs:List AV):zN Try.prog 42 (.agg cs) 0=zy Try.prog 32 cs 0:=by kernel_rfl
theorem zs5 (r o:Nat):zg Try.prog 42 (.ptr r o) 1=some (.ptr r (o+1)):=by kernel_rfl
theorem zs6 (cs:List AV):zg Try.prog 42 (.iptr cs) 1=some (.iptr (cs.drop 1)):=by kernel_rfl
theorem fd42_1 (cs:List AV):zN Try.prog 42 (.agg cs) 1=zy Try.prog 40 cs 1:=by kernel_rfl
def zcj:=And.intro @sz42 (And.intro @pt42 (And.intro @bt42 (And.intro @zr42 (And.intro @zs3 (And.intro @zs4 (And.intro @fd42_0 (And.intro @zs5 (And.intro @zs6 (@fd42_1)))))))))
theorem sz44:zG Try.prog 44=some 1:=by kernel_rfl
theorem bt44:z8 Try.prog 44=some 8:=by kernel_rfl
theorem pt44 (cs:List AV) (o:Nat):zy Try.prog 44 cs o=cs[o]?:=yu Try.underlying44 rfl cs o
theorem zr44:yl Try.prog 44=some [(.int .i64 0)]:=by kernel_rfl
def zmE:=And.intro @sz44 (And.intro @pt44 (And.intro @bt44 (@zr44)))
theorem sz47:zG Try.prog 47=some 1:=by kernel_rfl
theorem bt47:z8 Try.prog 47=some 24:=by kernel_rfl
theorem pt47 (cs:List AV) (o:Nat):zy Try.prog 47 cs o=cs[o]?:=yu Try.underlying47 rfl cs o
theorem zr47:yl Try.prog 47=some [.nilS]:=by kernel_rfl
theorem ix47l (xs:List (List AV)) {n:Int} (hn:0≤n) (k:IntKind):zq Try.prog 47 (.lst xs) (.int k n)=zeu 1 (xs[n.toNat]?):=jc Try.underlying47 (show zG Try.prog 9=some 1 from by kernel_rfl) xs hn k
theorem ix47s (r o l z:Nat) {n:Int} (hn:0≤n) (k:IntKind):zq Try.prog 47 (.sl r o l z) (.int k n)=bif decide (n.toNat < l)then some (.ptr r (o+n.toNat * 1))else none:=jz Try.underlying47 (show zG Try.prog 9=some 1 from by kernel_rfl) r o l z hn k
theorem ln47l (H:Hp) (xs:List (List AV)):ye Try.prog H 47 (.lst xs)=some (.int .i64 xs.length):=jk Try.underlying47 xs
theorem ln47s (H:Hp) (r o n z:Nat):ye Try.prog H 47 (.sl r o n z)=some (.int .i64 n):=jq Try.underlying47 r o n z
theorem ln47n (H:Hp):ye Try.prog H 47 .nilS=some (.int .i64 0):=ja Try.underlying47
def zcc:=And.intro @sz47 (And.intro @pt47 (And.intro @bt47 (And.intro @zr47 (And.intro @ix47l (And.intro @ix47s (And.intro @ln47l (And.intro @ln47s (@ln47n))))))))
theorem sz48:zG Try.prog 48=some 1:=by kernel_rfl
theorem bt48:z8 Try.prog 48=some 24:=by kernel_rfl
theorem pt48 (cs:List AV) (o:Nat):zy Try.prog 48 cs o=cs[o]?:=yu Try.underlying48 rfl cs o
theorem zr48:yl Try.prog 48=some [.nilS]:=by kernel_rfl
theorem ix48l (xs:List (List AV)) {n:Int} (hn:0≤n) (k:IntKind):zq Try.prog 48 (.lst xs) (.int k n)=zeu 17 (xs[n.toNat]?):=jc Try.underlying48 (show zG Try.prog 55=some 17 from by kernel_rfl) xs hn k
theorem ix48s (r o l z:Nat) {n:Int} (hn:0≤n) (k:IntKind):zq Try.prog 48 (.sl r o l z) (.int k n)=bif decide (n.toNat < l)then some (.ptr r (o+n.toNat * 17))else none:=jz Try.underlying48 (show zG Try.prog 55=some 17 from by kernel_rfl) r o l z hn k
theorem ln48l (H:Hp) (xs:List (List AV)):ye Try.prog H 48 (.lst xs)=some (.int .i64 xs.length):=jk Try.underlying48 xs
theorem ln48s (H:Hp) (r o n z:Nat):ye Try.prog H 48 (.sl r o n z)=some (.int .i64 n):=jq Try.underlying48 r o n z
theorem ln48n (H:Hp):ye Try.prog H 48 .nilS=some (.int .i64 0):=ja Try.underlying48
def za9:=And.intro @sz48 (And.intro @pt48 (And.intro @bt48 (And.intro @zr48 (And.intro @ix48l (And.intro @ix48s (And.intro @ln48l (And.intro @ln48s (@ln48n))))))))
theorem sz49:zG Try.prog 49=some 1:=by kernel_rfl
theorem bt49:z8 Try.prog 49=some 24:=by kernel_rfl
theorem pt49 (cs:List AV) (o:Nat):zy Try.prog 49 cs o=cs[o]?:=yu Try.underlying49 rfl cs o
theorem zr49:yl Try.prog 49=some [.nilS]:=by kernel_rfl
theorem ix49l (xs:List (List AV)) {n:Int} (hn:0≤n) (k:IntKind):zq Try.prog 49 (.lst xs) (.int k n)=zeu 5 (xs[n.toNat]?):=jc Try.underlying49 (show zG Try.prog 51=some 5 from by kernel_rfl) xs hn k
theorem ix49s (r o l z:Nat) {n:Int} (hn:0≤n) (k:IntKind):zq Try.prog 49 (.sl r o l z) (.int k n)=bif decide (n.toNat < l)then some (.ptr r (o+n.toNat * 5))else none:=jz Try.underlying49 (show zG Try.prog 51=some 5 from by kernel_rfl) r o l z hn k
theorem ln49l (H:Hp) (xs:List (List AV)):ye Try.prog H 49 (.lst xs)=some (.int .i64 xs.length):=jk Try.underlying49 xs
theorem ln49s (H:Hp) (r o n z:Nat):ye Try.prog H 49 (.sl r o n z)=some (.int .i64 n):=jq Try.underlying49 r o n z
theorem ln49n (H:Hp):ye Try.prog H 49 .nilS=some (.int .i64 0):=ja Try.underlying49
def zba:=And.intro @sz49 (And.intro @pt49 (And.intro @bt49 (And.intro @zr49 (And.intro @ix49l (And.intro @ix49s (And.intro @ln49l (And.intro @ln49s (@ln49n))))))))
theorem sz51:zG Try.prog 51=some 5:=by kernel_rfl
theorem bt51:z8 Try.prog 51=some 64:=by kernel_rfl
theorem pt51 (cs:List AV) (o:Nat):zy Try.prog 51 cs o=yL 5 (cs.drop o):=jD Try.underlying51 rfl sz51 cs o
theorem zr51:yl Try.prog 51=some [(.int .i64 0),(.int .i64 0),(.str []),(.int .i64 0),.nilS]:=by kernel_rfl
theorem zs7 (r o:Nat):zg Try.prog 51 (.ptr r o) 0=some (.ptr r (o+0)):=by kernel_rfl
theorem zs8 (cs:List AV):zg Try.prog 51 (.iptr cs) 0=some (.iptr (cs.drop 0)):=by kernel_rfl
theorem fd51_0 (cs:List AV):zN Try.prog 51 (.agg cs) 0=zy Try.prog 3 cs 0:=by kernel_rfl
theorem zs9 (r o:Nat):zg Try.prog 51 (.ptr r o) 1=some (.ptr r (o+1)):=by kernel_rfl
theorem zta (cs:List AV):zg Try.prog 51 (.iptr cs) 1=some (.iptr (cs.drop 1)):=by kernel_rfl
theorem fd51_1 (cs:List AV):zN Try.prog 51 (.agg cs) 1=zy Try.prog 2 cs 1:=by kernel_rfl
theorem ztb (r o:Nat):zg Try.prog 51 (.ptr r o) 2=some (.ptr r (o+2)):=by kernel_rfl
theorem ztc (cs:List AV):zg Try.prog 51 (.iptr cs) 2=some (.iptr (cs.drop 2)):=by kernel_rfl
theorem fd51_2 (cs:List AV):zN Try.prog 51 (.agg cs) 2=zy Try.prog 9 cs 2:=by kernel_rfl
theorem ztd (r o:Nat):zg Try.prog 51 (.ptr r o) 3=some (.ptr r (o+3)):=by kernel_rfl
theorem zte (cs:List AV):zg Try.prog 51 (.iptr cs) 3=some (.iptr (cs.drop 3)):=by kernel_rfl
theorem fd51_3 (cs:List AV):zN Try.prog 51 (.agg cs) 3=zy Try.prog 3 cs 3:=by kernel_rfl
theorem ztf (r o:Nat):zg Try.prog 51 (.ptr r o) 4=some (.ptr r (o+4)):=by kernel_rfl
theorem ztg (cs:List AV):zg Try.prog 51 (.iptr cs) 4=some (.iptr (cs.drop 4)):=by kernel_rfl
theorem fd51_4 (cs:List AV):zN Try.prog 51 (.agg cs) 4=zy Try.prog 49 cs 4:=by kernel_rfl
def zau:=And.intro @sz51 (And.intro @pt51 (And.intro @bt51 (And.intro @zr51 (And.intro @zs7 (And.intro @zs8 (And.intro @fd51_0 (And.intro @zs9 (And.intro @zta (And.intro @fd51_1 (And.intro @ztb (And.intro @ztc (And.intro @fd51_2 (And.intro @ztd (And.intro @zte (And.intro @fd51_3 (And.intro @ztf (And.intro @ztg (@fd51_4))))))))))))))))))
theorem sz53:zG Try.prog 53=some 9:=by kernel_rfl
theorem bt53:z8 Try.prog 53=some 152:=by kernel_rfl
theorem pt53 (cs:List AV) (o:Nat):zy Try.prog 53 cs o=yL 9 (cs.drop o):=jD Try.underlying53 rfl sz53 cs o
theorem zr53:yl Try.prog 53=some [(.str []),.nilS,.nilS,.nilS,(.int .i64 0),(.int .i64 0),(.str []),(.int .i64 0),.nilS]:=by kernel_rfl
theorem zth (r o:Nat):zg Try.prog 53 (.ptr r o) 0=some (.ptr r (o+0)):=by kernel_rfl
theorem zti (cs:List AV):zg Try.prog 53 (.iptr cs) 0=some (.iptr (cs.drop 0)):=by kernel_rfl
theorem fd53_0 (cs:List AV):zN Try.prog 53 (.agg cs) 0=zy Try.prog 9 cs 0:=by kernel_rfl
theorem ztj (r o:Nat):zg Try.prog 53 (.ptr r o) 1=some (.ptr r (o+1)):=by kernel_rfl
theorem ztk (cs:List AV):zg Try.prog 53 (.iptr cs) 1=some (.iptr (cs.drop 1)):=by kernel_rfl
theorem fd53_1 (cs:List AV):zN Try.prog 53 (.agg cs) 1=zy Try.prog 47 cs 1:=by kernel_rfl
theorem ztl (r o:Nat):zg Try.prog 53 (.ptr r o) 2=some (.ptr r (o+2)):=by kernel_rfl
theorem ztm (cs:List AV):zg Try.prog 53 (.iptr cs) 2=some (.iptr (cs.drop 2)):=by kernel_rfl
theorem fd53_2 (cs:List AV):zN Try.prog 53 (.agg cs) 2=zy Try.prog 47 cs 2:=by kernel_rfl
theorem ztn (r o:Nat):zg Try.prog 53 (.ptr r o) 3=some (.ptr r (o+3)):=by kernel_rfl
theorem zto (cs:List AV):zg Try.prog 53 (.iptr cs) 3=some (.iptr (cs.drop 3)):=by kernel_rfl
theorem fd53_3 (cs:List AV):zN Try.prog 53 (.agg cs) 3=zy Try.prog 48 cs 3:=by kernel_rfl
theorem ztp (r o:Nat):zg Try.prog 53 (.ptr r o) 4=some (.ptr r (o+4)):=by kernel_rfl
theorem ztq (cs:List AV):zg Try.prog 53 (.iptr cs) 4=some (.iptr (cs.drop 4)):=by kernel_rfl
theorem fd53_4 (cs:List AV):zN Try.prog 53 (.agg cs) 4=zy Try.prog 51 cs 4:=by kernel_rfl
def zfA:=And.intro @sz53 (And.intro @pt53 (And.intro @bt53 (And.intro @zr53 (And.intro @zth (And.intro @zti (And.intro @fd53_0 (And.intro @ztj (And.intro @ztk (And.intro @fd53_1 (And.intro @ztl (And.intro @ztm (And.intro @fd53_2 (And.intro @ztn (And.intro @zto (And.intro @fd53_3 (And.intro @ztp (And.intro @ztq (@fd53_4))))))))))))))))))
theorem sz55:zG Try.prog 55=some 17:=by kernel_rfl
theorem bt55:z8 Try.prog 55=some 248:=by kernel_rfl
theorem pt55 (cs:List AV) (o:Nat):zy Try.prog 55 cs o=yL 17 (cs.drop o):=jD Try.underlying55 rfl sz55 cs o
theorem zr55:yl Try.prog 55=some [(.int .i64 0),(.str []),(.str []),(.int .i64 0),(.int .i64 0),(.int .i64 0),(.str []),(.int .i64 0),.nilS,(.int .i64 0),(.int .i64 0),(.str []),(.int .i64 0),.nilS,.nilS,.nilS,.nilS]:=by kernel_rfl
theorem ztr (r o:Nat):zg Try.prog 55 (.ptr r o) 0=some (.ptr r (o+0)):=by kernel_rfl
theorem zts (cs:List AV):zg Try.prog 55 (.iptr cs) 0=some (.iptr (cs.drop 0)):=by kernel_rfl
theorem fd55_0 (cs:List AV):zN Try.prog 55 (.agg cs) 0=zy Try.prog 3 cs 0:=by kernel_rfl
theorem ztt (r o:Nat):zg Try.prog 55 (.ptr r o) 1=some (.ptr r (o+1)):=by kernel_rfl
theorem ztu (cs:List AV):zg Try.prog 55 (.iptr cs) 1=some (.iptr (cs.drop 1)):=by kernel_rfl
theorem fd55_1 (cs:List AV):zN Try.prog 55 (.agg cs) 1=zy Try.prog 9 cs 1:=by kernel_rfl
theorem ztv (r o:Nat):zg Try.prog 55 (.ptr r o) 2=some (.ptr r (o+2)):=by kernel_rfl
theorem ztw (cs:List AV):zg Try.prog 55 (.iptr cs) 2=some (.iptr (cs.drop 2)):=by kernel_rfl
theorem fd55_2 (cs:List AV):zN Try.prog 55 (.agg cs) 2=zy Try.prog 9 cs 2:=by kernel_rfl
theorem ztx (r o:Nat):zg Try.prog 55 (.ptr r o) 3=some (.ptr r (o+3)):=by kernel_rfl
theorem zty (cs:List AV):zg Try.prog 55 (.iptr cs) 3=some (.iptr (cs.drop 3)):=by kernel_rfl
theorem fd55_3 (cs:List AV):zN Try.prog 55 (.agg cs) 3=zy Try.prog 3 cs 3:=by kernel_rfl
theorem ztz (r o:Nat):zg Try.prog 55 (.ptr r o) 4=some (.ptr r (o+4)):=by kernel_rfl
theorem ztA (cs:List AV):zg Try.prog 55 (.iptr cs) 4=some (.iptr (cs.drop 4)):=by kernel_rfl
theorem fd55_4 (cs:List AV):zN Try.prog 55 (.agg cs) 4=zy Try.prog 51 cs 4:=by kernel_rfl
theorem ztB (r o:Nat):zg Try.prog 55 (.ptr r o) 5=some (.ptr r (o+9)):=by kernel_rfl
theorem ztC (cs:List AV):zg Try.prog 55 (.iptr cs) 5=some (.iptr (cs.drop 9)):=by kernel_rfl
theorem fd55_5 (cs:List AV):zN Try.prog 55 (.agg cs) 5=zy Try.prog 51 cs 9:=by kernel_rfl
theorem ztD (r o:Nat):zg Try.prog 55 (.ptr r o) 6=some (.ptr r (o+14)):=by kernel_rfl
theorem ztE (cs:List AV):zg Try.prog 55 (.iptr cs) 6=some (.iptr (cs.drop 14)):=by kernel_rfl
theorem fd55_6 (cs:List AV):zN Try.prog 55 (.agg cs) 6=zy Try.prog 49 cs 14:=by kernel_rfl
theorem ztF (r o:Nat):zg Try.prog 55 (.ptr r o) 7=some (.ptr r (o+15)):=by kernel_rfl
theorem ztG (cs:List AV):zg Try.prog 55 (.iptr cs) 7=some (.iptr (cs.drop 15)):=by kernel_rfl
theorem fd55_7 (cs:List AV):zN Try.prog 55 (.agg cs) 7=zy Try.prog 48 cs 15:=by kernel_rfl
theorem ztH (r o:Nat):zg Try.prog 55 (.ptr r o) 8=some (.ptr r (o+16)):=by kernel_rfl
theorem ztI (cs:List AV):zg Try.prog 55 (.iptr cs) 8=some (.iptr (cs.drop 16)):=by kernel_rfl
theorem fd55_8 (cs:List AV):zN Try.prog 55 (.agg cs) 8=zy Try.prog 48 cs 16:=by kernel_rfl
def zbw:=And.intro @sz55 (And.intro @pt55 (And.intro @bt55 (And.intro @zr55 (And.intro @ztr (And.intro @zts (And.intro @fd55_0 (And.intro @ztt (And.intro @ztu (And.intro @fd55_1 (And.intro @ztv (And.intro @ztw (And.intro @fd55_2 (And.intro @ztx (And.intro @zty (And.intro @fd55_3 (And.intro @ztz (And.intro @ztA (And.intro @fd55_4 (And.intro @ztB (And.intro @ztC (And.intro @fd55_5 (And.intro @ztD (And.intro @ztE (And.intro @fd55_6 (And.intro @ztF (And.intro @ztG (And.intro @fd55_7 (And.intro @ztH (And.intro @ztI (@fd55_8))))))))))))))))))))))))))))))
theorem sz61:zG Try.prog 61=some 1:=by kernel_rfl
theorem bt61:z8 Try.prog 61=some 24:=by kernel_rfl
theorem pt61 (cs:List AV) (o:Nat):zy Try.prog 61 cs o=cs[o]?:=yu Try.underlying61 rfl cs o
theorem zr61:yl Try.prog 61=some [.nilS]:=by kernel_rfl
theorem ix61l (xs:List (List AV)) {n:Int} (hn:0≤n) (k:IntKind):zq Try.prog 61 (.lst xs) (.int k n)=zeu 1 (xs[n.toNat]?):=jc Try.underlying61 (show zG Try.prog 5=some 1 from by kernel_rfl) xs hn k
theorem ix61s (r o l z:Nat) {n:Int} (hn:0≤n) (k:IntKind):zq Try.prog 61 (.sl r o l z) (.int k n)=bif decide (n.toNat < l)then some (.ptr r (o+n.toNat * 1))else none:=jz Try.underlying61 (show zG Try.prog 5=some 1 from by kernel_rfl) r o l z hn k
theorem ln61l (H:Hp) (xs:List (List AV)):ye Try.prog H 61 (.lst xs)=some (.int .i64 xs.length):=jk Try.underlying61 xs
theorem ln61s (H:Hp) (r o n z:Nat):ye Try.prog H 61 (.sl r o n z)=some (.int .i64 n):=jq Try.underlying61 r o n z
theorem ln61n (H:Hp):ye Try.prog H 61 .nilS=some (.int .i64 0):=ja Try.underlying61
def tq61:=And.intro @sz61 (And.intro @pt61 (And.intro @bt61 (And.intro @zr61 (And.intro @ix61l (And.intro @ix61s (And.intro @ln61l (And.intro @ln61s (@ln61n))))))))
theorem sz63:zG Try.prog 63=some 2:=by kernel_rfl
theorem bt63:z8 Try.prog 63=some 16:=by kernel_rfl
theorem pt63 (cs:List AV) (o:Nat):zy Try.prog 63 cs o=yL 2 (cs.drop o):=jD Try.underlying63 rfl sz63 cs o
theorem zr63:yl Try.prog 63=some [(.int .i64 0),(.int .i64 0)]:=by kernel_rfl
theorem ztJ (r o:Nat):zg Try.prog 63 (.ptr r o) 0=some (.ptr r (o+0)):=by kernel_rfl
theorem ztK (cs:List AV):zg Try.prog 63 (.iptr cs) 0=some (.iptr (cs.drop 0)):=by kernel_rfl
theorem fd63_0 (cs:List AV):zN Try.prog 63 (.agg cs) 0=zy Try.prog 44 cs 0:=by kernel_rfl
theorem ztL (r o:Nat):zg Try.prog 63 (.ptr r o) 1=some (.ptr r (o+1)):=by kernel_rfl
theorem ztM (cs:List AV):zg Try.prog 63 (.iptr cs) 1=some (.iptr (cs.drop 1)):=by kernel_rfl
theorem fd63_1 (cs:List AV):zN Try.prog 63 (.agg cs) 1=zy Try.prog 3 cs 1:=by kernel_rfl
def tq63:=And.intro @sz63 (And.intro @pt63 (And.intro @bt63 (And.intro @zr63 (And.intro @ztJ (And.intro @ztK (And.intro @fd63_0 (And.intro @ztL (And.intro @ztM (@fd63_1)))))))))
theorem sz74:zG Try.prog 74=some 2:=by kernel_rfl
theorem bt74:z8 Try.prog 74=some 24:=by kernel_rfl
theorem pt74 (cs:List AV) (o:Nat):zy Try.prog 74 cs o=yL 2 (cs.drop o):=jD Try.underlying74 rfl sz74 cs o
theorem zr74:yl Try.prog 74=some [(.str []),(.int .i64 0)]:=by kernel_rfl
theorem ztN (r o:Nat):zg Try.prog 74 (.ptr r o) 0=some (.ptr r (o+0)):=by kernel_rfl
theorem ztO (cs:List AV):zg Try.prog 74 (.iptr cs) 0=some (.iptr (cs.drop 0)):=by kernel_rfl
theorem fd74_0 (cs:List AV):zN Try.prog 74 (.agg cs) 0=zy Try.prog 9 cs 0:=by kernel_rfl
theorem ztP (r o:Nat):zg Try.prog 74 (.ptr r o) 1=some (.ptr r (o+1)):=by kernel_rfl
theorem ztQ (cs:List AV):zg Try.prog 74 (.iptr cs) 1=some (.iptr (cs.drop 1)):=by kernel_rfl
theorem fd74_1 (cs:List AV):zN Try.prog 74 (.agg cs) 1=zy Try.prog 3 cs 1:=by kernel_rfl
def zld:=And.intro @sz74 (And.intro @pt74 (And.intro @bt74 (And.intro @zr74 (And.intro @ztN (And.intro @ztO (And.intro @fd74_0 (And.intro @ztP (And.intro @ztQ (@fd74_1)))))))))
theorem sz77:zG Try.prog 77=some 2:=by kernel_rfl
theorem bt77:z8 Try.prog 77=some 32:=by kernel_rfl
theorem pt77 (cs:List AV) (o:Nat):zy Try.prog 77 cs o=yL 2 (cs.drop o):=jD Try.underlying77 rfl sz77 cs o
theorem zr77:yl Try.prog 77=some [.nilS,(.int .i64 0)]:=by kernel_rfl
theorem ztR (r o:Nat):zg Try.prog 77 (.ptr r o) 0=some (.ptr r (o+0)):=by kernel_rfl
theorem ztS (cs:List AV):zg Try.prog 77 (.iptr cs) 0=some (.iptr (cs.drop 0)):=by kernel_rfl
theorem fd77_0 (cs:List AV):zN Try.prog 77 (.agg cs) 0=zy Try.prog 23 cs 0:=by kernel_rfl
theorem ztT (r o:Nat):zg Try.prog 77 (.ptr r o) 1=some (.ptr r (o+1)):=by kernel_rfl
theorem ztU (cs:List AV):zg Try.prog 77 (.iptr cs) 1=some (.iptr (cs.drop 1)):=by kernel_rfl
theorem fd77_1 (cs:List AV):zN Try.prog 77 (.agg cs) 1=zy Try.prog 3 cs 1:=by kernel_rfl
def tq77:=And.intro @sz77 (And.intro @pt77 (And.intro @bt77 (And.intro @zr77 (And.intro @ztR (And.intro @ztS (And.intro @fd77_0 (And.intro @ztT (And.intro @ztU (@fd77_1)))))))))
theorem sz81:zG Try.prog 81=some 1:=by kernel_rfl
theorem bt81:z8 Try.prog 81=some 8:=by kernel_rfl
theorem pt81 (cs:List AV) (o:Nat):zy Try.prog 81 cs o=cs[o]?:=yu Try.underlying81 rfl cs o
theorem zr81:yl Try.prog 81=some [.nilM]:=by kernel_rfl
def zgd:=And.intro @sz81 (And.intro @pt81 (And.intro @bt81 (@zr81)))
theorem sz84:zG Try.prog 84=some 10:=by kernel_rfl
theorem bt84:z8 Try.prog 84=some 144:=by kernel_rfl
theorem pt84 (cs:List AV) (o:Nat):zy Try.prog 84 cs o=yL 10 (cs.drop o):=jD Try.underlying84 rfl sz84 cs o
theorem zr84:yl Try.prog 84=some [.nilS,.nilS,.nilM,.nilM,.nilS,.nilM,.nilM,.nilS,(.int .i64 0),(.int .i64 0)]:=by kernel_rfl
theorem ztV (r o:Nat):zg Try.prog 84 (.ptr r o) 0=some (.ptr r (o+0)):=by kernel_rfl
theorem ztW (cs:List AV):zg Try.prog 84 (.iptr cs) 0=some (.iptr (cs.drop 0)):=by kernel_rfl
theorem fd84_0 (cs:List AV):zN Try.prog 84 (.agg cs) 0=zy Try.prog 42 cs 0:=by kernel_rfl
theorem ztX (r o:Nat):zg Try.prog 84 (.ptr r o) 1=some (.ptr r (o+2)):=by kernel_rfl
theorem ztY (cs:List AV):zg Try.prog 84 (.iptr cs) 1=some (.iptr (cs.drop 2)):=by kernel_rfl
theorem fd84_1 (cs:List AV):zN Try.prog 84 (.agg cs) 1=zy Try.prog 81 cs 2:=by kernel_rfl
theorem ztZ (r o:Nat):zg Try.prog 84 (.ptr r o) 2=some (.ptr r (o+3)):=by kernel_rfl
theorem zt0 (cs:List AV):zg Try.prog 84 (.iptr cs) 2=some (.iptr (cs.drop 3)):=by kernel_rfl
theorem fd84_2 (cs:List AV):zN Try.prog 84 (.agg cs) 2=zy Try.prog 81 cs 3:=by kernel_rfl
theorem zt1 (r o:Nat):zg Try.prog 84 (.ptr r o) 3=some (.ptr r (o+4)):=by kernel_rfl
theorem zt2 (cs:List AV):zg Try.prog 84 (.iptr cs) 3=some (.iptr (cs.drop 4)):=by kernel_rfl
theorem fd84_3 (cs:List AV):zN Try.prog 84 (.agg cs) 3=zy Try.prog 26 cs 4:=by kernel_rfl
theorem zt3 (r o:Nat):zg Try.prog 84 (.ptr r o) 4=some (.ptr r (o+5)):=by kernel_rfl
theorem zt4 (cs:List AV):zg Try.prog 84 (.iptr cs) 4=some (.iptr (cs.drop 5)):=by kernel_rfl
theorem fd84_4 (cs:List AV):zN Try.prog 84 (.agg cs) 4=zy Try.prog 81 cs 5:=by kernel_rfl
theorem zt5 (r o:Nat):zg Try.prog 84 (.ptr r o) 5=some (.ptr r (o+6)):=by kernel_rfl
theorem zt6 (cs:List AV):zg Try.prog 84 (.iptr cs) 5=some (.iptr (cs.drop 6)):=by kernel_rfl
theorem fd84_5 (cs:List AV):zN Try.prog 84 (.agg cs) 5=zy Try.prog 81 cs 6:=by kernel_rfl
theorem zt7 (r o:Nat):zg Try.prog 84 (.ptr r o) 6=some (.ptr r (o+7)):=by kernel_rfl
theorem zt8 (cs:List AV):zg Try.prog 84 (.iptr cs) 6=some (.iptr (cs.drop 7)):=by kernel_rfl
theorem fd84_6 (cs:List AV):zN Try.prog 84 (.agg cs) 6=zy Try.prog 23 cs 7:=by kernel_rfl
theorem zt9 (r o:Nat):zg Try.prog 84 (.ptr r o) 7=some (.ptr r (o+8)):=by kernel_rfl
theorem zua (cs:List AV):zg Try.prog 84 (.iptr cs) 7=some (.iptr (cs.drop 8)):=by kernel_rfl
theorem fd84_7 (cs:List AV):zN Try.prog 84 (.agg cs) 7=zy Try.prog 3 cs 8:=by kernel_rfl
theorem zub (r o:Nat):zg Try.prog 84 (.ptr r o) 8=some (.ptr r (o+9)):=by kernel_rfl
theorem zuc (cs:List AV):zg Try.prog 84 (.iptr cs) 8=some (.iptr (cs.drop 9)):=by kernel_rfl
theorem fd84_8 (cs:List AV):zN Try.prog 84 (.agg cs) 8=zy Try.prog 3 cs 9:=by kernel_rfl
def zh7:=And.intro @sz84 (And.intro @pt84 (And.intro @bt84 (And.intro @zr84 (And.intro @ztV (And.intro @ztW (And.intro @fd84_0 (And.intro @ztX (And.intro @ztY (And.intro @fd84_1 (And.intro @ztZ (And.intro @zt0 (And.intro @fd84_2 (And.intro @zt1 (And.intro @zt2 (And.intro @fd84_3 (And.intro @zt3 (And.intro @zt4 (And.intro @fd84_4 (And.intro @zt5 (And.intro @zt6 (And.intro @fd84_5 (And.intro @zt7 (And.intro @zt8 (And.intro @fd84_6 (And.intro @zt9 (And.intro @zua (And.intro @fd84_7 (And.intro @zub (And.intro @zuc (@fd84_8))))))))))))))))))))))))))))))
theorem sz90:zG Try.prog 90=some 1:=by kernel_rfl
theorem bt90:z8 Try.prog 90=some 24:=by kernel_rfl
theorem pt90 (cs:List AV) (o:Nat):zy Try.prog 90 cs o=cs[o]?:=yu Try.underlying90 rfl cs o
theorem zr90:yl Try.prog 90=some [.nilS]:=by kernel_rfl
theorem ix90l (xs:List (List AV)) {n:Int} (hn:0≤n) (k:IntKind):zq Try.prog 90 (.lst xs) (.int k n)=zeu 3 (xs[n.toNat]?):=jc Try.underlying90 (show zG Try.prog 119=some 3 from by kernel_rfl) xs hn k
theorem ix90s (r o l z:Nat) {n:Int} (hn:0≤n) (k:IntKind):zq Try.prog 90 (.sl r o l z) (.int k n)=bif decide (n.toNat < l)then some (.ptr r (o+n.toNat * 3))else none:=jz Try.underlying90 (show zG Try.prog 119=some 3 from by kernel_rfl) r o l z hn k
theorem ln90l (H:Hp) (xs:List (List AV)):ye Try.prog H 90 (.lst xs)=some (.int .i64 xs.length):=jk Try.underlying90 xs
theorem ln90s (H:Hp) (r o n z:Nat):ye Try.prog H 90 (.sl r o n z)=some (.int .i64 n):=jq Try.underlying90 r o n z
theorem ln90n (H:Hp):ye Try.prog H 90 .nilS=some (.int .i64 0):=ja Try.underlying90
def tq90:=And.intro @sz90 (And.intro @pt90 (And.intro @bt90 (And.intro @zr90 (And.intro @ix90l (And.intro @ix90s (And.intro @ln90l (And.intro @ln90s (@ln90n))))))))
theorem sz107:zG Try.prog 107=some 1:=by kernel_rfl
theorem bt107:z8 Try.prog 107=some 24:=by kernel_rfl
theorem pt107 (cs:List AV) (o:Nat):zy Try.prog 107 cs o=cs[o]?:=yu Try.underlying107 rfl cs o
theorem zr107:yl Try.prog 107=some [.nilS]:=by kernel_rfl
theorem ix107l (xs:List (List AV)) {n:Int} (hn:0≤n) (k:IntKind):zq Try.prog 107 (.lst xs) (.int k n)=zeu 1 (xs[n.toNat]?):=jc Try.underlying107 (show zG Try.prog 4=some 1 from by kernel_rfl) xs hn k
theorem ix107s (r o l z:Nat) {n:Int} (hn:0≤n) (k:IntKind):zq Try.prog 107 (.sl r o l z) (.int k n)=bif decide (n.toNat < l)then some (.ptr r (o+n.toNat * 1))else none:=jz Try.underlying107 (show zG Try.prog 4=some 1 from by kernel_rfl) r o l z hn k
theorem ln107l (H:Hp) (xs:List (List AV)):ye Try.prog H 107 (.lst xs)=some (.int .i64 xs.length):=jk Try.underlying107 xs
theorem ln107s (H:Hp) (r o n z:Nat):ye Try.prog H 107 (.sl r o n z)=some (.int .i64 n):=jq Try.underlying107 r o n z
theorem ln107n (H:Hp):ye Try.prog H 107 .nilS=some (.int .i64 0):=ja Try.underlying107
def tq107:=And.intro @sz107 (And.intro @pt107 (And.intro @bt107 (And.intro @zr107 (And.intro @ix107l (And.intro @ix107s (And.intro @ln107l (And.intro @ln107s (@ln107n))))))))
theorem znF:zG Try.prog 119=some 3:=by kernel_rfl
theorem zp0:z8 Try.prog 119=some 32:=by kernel_rfl
theorem pt119 (cs:List AV) (o:Nat):zy Try.prog 119 cs o=yL 3 (cs.drop o):=jD Try.underlying119 rfl znF cs o
theorem zp1:yl Try.prog 119=some [(.int .i64 0),(.str []),(.int .i64 0)]:=by kernel_rfl
theorem zp2 (r o:Nat):zg Try.prog 119 (.ptr r o) 0=some (.ptr r (o+0)):=by kernel_rfl
theorem zp3 (cs:List AV):zg Try.prog 119 (.iptr cs) 0=some (.iptr (cs.drop 0)):=by kernel_rfl
theorem zud (cs:List AV):zN Try.prog 119 (.agg cs) 0=zy Try.prog 3 cs 0:=by kernel_rfl
theorem zp4 (r o:Nat):zg Try.prog 119 (.ptr r o) 1=some (.ptr r (o+1)):=by kernel_rfl
theorem zp5 (cs:List AV):zg Try.prog 119 (.iptr cs) 1=some (.iptr (cs.drop 1)):=by kernel_rfl
theorem zue (cs:List AV):zN Try.prog 119 (.agg cs) 1=zy Try.prog 9 cs 1:=by kernel_rfl
theorem zp6 (r o:Nat):zg Try.prog 119 (.ptr r o) 2=some (.ptr r (o+2)):=by kernel_rfl
theorem zp7 (cs:List AV):zg Try.prog 119 (.iptr cs) 2=some (.iptr (cs.drop 2)):=by kernel_rfl
theorem zuf (cs:List AV):zN Try.prog 119 (.agg cs) 2=zy Try.prog 3 cs 2:=by kernel_rfl
def znG:=And.intro @znF (And.intro @pt119 (And.intro @zp0 (And.intro @zp1 (And.intro @zp2 (And.intro @zp3 (And.intro @zud (And.intro @zp4 (And.intro @zp5 (And.intro @zue (And.intro @zp6 (And.intro @zp7 (@zuf))))))))))))
theorem sz121:zG Try.prog 121=some 1:=by kernel_rfl
theorem bt121:z8 Try.prog 121=some 8:=by kernel_rfl
theorem pt121 (cs:List AV) (o:Nat):zy Try.prog 121 cs o=cs[o]?:=yu Try.underlying121 rfl cs o
theorem zr121:yl Try.prog 121=some [(.int .u64 0)]:=by kernel_rfl
def tq121:=And.intro @sz121 (And.intro @pt121 (And.intro @bt121 (@zr121)))
theorem sz133:zG Try.prog 133=some 1:=by kernel_rfl
theorem bt133:z8 Try.prog 133=some 8:=by kernel_rfl
theorem pt133 (cs:List AV) (o:Nat):zy Try.prog 133 cs o=cs[o]?:=yu Try.underlying133 rfl cs o
theorem zr133:yl Try.prog 133=some [.nilF]:=by kernel_rfl
def tq133:=And.intro @sz133 (And.intro @pt133 (And.intro @bt133 (@zr133)))
theorem sz140:zG Try.prog 140=some 1:=by kernel_rfl
theorem bt140:z8 Try.prog 140=some 8:=by kernel_rfl
theorem pt140 (cs:List AV) (o:Nat):zy Try.prog 140 cs o=cs[o]?:=yu Try.underlying140 rfl cs o
theorem zr140:yl Try.prog 140=some [.nilM]:=by kernel_rfl
def zp8:=And.intro @sz140 (And.intro @pt140 (And.intro @bt140 (@zr140)))
theorem sz145:zG Try.prog 145=some 1:=by kernel_rfl
theorem bt145:z8 Try.prog 145=some 8:=by kernel_rfl
theorem pt145 (cs:List AV) (o:Nat):zy Try.prog 145 cs o=cs[o]?:=yu Try.underlying145 rfl cs o
theorem zr145:yl Try.prog 145=some [(.int .u64 0)]:=by kernel_rfl
def tq145:=And.intro @sz145 (And.intro @pt145 (And.intro @bt145 (@zr145)))
theorem sz147:zG Try.prog 147=some 4:=by kernel_rfl
theorem bt147:z8 Try.prog 147=some 96:=by kernel_rfl
theorem pt147 (cs:List AV) (o:Nat):zy Try.prog 147 cs o=yL 4 (cs.drop o):=jD Try.underlying147 rfl sz147 cs o
theorem zr147:yl Try.prog 147=some [.nilS,.nilS,.nilS,.nilS]:=by kernel_rfl
theorem zp9 (r o:Nat):zg Try.prog 147 (.ptr r o) 0=some (.ptr r (o+0)):=by kernel_rfl
theorem zqa (cs:List AV):zg Try.prog 147 (.iptr cs) 0=some (.iptr (cs.drop 0)):=by kernel_rfl
theorem zug (cs:List AV):zN Try.prog 147 (.agg cs) 0=zy Try.prog 47 cs 0:=by kernel_rfl
theorem zqb (r o:Nat):zg Try.prog 147 (.ptr r o) 1=some (.ptr r (o+1)):=by kernel_rfl
theorem zqc (cs:List AV):zg Try.prog 147 (.iptr cs) 1=some (.iptr (cs.drop 1)):=by kernel_rfl
theorem zuh (cs:List AV):zN Try.prog 147 (.agg cs) 1=zy Try.prog 47 cs 1:=by kernel_rfl
theorem zqd (r o:Nat):zg Try.prog 147 (.ptr r o) 2=some (.ptr r (o+2)):=by kernel_rfl
theorem zqe (cs:List AV):zg Try.prog 147 (.iptr cs) 2=some (.iptr (cs.drop 2)):=by kernel_rfl
theorem zui (cs:List AV):zN Try.prog 147 (.agg cs) 2=zy Try.prog 42 cs 2:=by kernel_rfl
def tq147:=And.intro @sz147 (And.intro @pt147 (And.intro @bt147 (And.intro @zr147 (And.intro @zp9 (And.intro @zqa (And.intro @zug (And.intro @zqb (And.intro @zqc (And.intro @zuh (And.intro @zqd (And.intro @zqe (@zui))))))))))))
theorem sz154:zG Try.prog 154=some 1:=by kernel_rfl
theorem bt154:z8 Try.prog 154=some 24:=by kernel_rfl
theorem pt154 (cs:List AV) (o:Nat):zy Try.prog 154 cs o=cs[o]?:=yu Try.underlying154 rfl cs o
theorem zr154:yl Try.prog 154=some [.nilS]:=by kernel_rfl
theorem ix154l (xs:List (List AV)) {n:Int} (hn:0≤n) (k:IntKind):zq Try.prog 154 (.lst xs) (.int k n)=zeu 1 (xs[n.toNat]?):=jc Try.underlying154 (show zG Try.prog 2=some 1 from by kernel_rfl) xs hn k
theorem ix154s (r o l z:Nat) {n:Int} (hn:0≤n) (k:IntKind):zq Try.prog 154 (.sl r o l z) (.int k n)=bif decide (n.toNat < l)then some (.ptr r (o+n.toNat * 1))else none:=jz Try.underlying154 (show zG Try.prog 2=some 1 from by kernel_rfl) r o l z hn k
theorem ln154l (H:Hp) (xs:List (List AV)):ye Try.prog H 154 (.lst xs)=some (.int .i64 xs.length):=jk Try.underlying154 xs
theorem ln154s (H:Hp) (r o n z:Nat):ye Try.prog H 154 (.sl r o n z)=some (.int .i64 n):=jq Try.underlying154 r o n z
theorem ln154n (H:Hp):ye Try.prog H 154 .nilS=some (.int .i64 0):=ja Try.underlying154
def tq154:=And.intro @sz154 (And.intro @pt154 (And.intro @bt154 (And.intro @zr154 (And.intro @ix154l (And.intro @ix154s (And.intro @ln154l (And.intro @ln154s (@ln154n))))))))
theorem sz162:zG Try.prog 162=some 8:=by kernel_rfl
theorem bt162:z8 Try.prog 162=some 8:=by kernel_rfl
theorem pt162 (cs:List AV) (o:Nat):zy Try.prog 162 cs o=yL 8 (cs.drop o):=jD Try.underlying162 rfl sz162 cs o
theorem zr162:yl Try.prog 162=some [(.bool false),(.bool false),(.bool false),(.bool false),(.bool false),(.bool false),(.bool false),(.bool false)]:=by kernel_rfl
theorem zqf (r o:Nat):zg Try.prog 162 (.ptr r o) 0=some (.ptr r (o+0)):=by kernel_rfl
theorem zqg (cs:List AV):zg Try.prog 162 (.iptr cs) 0=some (.iptr (cs.drop 0)):=by kernel_rfl
theorem zuj (cs:List AV):zN Try.prog 162 (.agg cs) 0=zy Try.prog 4 cs 0:=by kernel_rfl
theorem zqh (r o:Nat):zg Try.prog 162 (.ptr r o) 1=some (.ptr r (o+1)):=by kernel_rfl
theorem zqi (cs:List AV):zg Try.prog 162 (.iptr cs) 1=some (.iptr (cs.drop 1)):=by kernel_rfl
theorem zuk (cs:List AV):zN Try.prog 162 (.agg cs) 1=zy Try.prog 4 cs 1:=by kernel_rfl
theorem zqj (r o:Nat):zg Try.prog 162 (.ptr r o) 2=some (.ptr r (o+2)):=by kernel_rfl
theorem zqk (cs:List AV):zg Try.prog 162 (.iptr cs) 2=some (.iptr (cs.drop 2)):=by kernel_rfl
theorem zul (cs:List AV):zN Try.prog 162 (.agg cs) 2=zy Try.prog 4 cs 2:=by kernel_rfl
theorem zql (r o:Nat):zg Try.prog 162 (.ptr r o) 3=some (.ptr r (o+3)):=by kernel_rfl
theorem zqm (cs:List AV):zg Try.prog 162 (.iptr cs) 3=some (.iptr (cs.drop 3)):=by kernel_rfl
theorem zum (cs:List AV):zN Try.prog 162 (.agg cs) 3=zy Try.prog 4 cs 3:=by kernel_rfl
theorem zqn (r o:Nat):zg Try.prog 162 (.ptr r o) 4=some (.ptr r (o+4)):=by kernel_rfl
theorem zqo (cs:List AV):zg Try.prog 162 (.iptr cs) 4=some (.iptr (cs.drop 4)):=by kernel_rfl
theorem zun (cs:List AV):zN Try.prog 162 (.agg cs) 4=zy Try.prog 4 cs 4:=by kernel_rfl
theorem zqp (r o:Nat):zg Try.prog 162 (.ptr r o) 5=some (.ptr r (o+5)):=by kernel_rfl
theorem zqq (cs:List AV):zg Try.prog 162 (.iptr cs) 5=some (.iptr (cs.drop 5)):=by kernel_rfl
theorem zuo (cs:List AV):zN Try.prog 162 (.agg cs) 5=zy Try.prog 4 cs 5:=by kernel_rfl
theorem zqr (r o:Nat):zg Try.prog 162 (.ptr r o) 6=some (.ptr r (o+6)):=by kernel_rfl
theorem zqs (cs:List AV):zg Try.prog 162 (.iptr cs) 6=some (.iptr (cs.drop 6)):=by kernel_rfl
theorem zup (cs:List AV):zN Try.prog 162 (.agg cs) 6=zy Try.prog 4 cs 6:=by kernel_rfl
theorem zqt (r o:Nat):zg Try.prog 162 (.ptr r o) 7=some (.ptr r (o+7)):=by kernel_rfl
theorem zqu (cs:List AV):zg Try.prog 162 (.iptr cs) 7=some (.iptr (cs.drop 7)):=by kernel_rfl
theorem zuq (cs:List AV):zN Try.prog 162 (.agg cs) 7=zy Try.prog 4 cs 7:=by kernel_rfl
def tq162:=And.intro @sz162 (And.intro @pt162 (And.intro @bt162 (And.intro @zr162 (And.intro @zqf (And.intro @zqg (And.intro @zuj (And.intro @zqh (And.intro @zqi (And.intro @zuk (And.intro @zqj (And.intro @zqk (And.intro @zul (And.intro @zql (And.intro @zqm (And.intro @zum (And.intro @zqn (And.intro @zqo (And.intro @zun (And.intro @zqp (And.intro @zqq (And.intro @zuo (And.intro @zqr (And.intro @zqs (And.intro @zup (And.intro @zqt (And.intro @zqu (@zuq)))))))))))))))))))))))))))
theorem sz167:zG Try.prog 167=some 1:=by kernel_rfl
theorem bt167:z8 Try.prog 167=some 24:=by kernel_rfl
theorem pt167 (cs:List AV) (o:Nat):zy Try.prog 167 cs o=cs[o]?:=yu Try.underlying167 rfl cs o
theorem zr167:yl Try.prog 167=some [.nilS]:=by kernel_rfl
theorem ix167l (xs:List (List AV)) {n:Int} (hn:0≤n) (k:IntKind):zq Try.prog 167 (.lst xs) (.int k n)=zeu 1 (xs[n.toNat]?):=jc Try.underlying167 (show zG Try.prog 47=some 1 from by kernel_rfl) xs hn k
theorem ix167s (r o l z:Nat) {n:Int} (hn:0≤n) (k:IntKind):zq Try.prog 167 (.sl r o l z) (.int k n)=bif decide (n.toNat < l)then some (.ptr r (o+n.toNat * 1))else none:=jz Try.underlying167 (show zG Try.prog 47=some 1 from by kernel_rfl) r o l z hn k
theorem ln167l (H:Hp) (xs:List (List AV)):ye Try.prog H 167 (.lst xs)=some (.int .i64 xs.length):=jk Try.underlying167 xs
theorem ln167s (H:Hp) (r o n z:Nat):ye Try.prog H 167 (.sl r o n z)=some (.int .i64 n):=jq Try.underlying167 r o n z
theorem ln167n (H:Hp):ye Try.prog H 167 .nilS=some (.int .i64 0):=ja Try.underlying167
def zqv:=And.intro @sz167 (And.intro @pt167 (And.intro @bt167 (And.intro @zr167 (And.intro @ix167l (And.intro @ix167s (And.intro @ln167l (And.intro @ln167s (@ln167n))))))))
theorem sz182:zG Try.prog 182=some 7:=by kernel_rfl
theorem bt182:z8 Try.prog 182=some 112:=by kernel_rfl
theorem pt182 (cs:List AV) (o:Nat):zy Try.prog 182 cs o=yL 7 (cs.drop o):=jD Try.underlying182 rfl sz182 cs o
theorem zr182:yl Try.prog 182=some [(.str []),(.str []),(.str []),(.str []),(.str []),(.str []),(.str [])]:=by kernel_rfl
def tq182:=And.intro @sz182 (And.intro @pt182 (And.intro @bt182 (@zr182)))
theorem znH (H:Hp) (k:IntKind) (n:Int):jo Try.prog H 2 121 (.int k n)=some (.int .u64 (IntKind.wrap .u64 n)):=by cases k<;>kernel_rfl
theorem cv3_5 (H:Hp) (k:IntKind) (n:Int):jo Try.prog H 3 5 (.int k n)=some (.int .u8 (IntKind.wrap .u8 n)):=by cases k<;>kernel_rfl
theorem znI (H:Hp) (k:IntKind) (n:Int):jo Try.prog H 3 121 (.int k n)=some (.int .u64 (IntKind.wrap .u64 n)):=by cases k<;>kernel_rfl
theorem znJ (H:Hp) (k:IntKind) (n:Int):jo Try.prog H 3 145 (.int k n)=some (.int .u64 (IntKind.wrap .u64 n)):=by cases k<;>kernel_rfl
theorem znK (H:Hp) (k:IntKind) (n:Int):jo Try.prog H 121 5 (.int k n)=some (.int .u8 (IntKind.wrap .u8 n)):=by cases k<;>kernel_rfl
end Go.Proofs.Ytpbcimfiofmoeaa
namespace Go.Ab
set_option maxRecDepth 20000
open Go
variable {P:Program} {cfg:Cfg} {f N:Nat}
theorem yd {a:SC}{E:Env}{H:Hp}{Q:AX→Env→Hp→Prop} (cs rs:List Nat) (slot n:Nat) (J:Nat→Env→Hp→Prop) (h0:E.at slot=.int .i64 0) (hJ:J 0 E H)
 (h:∀ (i:Nat) (E':Env) (H':Hp),i≤n→(∀ k∈cs,E'.at k=E.at k)→(∀ r∈rs,H'.get r=H.get r)→H.next≤H'.next→E'.at slot=.int .i64 i→J i E' H' →
   Wp P cfg f N a E' H' (zb9 Q fun E2 H2=>i < n∧(∀ k∈cs,E2.at k=E.at k)∧(∀ r∈rs,H2.get r=H.get r)∧H.next≤H2.next∧E2.at slot=.int .i64 ((i+1:Nat):Int)∧J (i+1) E2 H2)):Wp P cfg f N (.loop a) E H Q:=
 zaq (fun i E' H'=>(∀ k∈cs,E'.at k=E.at k)∧(∀ r∈rs,H'.get r=H.get r)∧H.next≤H'.next∧E'.at slot=.int .i64 i∧J i E' H') n (fun i E' H' hi ⟨h1,h2,h3,h4,h5⟩=>h i E' H' hi h1 h2 h3 h4 h5) ⟨fun _ _=>rfl,fun _ _=>rfl,Nat.le_refl _,h0,hJ⟩
theorem zur {a:SC}{E:Env}{H:Hp}{Q:AX→Env→Hp→Prop} (cs rs:List Nat) (J:Nat→Env→Hp→Prop) (n:Nat) (hJ:J n E H)
 (h:∀ (i:Nat) (E':Env) (H':Hp),(∀ k∈cs,E'.at k=E.at k)→(∀ r∈rs,H'.get r=H.get r)→H.next≤H'.next→J i E' H' →
   Wp P cfg f N a E' H' (zb9 Q fun E2 H2=>(∀ k∈cs,E2.at k=E.at k)∧(∀ r∈rs,H2.get r=H.get r)∧H.next≤H2.next∧∃ m,m < i∧J m E2 H2)):Wp P cfg f N (.loop a) E H Q:=
 Wp.loop (fun i E' H'=>(∀ k∈cs,E'.at k=E.at k)∧(∀ r∈rs,H'.get r=H.get r)∧H.next≤H'.next∧J i E' H') (fun i E' H' ⟨h1,h2,h3,h4⟩=>Wp.mono (fun x E2 H2 hq=>by
  cases x with
  | normal=>obtain⟨q1,q2,q3,m,q4,q5⟩:=hq;exact⟨m,q4,q1,q2,q3,q5⟩
  | exit id=>exact hq
  | ret=>exact hq) (h i E' H' h1 h2 h3 h4)) (n:=n) ⟨fun _ _=>rfl,fun _ _=>rfl,Nat.le_refl _,hJ⟩
theorem zi {p:Nat→Prop}{a:Nat}{l:List Nat}:(∀ k∈a::l,p k)↔p a∧∀ k∈l,p k:=List.forall_mem_cons
theorem zl {p:Nat→Prop}:(∀ k∈([]:List Nat),p k)↔True:=⟨fun _=>trivial,fun _ _ h=>by simp at h⟩
theorem zP {a b:Nat} (h:a≠b):(a == b)=false:=by simpa using h
theorem zT {i n:Nat} (h:i < n) (hn:n < 2 ^ 62):AV.int .i64 (IntKind.wrap .i64 ((i:Int)+1))=.int .i64 ((i+1:Nat):Int):=by rw[z9 (by omega)]
end Go.Ab
