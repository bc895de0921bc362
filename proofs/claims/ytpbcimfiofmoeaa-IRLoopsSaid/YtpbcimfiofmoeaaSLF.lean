/- Parts: Facts, AbFor. -/
import Derived.KernelRfl
import Derived.Test.YtpbcimfiofmoeaaRows
import Derived.Test.YtpbcimfiofmoeaaSLE
set_option linter.unusedSimpArgs false
set_option linter.unusedVariables false
set_option linter.unusedSectionVars false
set_option linter.defProp false
set_option maxHeartbeats 32000000
namespace Go.Proofs.Ytpbcimfiofmoeaa
set_option maxRecDepth 20000
open Go Go.Ab
def sB:=And.intro @aeval_ns (And.intro @List.toList_toArray.{0} (And.intro @H0_next (And.intro @bsel_true (And.intro @bsel_false (And.intro @Bool.not_true (And.intro @Bool.not_false (And.intro @List.length_map.{0,0} (And.intro @Int.natCast_zero (And.intro @aeval_t (And.intro @aeval_i (And.intro @aeval_b (And.intro @aeval_f (And.intro @aeval_s (And.intro @at_set (And.intro @cond_true.{1} (And.intro @cond_false.{1} (@Nat.zero_add)))))))))))))))))
def sO:=And.intro @Ex.clen (And.intro @Ex.c0 (And.intro @Ex.c1 (And.intro @Ex.c2 (And.intro @Ex.c3 (And.intro @Ex.c4 (And.intro @Ex.whole (And.intro @Ex.one (And.intro @St.clen (And.intro @St.c0 (And.intro @St.c1 (And.intro @St.c2 (And.intro @St.c3 (And.intro @St.c4 (And.intro @St.c5 (And.intro @St.c6 (And.intro @St.c7 (And.intro @St.c8 (And.intro @St.c9 (And.intro @St.c10 (And.intro @St.c11 (And.intro @St.c12 (And.intro @St.c13 (And.intro @St.c14 (And.intro @St.c15 (And.intro @St.c16 (And.intro @St.whole (And.intro @St.one (And.intro @St.part_at_ (And.intro @St.part_value (And.intro @Fu.clen (And.intro @Fu.c0 (And.intro @Fu.c1 (And.intro @Fu.c2 (And.intro @Fu.c3 (And.intro @Fu.c4 (And.intro @Fu.c5 (And.intro @Fu.c6 (And.intro @Fu.c7 (And.intro @Fu.c8 (And.intro @Fu.whole (And.intro @Fu.one (And.intro @Fu.part_value (And.intro @Ar.clen (And.intro @Ar.c0 (And.intro @Ar.c1 (And.intro @Ar.whole (And.intro @Ar.one (And.intro @Pr.clen (And.intro @Pr.c0 (And.intro @Pr.c1 (And.intro @Pr.whole (And.intro @Pr.one (And.intro @Tk.clen (And.intro @Tk.c0 (And.intro @Tk.c1 (And.intro @Tk.c2 (And.intro @Tk.whole (And.intro @Tk.one (And.intro @Nd.clen (And.intro @Nd.c0 (And.intro @Nd.c1 (And.intro @Nd.c2 (And.intro @Nd.whole (And.intro @Nd.one (And.intro @Gr.clen (And.intro @Gr.c0 (And.intro @Gr.c1 (And.intro @Gr.c2 (And.intro @Gr.c3 (And.intro @Gr.c4 (And.intro @Gr.whole (And.intro @Gr.one (And.intro @Un.clen (And.intro @Un.c0 (And.intro @Un.c1 (And.intro @Un.whole (And.intro @Un.one (And.intro @sliceH_str (And.intro @sliceH_lst (And.intro @sliceH_sl (And.intro @sliceH_nil (And.intro @List.getElem?_drop.{0} (And.intro @Nat.add_zero (And.intro @if_true.{1} (And.intro @astore_p (And.intro @storeC_cells (And.intro @splice_eq (And.intro @cells_agg (And.intro @cells_int (And.intro @cells_bool (And.intro @cells_str (And.intro @cells_lst (And.intro @cells_sl (And.intro @cells_nilS (And.intro @cells_ptr (And.intro @cells_map (And.intro @cells_clo (And.intro @one_int (And.intro @one_bool (And.intro @one_str (And.intro @one_lst (And.intro @one_sl (And.intro @one_nilS (And.intro @one_ptr (And.intro @one_map (And.intro @one_clo (And.intro @List.all_cons.{0} (And.intro @List.all_nil.{0} (And.intro @Bool.and_true (And.intro @Bool.true_and (And.intro @and_true (And.intro @true_and (And.intro @Nat.zero_le (And.intro @Nat.le_refl (And.intro @List.nil_append.{0} (And.intro @List.append_nil.{0} (And.intro @List.cons_append.{0} (And.intro @Hp.next_alloc (And.intro @Hp.next_set (And.intro @H0_next (And.intro @beq_self_eq_true.{0} (And.intro @nb1 (And.intro @nb2 (And.intro @nb3 (And.intro @Nat.add_assoc (And.intro @List.getElem?_map.{0,0} (And.intro @Option.map_some.{0,0} (And.intro @aload_p (And.intro @aload_c (And.intro @loadC_cells (And.intro @rowA_some (And.intro @byteA_some (And.intro @get_set (And.intro @get_alloc (And.intro @List.getElem?_cons_succ.{0} (And.intro @List.getElem?_cons_zero.{0} (And.intro @List.drop_succ_cons.{0} (And.intro @List.drop_zero.{0} (And.intro @List.take_succ_cons.{0} (And.intro @List.take_zero.{0} (And.intro @List.length_cons.{0} (And.intro @List.length_nil.{0} (And.intro @Int.natCast_nonneg (And.intro @Int.toNat_natCast (And.intro @bin_add (And.intro @bin_sub (And.intro @bin_mul (And.intro @bin_and (And.intro @bin_or (And.intro @bin_xor (And.intro @bin_eql (And.intro @bin_neq (And.intro @bin_lss (And.intro @bin_leq (And.intro @bin_gtr (And.intro @bin_geq (And.intro @bin_seq (And.intro @bin_sne (And.intro @un_not (@un_neg))))))))))))))))))))))))))))))))))))))))))))))))))))))))))))))))))))))))))))))))))))))))))))))))))))))))))))))))))))))))))))))))))))))))))))))))))))))))))))))))
structure Plain (cfg:Cfg) (f:FuncId):Prop where
 call:∀ args,cfg.call f args=none
 ice:cfg.ice f=false
 froz:cfg.froz f=false
theorem sz2:sizeA Try.prog 2=some 1:=by kernel_rfl
theorem bt2:bytesA Try.prog 2=some 8:=by kernel_rfl
theorem pt2 (cs:List AV) (o:Nat):partA Try.prog 2 cs o=cs[o]?:=part_one Try.underlying2 rfl cs o
theorem zr2:zeroA Try.prog 2=some [(.int .i64 0)]:=by kernel_rfl
def tq2:=And.intro @sz2 (And.intro @pt2 (And.intro @bt2 (@zr2)))
theorem sz3:sizeA Try.prog 3=some 1:=by kernel_rfl
theorem bt3:bytesA Try.prog 3=some 8:=by kernel_rfl
theorem pt3 (cs:List AV) (o:Nat):partA Try.prog 3 cs o=cs[o]?:=part_one Try.underlying3 rfl cs o
theorem zr3:zeroA Try.prog 3=some [(.int .i64 0)]:=by kernel_rfl
def tq3:=And.intro @sz3 (And.intro @pt3 (And.intro @bt3 (@zr3)))
theorem sz4:sizeA Try.prog 4=some 1:=by kernel_rfl
theorem bt4:bytesA Try.prog 4=some 1:=by kernel_rfl
theorem pt4 (cs:List AV) (o:Nat):partA Try.prog 4 cs o=cs[o]?:=part_one Try.underlying4 rfl cs o
theorem zr4:zeroA Try.prog 4=some [(.bool false)]:=by kernel_rfl
def tq4:=And.intro @sz4 (And.intro @pt4 (And.intro @bt4 (@zr4)))
theorem sz5:sizeA Try.prog 5=some 1:=by kernel_rfl
theorem bt5:bytesA Try.prog 5=some 1:=by kernel_rfl
theorem pt5 (cs:List AV) (o:Nat):partA Try.prog 5 cs o=cs[o]?:=part_one Try.underlying5 rfl cs o
theorem zr5:zeroA Try.prog 5=some [(.int .u8 0)]:=by kernel_rfl
def tq5:=And.intro @sz5 (And.intro @pt5 (And.intro @bt5 (@zr5)))
theorem sz9:sizeA Try.prog 9=some 1:=by kernel_rfl
theorem bt9:bytesA Try.prog 9=some 16:=by kernel_rfl
theorem pt9 (cs:List AV) (o:Nat):partA Try.prog 9 cs o=cs[o]?:=part_one Try.underlying9 rfl cs o
theorem zr9:zeroA Try.prog 9=some [(.str [])]:=by kernel_rfl
theorem ln9 (H:Hp) (s:List UInt8):lenAt Try.prog H 9 (.str s)=some (.int .i64 s.length):=lenAt_str Try.underlying9 s
theorem ix9 (s:List UInt8) {n:Int} (hn:0 ≤ n) (k:IntKind):indexA Try.prog 9 (.str s) (.int k n)=byteA (s[n.toNat]?):=index_str Try.underlying9 s hn k
def tq9:=And.intro @sz9 (And.intro @pt9 (And.intro @bt9 (And.intro @zr9 (And.intro @ln9 (@ix9)))))
theorem sz23:sizeA Try.prog 23=some 1:=by kernel_rfl
theorem bt23:bytesA Try.prog 23=some 24:=by kernel_rfl
theorem pt23 (cs:List AV) (o:Nat):partA Try.prog 23 cs o=cs[o]?:=part_one Try.underlying23 rfl cs o
theorem zr23:zeroA Try.prog 23=some [.nilS]:=by kernel_rfl
theorem ix23l (xs:List (List AV)) {n:Int} (hn:0 ≤ n) (k:IntKind):indexAddrA Try.prog 23 (.lst xs) (.int k n)=rowA 1 (xs[n.toNat]?):=index_lst' Try.underlying23 (show sizeA Try.prog 3=some 1 from by kernel_rfl) xs hn k
theorem ix23s (r o l z:Nat) {n:Int} (hn:0 ≤ n) (k:IntKind):indexAddrA Try.prog 23 (.sl r o l z) (.int k n)=bif decide (n.toNat < l) then some (.ptr r (o + n.toNat * 1)) else none:=index_sl' Try.underlying23 (show sizeA Try.prog 3=some 1 from by kernel_rfl) r o l z hn k
theorem ln23l (H:Hp) (xs:List (List AV)):lenAt Try.prog H 23 (.lst xs)=some (.int .i64 xs.length):=lenAt_lst Try.underlying23 xs
theorem ln23s (H:Hp) (r o n z:Nat):lenAt Try.prog H 23 (.sl r o n z)=some (.int .i64 n):=lenAt_sl Try.underlying23 r o n z
theorem ln23n (H:Hp):lenAt Try.prog H 23 .nilS=some (.int .i64 0):=lenAt_nil Try.underlying23
def tq23:=And.intro @sz23 (And.intro @pt23 (And.intro @bt23 (And.intro @zr23 (And.intro @ix23l (And.intro @ix23s (And.intro @ln23l (And.intro @ln23s (@ln23n))))))))
theorem sz25:sizeA Try.prog 25=some 3:=by kernel_rfl
theorem bt25:bytesA Try.prog 25=some 40:=by kernel_rfl
theorem pt25 (cs:List AV) (o:Nat):partA Try.prog 25 cs o=aggA 3 (cs.drop o):=part_agg Try.underlying25 rfl sz25 cs o
theorem zr25:zeroA Try.prog 25=some [(.int .i64 0),(.int .i64 0),.nilS]:=by kernel_rfl
theorem fa25_0p (r o:Nat):fieldAddrA Try.prog 25 (.ptr r o) 0=some (.ptr r (o + 0)):=by kernel_rfl
theorem fa25_0c (cs:List AV):fieldAddrA Try.prog 25 (.iptr cs) 0=some (.iptr (cs.drop 0)):=by kernel_rfl
theorem fd25_0 (cs:List AV):fieldA Try.prog 25 (.agg cs) 0=partA Try.prog 3 cs 0:=by kernel_rfl
theorem fa25_1p (r o:Nat):fieldAddrA Try.prog 25 (.ptr r o) 1=some (.ptr r (o + 1)):=by kernel_rfl
theorem fa25_1c (cs:List AV):fieldAddrA Try.prog 25 (.iptr cs) 1=some (.iptr (cs.drop 1)):=by kernel_rfl
theorem fd25_1 (cs:List AV):fieldA Try.prog 25 (.agg cs) 1=partA Try.prog 2 cs 1:=by kernel_rfl
theorem fa25_2p (r o:Nat):fieldAddrA Try.prog 25 (.ptr r o) 2=some (.ptr r (o + 2)):=by kernel_rfl
theorem fa25_2c (cs:List AV):fieldAddrA Try.prog 25 (.iptr cs) 2=some (.iptr (cs.drop 2)):=by kernel_rfl
theorem fd25_2 (cs:List AV):fieldA Try.prog 25 (.agg cs) 2=partA Try.prog 23 cs 2:=by kernel_rfl
def tq25:=And.intro @sz25 (And.intro @pt25 (And.intro @bt25 (And.intro @zr25 (And.intro @fa25_0p (And.intro @fa25_0c (And.intro @fd25_0 (And.intro @fa25_1p (And.intro @fa25_1c (And.intro @fd25_1 (And.intro @fa25_2p (And.intro @fa25_2c (@fd25_2))))))))))))
theorem sz26:sizeA Try.prog 26=some 1:=by kernel_rfl
theorem bt26:bytesA Try.prog 26=some 24:=by kernel_rfl
theorem pt26 (cs:List AV) (o:Nat):partA Try.prog 26 cs o=cs[o]?:=part_one Try.underlying26 rfl cs o
theorem zr26:zeroA Try.prog 26=some [.nilS]:=by kernel_rfl
theorem ix26l (xs:List (List AV)) {n:Int} (hn:0 ≤ n) (k:IntKind):indexAddrA Try.prog 26 (.lst xs) (.int k n)=rowA 3 (xs[n.toNat]?):=index_lst' Try.underlying26 (show sizeA Try.prog 25=some 3 from by kernel_rfl) xs hn k
theorem ix26s (r o l z:Nat) {n:Int} (hn:0 ≤ n) (k:IntKind):indexAddrA Try.prog 26 (.sl r o l z) (.int k n)=bif decide (n.toNat < l) then some (.ptr r (o + n.toNat * 3)) else none:=index_sl' Try.underlying26 (show sizeA Try.prog 25=some 3 from by kernel_rfl) r o l z hn k
theorem ln26l (H:Hp) (xs:List (List AV)):lenAt Try.prog H 26 (.lst xs)=some (.int .i64 xs.length):=lenAt_lst Try.underlying26 xs
theorem ln26s (H:Hp) (r o n z:Nat):lenAt Try.prog H 26 (.sl r o n z)=some (.int .i64 n):=lenAt_sl Try.underlying26 r o n z
theorem ln26n (H:Hp):lenAt Try.prog H 26 .nilS=some (.int .i64 0):=lenAt_nil Try.underlying26
def tq26:=And.intro @sz26 (And.intro @pt26 (And.intro @bt26 (And.intro @zr26 (And.intro @ix26l (And.intro @ix26s (And.intro @ln26l (And.intro @ln26s (@ln26n))))))))
theorem sz28:sizeA Try.prog 28=some 5:=by kernel_rfl
theorem bt28:bytesA Try.prog 28=some 64:=by kernel_rfl
theorem pt28 (cs:List AV) (o:Nat):partA Try.prog 28 cs o=aggA 5 (cs.drop o):=part_agg Try.underlying28 rfl sz28 cs o
theorem zr28:zeroA Try.prog 28=some [(.str []),(.int .i64 0),.nilS,(.int .i64 0),(.int .i64 0)]:=by kernel_rfl
theorem fa28_0p (r o:Nat):fieldAddrA Try.prog 28 (.ptr r o) 0=some (.ptr r (o + 0)):=by kernel_rfl
theorem fa28_0c (cs:List AV):fieldAddrA Try.prog 28 (.iptr cs) 0=some (.iptr (cs.drop 0)):=by kernel_rfl
theorem fd28_0 (cs:List AV):fieldA Try.prog 28 (.agg cs) 0=partA Try.prog 9 cs 0:=by kernel_rfl
theorem fa28_1p (r o:Nat):fieldAddrA Try.prog 28 (.ptr r o) 1=some (.ptr r (o + 1)):=by kernel_rfl
theorem fa28_1c (cs:List AV):fieldAddrA Try.prog 28 (.iptr cs) 1=some (.iptr (cs.drop 1)):=by kernel_rfl
theorem fd28_1 (cs:List AV):fieldA Try.prog 28 (.agg cs) 1=partA Try.prog 3 cs 1:=by kernel_rfl
theorem fa28_2p (r o:Nat):fieldAddrA Try.prog 28 (.ptr r o) 2=some (.ptr r (o + 2)):=by kernel_rfl
theorem fa28_2c (cs:List AV):fieldAddrA Try.prog 28 (.iptr cs) 2=some (.iptr (cs.drop 2)):=by kernel_rfl
theorem fd28_2 (cs:List AV):fieldA Try.prog 28 (.agg cs) 2=partA Try.prog 26 cs 2:=by kernel_rfl
theorem fa28_3p (r o:Nat):fieldAddrA Try.prog 28 (.ptr r o) 3=some (.ptr r (o + 3)):=by kernel_rfl
theorem fa28_3c (cs:List AV):fieldAddrA Try.prog 28 (.iptr cs) 3=some (.iptr (cs.drop 3)):=by kernel_rfl
theorem fd28_3 (cs:List AV):fieldA Try.prog 28 (.agg cs) 3=partA Try.prog 3 cs 3:=by kernel_rfl
theorem fa28_4p (r o:Nat):fieldAddrA Try.prog 28 (.ptr r o) 4=some (.ptr r (o + 4)):=by kernel_rfl
theorem fa28_4c (cs:List AV):fieldAddrA Try.prog 28 (.iptr cs) 4=some (.iptr (cs.drop 4)):=by kernel_rfl
theorem fd28_4 (cs:List AV):fieldA Try.prog 28 (.agg cs) 4=partA Try.prog 3 cs 4:=by kernel_rfl
def tq28:=And.intro @sz28 (And.intro @pt28 (And.intro @bt28 (And.intro @zr28 (And.intro @fa28_0p (And.intro @fa28_0c (And.intro @fd28_0 (And.intro @fa28_1p (And.intro @fa28_1c (And.intro @fd28_1 (And.intro @fa28_2p (And.intro @fa28_2c (And.intro @fd28_2 (And.intro @fa28_3p (And.intro @fa28_3c (And.intro @fd28_3 (And.intro @fa28_4p (And.intro @fa28_4c (@fd28_4))))))))))))))))))
theorem sz31:sizeA Try.prog 31=some 1:=by kernel_rfl
theorem bt31:bytesA Try.prog 31=some 24:=by kernel_rfl
theorem pt31 (cs:List AV) (o:Nat):partA Try.prog 31 cs o=cs[o]?:=part_one Try.underlying31 rfl cs o
theorem zr31:zeroA Try.prog 31=some [.nilS]:=by kernel_rfl
theorem ix31l (xs:List (List AV)) {n:Int} (hn:0 ≤ n) (k:IntKind):indexAddrA Try.prog 31 (.lst xs) (.int k n)=rowA 5 (xs[n.toNat]?):=index_lst' Try.underlying31 (show sizeA Try.prog 28=some 5 from by kernel_rfl) xs hn k
theorem ix31s (r o l z:Nat) {n:Int} (hn:0 ≤ n) (k:IntKind):indexAddrA Try.prog 31 (.sl r o l z) (.int k n)=bif decide (n.toNat < l) then some (.ptr r (o + n.toNat * 5)) else none:=index_sl' Try.underlying31 (show sizeA Try.prog 28=some 5 from by kernel_rfl) r o l z hn k
theorem ln31l (H:Hp) (xs:List (List AV)):lenAt Try.prog H 31 (.lst xs)=some (.int .i64 xs.length):=lenAt_lst Try.underlying31 xs
theorem ln31s (H:Hp) (r o n z:Nat):lenAt Try.prog H 31 (.sl r o n z)=some (.int .i64 n):=lenAt_sl Try.underlying31 r o n z
theorem ln31n (H:Hp):lenAt Try.prog H 31 .nilS=some (.int .i64 0):=lenAt_nil Try.underlying31
def tq31:=And.intro @sz31 (And.intro @pt31 (And.intro @bt31 (And.intro @zr31 (And.intro @ix31l (And.intro @ix31s (And.intro @ln31l (And.intro @ln31s (@ln31n))))))))
theorem sz32:sizeA Try.prog 32=some 1:=by kernel_rfl
theorem bt32:bytesA Try.prog 32=some 24:=by kernel_rfl
theorem pt32 (cs:List AV) (o:Nat):partA Try.prog 32 cs o=cs[o]?:=part_one Try.underlying32 rfl cs o
theorem zr32:zeroA Try.prog 32=some [.nilS]:=by kernel_rfl
theorem ix32l (xs:List (List AV)) {n:Int} (hn:0 ≤ n) (k:IntKind):indexAddrA Try.prog 32 (.lst xs) (.int k n)=rowA 2 (xs[n.toNat]?):=index_lst' Try.underlying32 (show sizeA Try.prog 74=some 2 from by kernel_rfl) xs hn k
theorem ix32s (r o l z:Nat) {n:Int} (hn:0 ≤ n) (k:IntKind):indexAddrA Try.prog 32 (.sl r o l z) (.int k n)=bif decide (n.toNat < l) then some (.ptr r (o + n.toNat * 2)) else none:=index_sl' Try.underlying32 (show sizeA Try.prog 74=some 2 from by kernel_rfl) r o l z hn k
theorem ln32l (H:Hp) (xs:List (List AV)):lenAt Try.prog H 32 (.lst xs)=some (.int .i64 xs.length):=lenAt_lst Try.underlying32 xs
theorem ln32s (H:Hp) (r o n z:Nat):lenAt Try.prog H 32 (.sl r o n z)=some (.int .i64 n):=lenAt_sl Try.underlying32 r o n z
theorem ln32n (H:Hp):lenAt Try.prog H 32 .nilS=some (.int .i64 0):=lenAt_nil Try.underlying32
def tq32:=And.intro @sz32 (And.intro @pt32 (And.intro @bt32 (And.intro @zr32 (And.intro @ix32l (And.intro @ix32s (And.intro @ln32l (And.intro @ln32s (@ln32n))))))))
theorem sz34:sizeA Try.prog 34=some 2:=by kernel_rfl
theorem bt34:bytesA Try.prog 34=some 48:=by kernel_rfl
theorem pt34 (cs:List AV) (o:Nat):partA Try.prog 34 cs o=aggA 2 (cs.drop o):=part_agg Try.underlying34 rfl sz34 cs o
theorem zr34:zeroA Try.prog 34=some [.nilS,.nilS]:=by kernel_rfl
theorem fa34_0p (r o:Nat):fieldAddrA Try.prog 34 (.ptr r o) 0=some (.ptr r (o + 0)):=by kernel_rfl
theorem fa34_0c (cs:List AV):fieldAddrA Try.prog 34 (.iptr cs) 0=some (.iptr (cs.drop 0)):=by kernel_rfl
theorem fd34_0 (cs:List AV):fieldA Try.prog 34 (.agg cs) 0=partA Try.prog 32 cs 0:=by kernel_rfl
theorem fa34_1p (r o:Nat):fieldAddrA Try.prog 34 (.ptr r o) 1=some (.ptr r (o + 1)):=by kernel_rfl
theorem fa34_1c (cs:List AV):fieldAddrA Try.prog 34 (.iptr cs) 1=some (.iptr (cs.drop 1)):=by kernel_rfl
theorem fd34_1 (cs:List AV):fieldA Try.prog 34 (.agg cs) 1=partA Try.prog 31 cs 1:=by kernel_rfl
def tq34:=And.intro @sz34 (And.intro @pt34 (And.intro @bt34 (And.intro @zr34 (And.intro @fa34_0p (And.intro @fa34_0c (And.intro @fd34_0 (And.intro @fa34_1p (And.intro @fa34_1c (@fd34_1)))))))))
theorem sz40:sizeA Try.prog 40=some 1:=by kernel_rfl
theorem bt40:bytesA Try.prog 40=some 24:=by kernel_rfl
theorem pt40 (cs:List AV) (o:Nat):partA Try.prog 40 cs o=cs[o]?:=part_one Try.underlying40 rfl cs o
theorem zr40:zeroA Try.prog 40=some [.nilS]:=by kernel_rfl
theorem ix40l (xs:List (List AV)) {n:Int} (hn:0 ≤ n) (k:IntKind):indexAddrA Try.prog 40 (.lst xs) (.int k n)=rowA 9 (xs[n.toNat]?):=index_lst' Try.underlying40 (show sizeA Try.prog 53=some 9 from by kernel_rfl) xs hn k
theorem ix40s (r o l z:Nat) {n:Int} (hn:0 ≤ n) (k:IntKind):indexAddrA Try.prog 40 (.sl r o l z) (.int k n)=bif decide (n.toNat < l) then some (.ptr r (o + n.toNat * 9)) else none:=index_sl' Try.underlying40 (show sizeA Try.prog 53=some 9 from by kernel_rfl) r o l z hn k
theorem ln40l (H:Hp) (xs:List (List AV)):lenAt Try.prog H 40 (.lst xs)=some (.int .i64 xs.length):=lenAt_lst Try.underlying40 xs
theorem ln40s (H:Hp) (r o n z:Nat):lenAt Try.prog H 40 (.sl r o n z)=some (.int .i64 n):=lenAt_sl Try.underlying40 r o n z
theorem ln40n (H:Hp):lenAt Try.prog H 40 .nilS=some (.int .i64 0):=lenAt_nil Try.underlying40
def tq40:=And.intro @sz40 (And.intro @pt40 (And.intro @bt40 (And.intro @zr40 (And.intro @ix40l (And.intro @ix40s (And.intro @ln40l (And.intro @ln40s (@ln40n))))))))
theorem sz42:sizeA Try.prog 42=some 2:=by kernel_rfl
theorem bt42:bytesA Try.prog 42=some 48:=by kernel_rfl
theorem pt42 (cs:List AV) (o:Nat):partA Try.prog 42 cs o=aggA 2 (cs.drop o):=part_agg Try.underlying42 rfl sz42 cs o
theorem zr42:zeroA Try.prog 42=some [.nilS,.nilS]:=by kernel_rfl
theorem fa42_0p (r o:Nat):fieldAddrA Try.prog 42 (.ptr r o) 0=some (.ptr r (o + 0)):=by kernel_rfl
theorem fa42_0c (cs:List AV):fieldAddrA Try.prog 42 (.iptr cs) 0=some (.iptr (cs.drop 0)):=by kernel_rfl
theorem fd42_0 (cs:List AV):fieldA Try.prog 42 (.agg cs) 0=partA Try.prog 32 cs 0:=by kernel_rfl
theorem fa42_1p (r o:Nat):fieldAddrA Try.prog 42 (.ptr r o) 1=some (.ptr r (o + 1)):=by kernel_rfl
theorem fa42_1c (cs:List AV):fieldAddrA Try.prog 42 (.iptr cs) 1=some (.iptr (cs.drop 1)):=by kernel_rfl
theorem fd42_1 (cs:List AV):fieldA Try.prog 42 (.agg cs) 1=partA Try.prog 40 cs 1:=by kernel_rfl
def tq42:=And.intro @sz42 (And.intro @pt42 (And.intro @bt42 (And.intro @zr42 (And.intro @fa42_0p (And.intro @fa42_0c (And.intro @fd42_0 (And.intro @fa42_1p (And.intro @fa42_1c (@fd42_1)))))))))
theorem sz44:sizeA Try.prog 44=some 1:=by kernel_rfl
theorem bt44:bytesA Try.prog 44=some 8:=by kernel_rfl
theorem pt44 (cs:List AV) (o:Nat):partA Try.prog 44 cs o=cs[o]?:=part_one Try.underlying44 rfl cs o
theorem zr44:zeroA Try.prog 44=some [(.int .i64 0)]:=by kernel_rfl
def tq44:=And.intro @sz44 (And.intro @pt44 (And.intro @bt44 (@zr44)))
theorem sz47:sizeA Try.prog 47=some 1:=by kernel_rfl
theorem bt47:bytesA Try.prog 47=some 24:=by kernel_rfl
theorem pt47 (cs:List AV) (o:Nat):partA Try.prog 47 cs o=cs[o]?:=part_one Try.underlying47 rfl cs o
theorem zr47:zeroA Try.prog 47=some [.nilS]:=by kernel_rfl
theorem ix47l (xs:List (List AV)) {n:Int} (hn:0 ≤ n) (k:IntKind):indexAddrA Try.prog 47 (.lst xs) (.int k n)=rowA 1 (xs[n.toNat]?):=index_lst' Try.underlying47 (show sizeA Try.prog 9=some 1 from by kernel_rfl) xs hn k
theorem ix47s (r o l z:Nat) {n:Int} (hn:0 ≤ n) (k:IntKind):indexAddrA Try.prog 47 (.sl r o l z) (.int k n)=bif decide (n.toNat < l) then some (.ptr r (o + n.toNat * 1)) else none:=index_sl' Try.underlying47 (show sizeA Try.prog 9=some 1 from by kernel_rfl) r o l z hn k
theorem ln47l (H:Hp) (xs:List (List AV)):lenAt Try.prog H 47 (.lst xs)=some (.int .i64 xs.length):=lenAt_lst Try.underlying47 xs
theorem ln47s (H:Hp) (r o n z:Nat):lenAt Try.prog H 47 (.sl r o n z)=some (.int .i64 n):=lenAt_sl Try.underlying47 r o n z
theorem ln47n (H:Hp):lenAt Try.prog H 47 .nilS=some (.int .i64 0):=lenAt_nil Try.underlying47
def tq47:=And.intro @sz47 (And.intro @pt47 (And.intro @bt47 (And.intro @zr47 (And.intro @ix47l (And.intro @ix47s (And.intro @ln47l (And.intro @ln47s (@ln47n))))))))
theorem sz48:sizeA Try.prog 48=some 1:=by kernel_rfl
theorem bt48:bytesA Try.prog 48=some 24:=by kernel_rfl
theorem pt48 (cs:List AV) (o:Nat):partA Try.prog 48 cs o=cs[o]?:=part_one Try.underlying48 rfl cs o
theorem zr48:zeroA Try.prog 48=some [.nilS]:=by kernel_rfl
theorem ix48l (xs:List (List AV)) {n:Int} (hn:0 ≤ n) (k:IntKind):indexAddrA Try.prog 48 (.lst xs) (.int k n)=rowA 17 (xs[n.toNat]?):=index_lst' Try.underlying48 (show sizeA Try.prog 55=some 17 from by kernel_rfl) xs hn k
theorem ix48s (r o l z:Nat) {n:Int} (hn:0 ≤ n) (k:IntKind):indexAddrA Try.prog 48 (.sl r o l z) (.int k n)=bif decide (n.toNat < l) then some (.ptr r (o + n.toNat * 17)) else none:=index_sl' Try.underlying48 (show sizeA Try.prog 55=some 17 from by kernel_rfl) r o l z hn k
theorem ln48l (H:Hp) (xs:List (List AV)):lenAt Try.prog H 48 (.lst xs)=some (.int .i64 xs.length):=lenAt_lst Try.underlying48 xs
theorem ln48s (H:Hp) (r o n z:Nat):lenAt Try.prog H 48 (.sl r o n z)=some (.int .i64 n):=lenAt_sl Try.underlying48 r o n z
theorem ln48n (H:Hp):lenAt Try.prog H 48 .nilS=some (.int .i64 0):=lenAt_nil Try.underlying48
def tq48:=And.intro @sz48 (And.intro @pt48 (And.intro @bt48 (And.intro @zr48 (And.intro @ix48l (And.intro @ix48s (And.intro @ln48l (And.intro @ln48s (@ln48n))))))))
theorem sz49:sizeA Try.prog 49=some 1:=by kernel_rfl
theorem bt49:bytesA Try.prog 49=some 24:=by kernel_rfl
theorem pt49 (cs:List AV) (o:Nat):partA Try.prog 49 cs o=cs[o]?:=part_one Try.underlying49 rfl cs o
theorem zr49:zeroA Try.prog 49=some [.nilS]:=by kernel_rfl
theorem ix49l (xs:List (List AV)) {n:Int} (hn:0 ≤ n) (k:IntKind):indexAddrA Try.prog 49 (.lst xs) (.int k n)=rowA 5 (xs[n.toNat]?):=index_lst' Try.underlying49 (show sizeA Try.prog 51=some 5 from by kernel_rfl) xs hn k
theorem ix49s (r o l z:Nat) {n:Int} (hn:0 ≤ n) (k:IntKind):indexAddrA Try.prog 49 (.sl r o l z) (.int k n)=bif decide (n.toNat < l) then some (.ptr r (o + n.toNat * 5)) else none:=index_sl' Try.underlying49 (show sizeA Try.prog 51=some 5 from by kernel_rfl) r o l z hn k
theorem ln49l (H:Hp) (xs:List (List AV)):lenAt Try.prog H 49 (.lst xs)=some (.int .i64 xs.length):=lenAt_lst Try.underlying49 xs
theorem ln49s (H:Hp) (r o n z:Nat):lenAt Try.prog H 49 (.sl r o n z)=some (.int .i64 n):=lenAt_sl Try.underlying49 r o n z
theorem ln49n (H:Hp):lenAt Try.prog H 49 .nilS=some (.int .i64 0):=lenAt_nil Try.underlying49
def tq49:=And.intro @sz49 (And.intro @pt49 (And.intro @bt49 (And.intro @zr49 (And.intro @ix49l (And.intro @ix49s (And.intro @ln49l (And.intro @ln49s (@ln49n))))))))
theorem sz51:sizeA Try.prog 51=some 5:=by kernel_rfl
theorem bt51:bytesA Try.prog 51=some 64:=by kernel_rfl
theorem pt51 (cs:List AV) (o:Nat):partA Try.prog 51 cs o=aggA 5 (cs.drop o):=part_agg Try.underlying51 rfl sz51 cs o
theorem zr51:zeroA Try.prog 51=some [(.int .i64 0),(.int .i64 0),(.str []),(.int .i64 0),.nilS]:=by kernel_rfl
theorem fa51_0p (r o:Nat):fieldAddrA Try.prog 51 (.ptr r o) 0=some (.ptr r (o + 0)):=by kernel_rfl
theorem fa51_0c (cs:List AV):fieldAddrA Try.prog 51 (.iptr cs) 0=some (.iptr (cs.drop 0)):=by kernel_rfl
theorem fd51_0 (cs:List AV):fieldA Try.prog 51 (.agg cs) 0=partA Try.prog 3 cs 0:=by kernel_rfl
theorem fa51_1p (r o:Nat):fieldAddrA Try.prog 51 (.ptr r o) 1=some (.ptr r (o + 1)):=by kernel_rfl
theorem fa51_1c (cs:List AV):fieldAddrA Try.prog 51 (.iptr cs) 1=some (.iptr (cs.drop 1)):=by kernel_rfl
theorem fd51_1 (cs:List AV):fieldA Try.prog 51 (.agg cs) 1=partA Try.prog 2 cs 1:=by kernel_rfl
theorem fa51_2p (r o:Nat):fieldAddrA Try.prog 51 (.ptr r o) 2=some (.ptr r (o + 2)):=by kernel_rfl
theorem fa51_2c (cs:List AV):fieldAddrA Try.prog 51 (.iptr cs) 2=some (.iptr (cs.drop 2)):=by kernel_rfl
theorem fd51_2 (cs:List AV):fieldA Try.prog 51 (.agg cs) 2=partA Try.prog 9 cs 2:=by kernel_rfl
theorem fa51_3p (r o:Nat):fieldAddrA Try.prog 51 (.ptr r o) 3=some (.ptr r (o + 3)):=by kernel_rfl
theorem fa51_3c (cs:List AV):fieldAddrA Try.prog 51 (.iptr cs) 3=some (.iptr (cs.drop 3)):=by kernel_rfl
theorem fd51_3 (cs:List AV):fieldA Try.prog 51 (.agg cs) 3=partA Try.prog 3 cs 3:=by kernel_rfl
theorem fa51_4p (r o:Nat):fieldAddrA Try.prog 51 (.ptr r o) 4=some (.ptr r (o + 4)):=by kernel_rfl
theorem fa51_4c (cs:List AV):fieldAddrA Try.prog 51 (.iptr cs) 4=some (.iptr (cs.drop 4)):=by kernel_rfl
theorem fd51_4 (cs:List AV):fieldA Try.prog 51 (.agg cs) 4=partA Try.prog 49 cs 4:=by kernel_rfl
def tq51:=And.intro @sz51 (And.intro @pt51 (And.intro @bt51 (And.intro @zr51 (And.intro @fa51_0p (And.intro @fa51_0c (And.intro @fd51_0 (And.intro @fa51_1p (And.intro @fa51_1c (And.intro @fd51_1 (And.intro @fa51_2p (And.intro @fa51_2c (And.intro @fd51_2 (And.intro @fa51_3p (And.intro @fa51_3c (And.intro @fd51_3 (And.intro @fa51_4p (And.intro @fa51_4c (@fd51_4))))))))))))))))))
theorem sz53:sizeA Try.prog 53=some 9:=by kernel_rfl
theorem bt53:bytesA Try.prog 53=some 152:=by kernel_rfl
theorem pt53 (cs:List AV) (o:Nat):partA Try.prog 53 cs o=aggA 9 (cs.drop o):=part_agg Try.underlying53 rfl sz53 cs o
theorem zr53:zeroA Try.prog 53=some [(.str []),.nilS,.nilS,.nilS,(.int .i64 0),(.int .i64 0),(.str []),(.int .i64 0),.nilS]:=by kernel_rfl
theorem fa53_0p (r o:Nat):fieldAddrA Try.prog 53 (.ptr r o) 0=some (.ptr r (o + 0)):=by kernel_rfl
theorem fa53_0c (cs:List AV):fieldAddrA Try.prog 53 (.iptr cs) 0=some (.iptr (cs.drop 0)):=by kernel_rfl
theorem fd53_0 (cs:List AV):fieldA Try.prog 53 (.agg cs) 0=partA Try.prog 9 cs 0:=by kernel_rfl
theorem fa53_1p (r o:Nat):fieldAddrA Try.prog 53 (.ptr r o) 1=some (.ptr r (o + 1)):=by kernel_rfl
theorem fa53_1c (cs:List AV):fieldAddrA Try.prog 53 (.iptr cs) 1=some (.iptr (cs.drop 1)):=by kernel_rfl
theorem fd53_1 (cs:List AV):fieldA Try.prog 53 (.agg cs) 1=partA Try.prog 47 cs 1:=by kernel_rfl
theorem fa53_2p (r o:Nat):fieldAddrA Try.prog 53 (.ptr r o) 2=some (.ptr r (o + 2)):=by kernel_rfl
theorem fa53_2c (cs:List AV):fieldAddrA Try.prog 53 (.iptr cs) 2=some (.iptr (cs.drop 2)):=by kernel_rfl
theorem fd53_2 (cs:List AV):fieldA Try.prog 53 (.agg cs) 2=partA Try.prog 47 cs 2:=by kernel_rfl
theorem fa53_3p (r o:Nat):fieldAddrA Try.prog 53 (.ptr r o) 3=some (.ptr r (o + 3)):=by kernel_rfl
theorem fa53_3c (cs:List AV):fieldAddrA Try.prog 53 (.iptr cs) 3=some (.iptr (cs.drop 3)):=by kernel_rfl
theorem fd53_3 (cs:List AV):fieldA Try.prog 53 (.agg cs) 3=partA Try.prog 48 cs 3:=by kernel_rfl
theorem fa53_4p (r o:Nat):fieldAddrA Try.prog 53 (.ptr r o) 4=some (.ptr r (o + 4)):=by kernel_rfl
theorem fa53_4c (cs:List AV):fieldAddrA Try.prog 53 (.iptr cs) 4=some (.iptr (cs.drop 4)):=by kernel_rfl
theorem fd53_4 (cs:List AV):fieldA Try.prog 53 (.agg cs) 4=partA Try.prog 51 cs 4:=by kernel_rfl
def tq53:=And.intro @sz53 (And.intro @pt53 (And.intro @bt53 (And.intro @zr53 (And.intro @fa53_0p (And.intro @fa53_0c (And.intro @fd53_0 (And.intro @fa53_1p (And.intro @fa53_1c (And.intro @fd53_1 (And.intro @fa53_2p (And.intro @fa53_2c (And.intro @fd53_2 (And.intro @fa53_3p (And.intro @fa53_3c (And.intro @fd53_3 (And.intro @fa53_4p (And.intro @fa53_4c (@fd53_4))))))))))))))))))
theorem sz55:sizeA Try.prog 55=some 17:=by kernel_rfl
theorem bt55:bytesA Try.prog 55=some 248:=by kernel_rfl
theorem pt55 (cs:List AV) (o:Nat):partA Try.prog 55 cs o=aggA 17 (cs.drop o):=part_agg Try.underlying55 rfl sz55 cs o
theorem zr55:zeroA Try.prog 55=some [(.int .i64 0),(.str []),(.str []),(.int .i64 0),(.int .i64 0),(.int .i64 0),(.str []),(.int .i64 0),.nilS,(.int .i64 0),(.int .i64 0),(.str []),(.int .i64 0),.nilS,.nilS,.nilS,.nilS]:=by kernel_rfl
theorem fa55_0p (r o:Nat):fieldAddrA Try.prog 55 (.ptr r o) 0=some (.ptr r (o + 0)):=by kernel_rfl
theorem fa55_0c (cs:List AV):fieldAddrA Try.prog 55 (.iptr cs) 0=some (.iptr (cs.drop 0)):=by kernel_rfl
theorem fd55_0 (cs:List AV):fieldA Try.prog 55 (.agg cs) 0=partA Try.prog 3 cs 0:=by kernel_rfl
theorem fa55_1p (r o:Nat):fieldAddrA Try.prog 55 (.ptr r o) 1=some (.ptr r (o + 1)):=by kernel_rfl
theorem fa55_1c (cs:List AV):fieldAddrA Try.prog 55 (.iptr cs) 1=some (.iptr (cs.drop 1)):=by kernel_rfl
theorem fd55_1 (cs:List AV):fieldA Try.prog 55 (.agg cs) 1=partA Try.prog 9 cs 1:=by kernel_rfl
theorem fa55_2p (r o:Nat):fieldAddrA Try.prog 55 (.ptr r o) 2=some (.ptr r (o + 2)):=by kernel_rfl
theorem fa55_2c (cs:List AV):fieldAddrA Try.prog 55 (.iptr cs) 2=some (.iptr (cs.drop 2)):=by kernel_rfl
theorem fd55_2 (cs:List AV):fieldA Try.prog 55 (.agg cs) 2=partA Try.prog 9 cs 2:=by kernel_rfl
theorem fa55_3p (r o:Nat):fieldAddrA Try.prog 55 (.ptr r o) 3=some (.ptr r (o + 3)):=by kernel_rfl
theorem fa55_3c (cs:List AV):fieldAddrA Try.prog 55 (.iptr cs) 3=some (.iptr (cs.drop 3)):=by kernel_rfl
theorem fd55_3 (cs:List AV):fieldA Try.prog 55 (.agg cs) 3=partA Try.prog 3 cs 3:=by kernel_rfl
theorem fa55_4p (r o:Nat):fieldAddrA Try.prog 55 (.ptr r o) 4=some (.ptr r (o + 4)):=by kernel_rfl
theorem fa55_4c (cs:List AV):fieldAddrA Try.prog 55 (.iptr cs) 4=some (.iptr (cs.drop 4)):=by kernel_rfl
theorem fd55_4 (cs:List AV):fieldA Try.prog 55 (.agg cs) 4=partA Try.prog 51 cs 4:=by kernel_rfl
theorem fa55_5p (r o:Nat):fieldAddrA Try.prog 55 (.ptr r o) 5=some (.ptr r (o + 9)):=by kernel_rfl
theorem fa55_5c (cs:List AV):fieldAddrA Try.prog 55 (.iptr cs) 5=some (.iptr (cs.drop 9)):=by kernel_rfl
theorem fd55_5 (cs:List AV):fieldA Try.prog 55 (.agg cs) 5=partA Try.prog 51 cs 9:=by kernel_rfl
theorem fa55_6p (r o:Nat):fieldAddrA Try.prog 55 (.ptr r o) 6=some (.ptr r (o + 14)):=by kernel_rfl
theorem fa55_6c (cs:List AV):fieldAddrA Try.prog 55 (.iptr cs) 6=some (.iptr (cs.drop 14)):=by kernel_rfl
theorem fd55_6 (cs:List AV):fieldA Try.prog 55 (.agg cs) 6=partA Try.prog 49 cs 14:=by kernel_rfl
theorem fa55_7p (r o:Nat):fieldAddrA Try.prog 55 (.ptr r o) 7=some (.ptr r (o + 15)):=by kernel_rfl
theorem fa55_7c (cs:List AV):fieldAddrA Try.prog 55 (.iptr cs) 7=some (.iptr (cs.drop 15)):=by kernel_rfl
theorem fd55_7 (cs:List AV):fieldA Try.prog 55 (.agg cs) 7=partA Try.prog 48 cs 15:=by kernel_rfl
theorem fa55_8p (r o:Nat):fieldAddrA Try.prog 55 (.ptr r o) 8=some (.ptr r (o + 16)):=by kernel_rfl
theorem fa55_8c (cs:List AV):fieldAddrA Try.prog 55 (.iptr cs) 8=some (.iptr (cs.drop 16)):=by kernel_rfl
theorem fd55_8 (cs:List AV):fieldA Try.prog 55 (.agg cs) 8=partA Try.prog 48 cs 16:=by kernel_rfl
def tq55:=And.intro @sz55 (And.intro @pt55 (And.intro @bt55 (And.intro @zr55 (And.intro @fa55_0p (And.intro @fa55_0c (And.intro @fd55_0 (And.intro @fa55_1p (And.intro @fa55_1c (And.intro @fd55_1 (And.intro @fa55_2p (And.intro @fa55_2c (And.intro @fd55_2 (And.intro @fa55_3p (And.intro @fa55_3c (And.intro @fd55_3 (And.intro @fa55_4p (And.intro @fa55_4c (And.intro @fd55_4 (And.intro @fa55_5p (And.intro @fa55_5c (And.intro @fd55_5 (And.intro @fa55_6p (And.intro @fa55_6c (And.intro @fd55_6 (And.intro @fa55_7p (And.intro @fa55_7c (And.intro @fd55_7 (And.intro @fa55_8p (And.intro @fa55_8c (@fd55_8))))))))))))))))))))))))))))))
theorem sz61:sizeA Try.prog 61=some 1:=by kernel_rfl
theorem bt61:bytesA Try.prog 61=some 24:=by kernel_rfl
theorem pt61 (cs:List AV) (o:Nat):partA Try.prog 61 cs o=cs[o]?:=part_one Try.underlying61 rfl cs o
theorem zr61:zeroA Try.prog 61=some [.nilS]:=by kernel_rfl
theorem ix61l (xs:List (List AV)) {n:Int} (hn:0 ≤ n) (k:IntKind):indexAddrA Try.prog 61 (.lst xs) (.int k n)=rowA 1 (xs[n.toNat]?):=index_lst' Try.underlying61 (show sizeA Try.prog 5=some 1 from by kernel_rfl) xs hn k
theorem ix61s (r o l z:Nat) {n:Int} (hn:0 ≤ n) (k:IntKind):indexAddrA Try.prog 61 (.sl r o l z) (.int k n)=bif decide (n.toNat < l) then some (.ptr r (o + n.toNat * 1)) else none:=index_sl' Try.underlying61 (show sizeA Try.prog 5=some 1 from by kernel_rfl) r o l z hn k
theorem ln61l (H:Hp) (xs:List (List AV)):lenAt Try.prog H 61 (.lst xs)=some (.int .i64 xs.length):=lenAt_lst Try.underlying61 xs
theorem ln61s (H:Hp) (r o n z:Nat):lenAt Try.prog H 61 (.sl r o n z)=some (.int .i64 n):=lenAt_sl Try.underlying61 r o n z
theorem ln61n (H:Hp):lenAt Try.prog H 61 .nilS=some (.int .i64 0):=lenAt_nil Try.underlying61
def tq61:=And.intro @sz61 (And.intro @pt61 (And.intro @bt61 (And.intro @zr61 (And.intro @ix61l (And.intro @ix61s (And.intro @ln61l (And.intro @ln61s (@ln61n))))))))
theorem sz63:sizeA Try.prog 63=some 2:=by kernel_rfl
theorem bt63:bytesA Try.prog 63=some 16:=by kernel_rfl
theorem pt63 (cs:List AV) (o:Nat):partA Try.prog 63 cs o=aggA 2 (cs.drop o):=part_agg Try.underlying63 rfl sz63 cs o
theorem zr63:zeroA Try.prog 63=some [(.int .i64 0),(.int .i64 0)]:=by kernel_rfl
theorem fa63_0p (r o:Nat):fieldAddrA Try.prog 63 (.ptr r o) 0=some (.ptr r (o + 0)):=by kernel_rfl
theorem fa63_0c (cs:List AV):fieldAddrA Try.prog 63 (.iptr cs) 0=some (.iptr (cs.drop 0)):=by kernel_rfl
theorem fd63_0 (cs:List AV):fieldA Try.prog 63 (.agg cs) 0=partA Try.prog 44 cs 0:=by kernel_rfl
theorem fa63_1p (r o:Nat):fieldAddrA Try.prog 63 (.ptr r o) 1=some (.ptr r (o + 1)):=by kernel_rfl
theorem fa63_1c (cs:List AV):fieldAddrA Try.prog 63 (.iptr cs) 1=some (.iptr (cs.drop 1)):=by kernel_rfl
theorem fd63_1 (cs:List AV):fieldA Try.prog 63 (.agg cs) 1=partA Try.prog 3 cs 1:=by kernel_rfl
def tq63:=And.intro @sz63 (And.intro @pt63 (And.intro @bt63 (And.intro @zr63 (And.intro @fa63_0p (And.intro @fa63_0c (And.intro @fd63_0 (And.intro @fa63_1p (And.intro @fa63_1c (@fd63_1)))))))))
theorem sz74:sizeA Try.prog 74=some 2:=by kernel_rfl
theorem bt74:bytesA Try.prog 74=some 24:=by kernel_rfl
theorem pt74 (cs:List AV) (o:Nat):partA Try.prog 74 cs o=aggA 2 (cs.drop o):=part_agg Try.underlying74 rfl sz74 cs o
theorem zr74:zeroA Try.prog 74=some [(.str []),(.int .i64 0)]:=by kernel_rfl
theorem fa74_0p (r o:Nat):fieldAddrA Try.prog 74 (.ptr r o) 0=some (.ptr r (o + 0)):=by kernel_rfl
theorem fa74_0c (cs:List AV):fieldAddrA Try.prog 74 (.iptr cs) 0=some (.iptr (cs.drop 0)):=by kernel_rfl
theorem fd74_0 (cs:List AV):fieldA Try.prog 74 (.agg cs) 0=partA Try.prog 9 cs 0:=by kernel_rfl
theorem fa74_1p (r o:Nat):fieldAddrA Try.prog 74 (.ptr r o) 1=some (.ptr r (o + 1)):=by kernel_rfl
theorem fa74_1c (cs:List AV):fieldAddrA Try.prog 74 (.iptr cs) 1=some (.iptr (cs.drop 1)):=by kernel_rfl
theorem fd74_1 (cs:List AV):fieldA Try.prog 74 (.agg cs) 1=partA Try.prog 3 cs 1:=by kernel_rfl
def tq74:=And.intro @sz74 (And.intro @pt74 (And.intro @bt74 (And.intro @zr74 (And.intro @fa74_0p (And.intro @fa74_0c (And.intro @fd74_0 (And.intro @fa74_1p (And.intro @fa74_1c (@fd74_1)))))))))
theorem sz77:sizeA Try.prog 77=some 2:=by kernel_rfl
theorem bt77:bytesA Try.prog 77=some 32:=by kernel_rfl
theorem pt77 (cs:List AV) (o:Nat):partA Try.prog 77 cs o=aggA 2 (cs.drop o):=part_agg Try.underlying77 rfl sz77 cs o
theorem zr77:zeroA Try.prog 77=some [.nilS,(.int .i64 0)]:=by kernel_rfl
theorem fa77_0p (r o:Nat):fieldAddrA Try.prog 77 (.ptr r o) 0=some (.ptr r (o + 0)):=by kernel_rfl
theorem fa77_0c (cs:List AV):fieldAddrA Try.prog 77 (.iptr cs) 0=some (.iptr (cs.drop 0)):=by kernel_rfl
theorem fd77_0 (cs:List AV):fieldA Try.prog 77 (.agg cs) 0=partA Try.prog 23 cs 0:=by kernel_rfl
theorem fa77_1p (r o:Nat):fieldAddrA Try.prog 77 (.ptr r o) 1=some (.ptr r (o + 1)):=by kernel_rfl
theorem fa77_1c (cs:List AV):fieldAddrA Try.prog 77 (.iptr cs) 1=some (.iptr (cs.drop 1)):=by kernel_rfl
theorem fd77_1 (cs:List AV):fieldA Try.prog 77 (.agg cs) 1=partA Try.prog 3 cs 1:=by kernel_rfl
def tq77:=And.intro @sz77 (And.intro @pt77 (And.intro @bt77 (And.intro @zr77 (And.intro @fa77_0p (And.intro @fa77_0c (And.intro @fd77_0 (And.intro @fa77_1p (And.intro @fa77_1c (@fd77_1)))))))))
theorem sz81:sizeA Try.prog 81=some 1:=by kernel_rfl
theorem bt81:bytesA Try.prog 81=some 8:=by kernel_rfl
theorem pt81 (cs:List AV) (o:Nat):partA Try.prog 81 cs o=cs[o]?:=part_one Try.underlying81 rfl cs o
theorem zr81:zeroA Try.prog 81=some [.nilM]:=by kernel_rfl
def tq81:=And.intro @sz81 (And.intro @pt81 (And.intro @bt81 (@zr81)))
theorem sz90:sizeA Try.prog 90=some 1:=by kernel_rfl
theorem bt90:bytesA Try.prog 90=some 24:=by kernel_rfl
theorem pt90 (cs:List AV) (o:Nat):partA Try.prog 90 cs o=cs[o]?:=part_one Try.underlying90 rfl cs o
theorem zr90:zeroA Try.prog 90=some [.nilS]:=by kernel_rfl
theorem ix90l (xs:List (List AV)) {n:Int} (hn:0 ≤ n) (k:IntKind):indexAddrA Try.prog 90 (.lst xs) (.int k n)=rowA 3 (xs[n.toNat]?):=index_lst' Try.underlying90 (show sizeA Try.prog 119=some 3 from by kernel_rfl) xs hn k
theorem ix90s (r o l z:Nat) {n:Int} (hn:0 ≤ n) (k:IntKind):indexAddrA Try.prog 90 (.sl r o l z) (.int k n)=bif decide (n.toNat < l) then some (.ptr r (o + n.toNat * 3)) else none:=index_sl' Try.underlying90 (show sizeA Try.prog 119=some 3 from by kernel_rfl) r o l z hn k
theorem ln90l (H:Hp) (xs:List (List AV)):lenAt Try.prog H 90 (.lst xs)=some (.int .i64 xs.length):=lenAt_lst Try.underlying90 xs
theorem ln90s (H:Hp) (r o n z:Nat):lenAt Try.prog H 90 (.sl r o n z)=some (.int .i64 n):=lenAt_sl Try.underlying90 r o n z
theorem ln90n (H:Hp):lenAt Try.prog H 90 .nilS=some (.int .i64 0):=lenAt_nil Try.underlying90
def tq90:=And.intro @sz90 (And.intro @pt90 (And.intro @bt90 (And.intro @zr90 (And.intro @ix90l (And.intro @ix90s (And.intro @ln90l (And.intro @ln90s (@ln90n))))))))
theorem sz104:sizeA Try.prog 104=some 1:=by kernel_rfl
theorem bt104:bytesA Try.prog 104=some 24:=by kernel_rfl
theorem pt104 (cs:List AV) (o:Nat):partA Try.prog 104 cs o=cs[o]?:=part_one Try.underlying104 rfl cs o
theorem zr104:zeroA Try.prog 104=some [.nilS]:=by kernel_rfl
theorem ix104l (xs:List (List AV)) {n:Int} (hn:0 ≤ n) (k:IntKind):indexAddrA Try.prog 104 (.lst xs) (.int k n)=rowA 1 (xs[n.toNat]?):=index_lst' Try.underlying104 (show sizeA Try.prog 106=some 1 from by kernel_rfl) xs hn k
theorem ix104s (r o l z:Nat) {n:Int} (hn:0 ≤ n) (k:IntKind):indexAddrA Try.prog 104 (.sl r o l z) (.int k n)=bif decide (n.toNat < l) then some (.ptr r (o + n.toNat * 1)) else none:=index_sl' Try.underlying104 (show sizeA Try.prog 106=some 1 from by kernel_rfl) r o l z hn k
theorem ln104l (H:Hp) (xs:List (List AV)):lenAt Try.prog H 104 (.lst xs)=some (.int .i64 xs.length):=lenAt_lst Try.underlying104 xs
theorem ln104s (H:Hp) (r o n z:Nat):lenAt Try.prog H 104 (.sl r o n z)=some (.int .i64 n):=lenAt_sl Try.underlying104 r o n z
theorem ln104n (H:Hp):lenAt Try.prog H 104 .nilS=some (.int .i64 0):=lenAt_nil Try.underlying104
def tq104:=And.intro @sz104 (And.intro @pt104 (And.intro @bt104 (And.intro @zr104 (And.intro @ix104l (And.intro @ix104s (And.intro @ln104l (And.intro @ln104s (@ln104n))))))))
theorem sz106:sizeA Try.prog 106=some 1:=by kernel_rfl
theorem bt106:bytesA Try.prog 106=some 4:=by kernel_rfl
theorem pt106 (cs:List AV) (o:Nat):partA Try.prog 106 cs o=cs[o]?:=part_one Try.underlying106 rfl cs o
theorem zr106:zeroA Try.prog 106=some [(.int .u32 0)]:=by kernel_rfl
def tq106:=And.intro @sz106 (And.intro @pt106 (And.intro @bt106 (@zr106)))
theorem sz119:sizeA Try.prog 119=some 3:=by kernel_rfl
theorem bt119:bytesA Try.prog 119=some 32:=by kernel_rfl
theorem pt119 (cs:List AV) (o:Nat):partA Try.prog 119 cs o=aggA 3 (cs.drop o):=part_agg Try.underlying119 rfl sz119 cs o
theorem zr119:zeroA Try.prog 119=some [(.int .i64 0),(.str []),(.int .i64 0)]:=by kernel_rfl
theorem fa119_0p (r o:Nat):fieldAddrA Try.prog 119 (.ptr r o) 0=some (.ptr r (o + 0)):=by kernel_rfl
theorem fa119_0c (cs:List AV):fieldAddrA Try.prog 119 (.iptr cs) 0=some (.iptr (cs.drop 0)):=by kernel_rfl
theorem fd119_0 (cs:List AV):fieldA Try.prog 119 (.agg cs) 0=partA Try.prog 3 cs 0:=by kernel_rfl
theorem fa119_1p (r o:Nat):fieldAddrA Try.prog 119 (.ptr r o) 1=some (.ptr r (o + 1)):=by kernel_rfl
theorem fa119_1c (cs:List AV):fieldAddrA Try.prog 119 (.iptr cs) 1=some (.iptr (cs.drop 1)):=by kernel_rfl
theorem fd119_1 (cs:List AV):fieldA Try.prog 119 (.agg cs) 1=partA Try.prog 9 cs 1:=by kernel_rfl
theorem fa119_2p (r o:Nat):fieldAddrA Try.prog 119 (.ptr r o) 2=some (.ptr r (o + 2)):=by kernel_rfl
theorem fa119_2c (cs:List AV):fieldAddrA Try.prog 119 (.iptr cs) 2=some (.iptr (cs.drop 2)):=by kernel_rfl
theorem fd119_2 (cs:List AV):fieldA Try.prog 119 (.agg cs) 2=partA Try.prog 3 cs 2:=by kernel_rfl
def tq119:=And.intro @sz119 (And.intro @pt119 (And.intro @bt119 (And.intro @zr119 (And.intro @fa119_0p (And.intro @fa119_0c (And.intro @fd119_0 (And.intro @fa119_1p (And.intro @fa119_1c (And.intro @fd119_1 (And.intro @fa119_2p (And.intro @fa119_2c (@fd119_2))))))))))))
theorem sz121:sizeA Try.prog 121=some 1:=by kernel_rfl
theorem bt121:bytesA Try.prog 121=some 8:=by kernel_rfl
theorem pt121 (cs:List AV) (o:Nat):partA Try.prog 121 cs o=cs[o]?:=part_one Try.underlying121 rfl cs o
theorem zr121:zeroA Try.prog 121=some [(.int .u64 0)]:=by kernel_rfl
def tq121:=And.intro @sz121 (And.intro @pt121 (And.intro @bt121 (@zr121)))
theorem sz133:sizeA Try.prog 133=some 1:=by kernel_rfl
theorem bt133:bytesA Try.prog 133=some 8:=by kernel_rfl
theorem pt133 (cs:List AV) (o:Nat):partA Try.prog 133 cs o=cs[o]?:=part_one Try.underlying133 rfl cs o
theorem zr133:zeroA Try.prog 133=some [.nilF]:=by kernel_rfl
def tq133:=And.intro @sz133 (And.intro @pt133 (And.intro @bt133 (@zr133)))
theorem sz140:sizeA Try.prog 140=some 1:=by kernel_rfl
theorem bt140:bytesA Try.prog 140=some 8:=by kernel_rfl
theorem pt140 (cs:List AV) (o:Nat):partA Try.prog 140 cs o=cs[o]?:=part_one Try.underlying140 rfl cs o
theorem zr140:zeroA Try.prog 140=some [.nilM]:=by kernel_rfl
def tq140:=And.intro @sz140 (And.intro @pt140 (And.intro @bt140 (@zr140)))
theorem sz143:sizeA Try.prog 143=some 16:=by kernel_rfl
theorem bt143:bytesA Try.prog 143=some 128:=by kernel_rfl
theorem pt143 (cs:List AV) (o:Nat):partA Try.prog 143 cs o=aggA 16 (cs.drop o):=part_agg Try.underlying143 rfl sz143 cs o
theorem zr143:zeroA Try.prog 143=some [(.int .i64 0),(.int .i64 0),(.int .i64 0),(.int .i64 0),(.int .i64 0),(.int .i64 0),(.int .i64 0),(.int .i64 0),(.int .i64 0),(.int .i64 0),(.int .i64 0),(.int .i64 0),(.int .i64 0),(.int .i64 0),(.int .i64 0),(.int .i64 0)]:=by kernel_rfl
def tq143:=And.intro @sz143 (And.intro @pt143 (And.intro @bt143 (@zr143)))
theorem sz145:sizeA Try.prog 145=some 1:=by kernel_rfl
theorem bt145:bytesA Try.prog 145=some 8:=by kernel_rfl
theorem pt145 (cs:List AV) (o:Nat):partA Try.prog 145 cs o=cs[o]?:=part_one Try.underlying145 rfl cs o
theorem zr145:zeroA Try.prog 145=some [(.int .u64 0)]:=by kernel_rfl
def tq145:=And.intro @sz145 (And.intro @pt145 (And.intro @bt145 (@zr145)))
theorem sz154:sizeA Try.prog 154=some 1:=by kernel_rfl
theorem bt154:bytesA Try.prog 154=some 24:=by kernel_rfl
theorem pt154 (cs:List AV) (o:Nat):partA Try.prog 154 cs o=cs[o]?:=part_one Try.underlying154 rfl cs o
theorem zr154:zeroA Try.prog 154=some [.nilS]:=by kernel_rfl
theorem ix154l (xs:List (List AV)) {n:Int} (hn:0 ≤ n) (k:IntKind):indexAddrA Try.prog 154 (.lst xs) (.int k n)=rowA 1 (xs[n.toNat]?):=index_lst' Try.underlying154 (show sizeA Try.prog 2=some 1 from by kernel_rfl) xs hn k
theorem ix154s (r o l z:Nat) {n:Int} (hn:0 ≤ n) (k:IntKind):indexAddrA Try.prog 154 (.sl r o l z) (.int k n)=bif decide (n.toNat < l) then some (.ptr r (o + n.toNat * 1)) else none:=index_sl' Try.underlying154 (show sizeA Try.prog 2=some 1 from by kernel_rfl) r o l z hn k
theorem ln154l (H:Hp) (xs:List (List AV)):lenAt Try.prog H 154 (.lst xs)=some (.int .i64 xs.length):=lenAt_lst Try.underlying154 xs
theorem ln154s (H:Hp) (r o n z:Nat):lenAt Try.prog H 154 (.sl r o n z)=some (.int .i64 n):=lenAt_sl Try.underlying154 r o n z
theorem ln154n (H:Hp):lenAt Try.prog H 154 .nilS=some (.int .i64 0):=lenAt_nil Try.underlying154
def tq154:=And.intro @sz154 (And.intro @pt154 (And.intro @bt154 (And.intro @zr154 (And.intro @ix154l (And.intro @ix154s (And.intro @ln154l (And.intro @ln154s (@ln154n))))))))
theorem sz162:sizeA Try.prog 162=some 8:=by kernel_rfl
theorem bt162:bytesA Try.prog 162=some 8:=by kernel_rfl
theorem pt162 (cs:List AV) (o:Nat):partA Try.prog 162 cs o=aggA 8 (cs.drop o):=part_agg Try.underlying162 rfl sz162 cs o
theorem zr162:zeroA Try.prog 162=some [(.bool false),(.bool false),(.bool false),(.bool false),(.bool false),(.bool false),(.bool false),(.bool false)]:=by kernel_rfl
theorem fa162_0p (r o:Nat):fieldAddrA Try.prog 162 (.ptr r o) 0=some (.ptr r (o + 0)):=by kernel_rfl
theorem fa162_0c (cs:List AV):fieldAddrA Try.prog 162 (.iptr cs) 0=some (.iptr (cs.drop 0)):=by kernel_rfl
theorem fd162_0 (cs:List AV):fieldA Try.prog 162 (.agg cs) 0=partA Try.prog 4 cs 0:=by kernel_rfl
theorem fa162_1p (r o:Nat):fieldAddrA Try.prog 162 (.ptr r o) 1=some (.ptr r (o + 1)):=by kernel_rfl
theorem fa162_1c (cs:List AV):fieldAddrA Try.prog 162 (.iptr cs) 1=some (.iptr (cs.drop 1)):=by kernel_rfl
theorem fd162_1 (cs:List AV):fieldA Try.prog 162 (.agg cs) 1=partA Try.prog 4 cs 1:=by kernel_rfl
theorem fa162_2p (r o:Nat):fieldAddrA Try.prog 162 (.ptr r o) 2=some (.ptr r (o + 2)):=by kernel_rfl
theorem fa162_2c (cs:List AV):fieldAddrA Try.prog 162 (.iptr cs) 2=some (.iptr (cs.drop 2)):=by kernel_rfl
theorem fd162_2 (cs:List AV):fieldA Try.prog 162 (.agg cs) 2=partA Try.prog 4 cs 2:=by kernel_rfl
theorem fa162_3p (r o:Nat):fieldAddrA Try.prog 162 (.ptr r o) 3=some (.ptr r (o + 3)):=by kernel_rfl
theorem fa162_3c (cs:List AV):fieldAddrA Try.prog 162 (.iptr cs) 3=some (.iptr (cs.drop 3)):=by kernel_rfl
theorem fd162_3 (cs:List AV):fieldA Try.prog 162 (.agg cs) 3=partA Try.prog 4 cs 3:=by kernel_rfl
theorem fa162_4p (r o:Nat):fieldAddrA Try.prog 162 (.ptr r o) 4=some (.ptr r (o + 4)):=by kernel_rfl
theorem fa162_4c (cs:List AV):fieldAddrA Try.prog 162 (.iptr cs) 4=some (.iptr (cs.drop 4)):=by kernel_rfl
theorem fd162_4 (cs:List AV):fieldA Try.prog 162 (.agg cs) 4=partA Try.prog 4 cs 4:=by kernel_rfl
theorem fa162_5p (r o:Nat):fieldAddrA Try.prog 162 (.ptr r o) 5=some (.ptr r (o + 5)):=by kernel_rfl
theorem fa162_5c (cs:List AV):fieldAddrA Try.prog 162 (.iptr cs) 5=some (.iptr (cs.drop 5)):=by kernel_rfl
theorem fd162_5 (cs:List AV):fieldA Try.prog 162 (.agg cs) 5=partA Try.prog 4 cs 5:=by kernel_rfl
theorem fa162_6p (r o:Nat):fieldAddrA Try.prog 162 (.ptr r o) 6=some (.ptr r (o + 6)):=by kernel_rfl
theorem fa162_6c (cs:List AV):fieldAddrA Try.prog 162 (.iptr cs) 6=some (.iptr (cs.drop 6)):=by kernel_rfl
theorem fd162_6 (cs:List AV):fieldA Try.prog 162 (.agg cs) 6=partA Try.prog 4 cs 6:=by kernel_rfl
theorem fa162_7p (r o:Nat):fieldAddrA Try.prog 162 (.ptr r o) 7=some (.ptr r (o + 7)):=by kernel_rfl
theorem fa162_7c (cs:List AV):fieldAddrA Try.prog 162 (.iptr cs) 7=some (.iptr (cs.drop 7)):=by kernel_rfl
theorem fd162_7 (cs:List AV):fieldA Try.prog 162 (.agg cs) 7=partA Try.prog 4 cs 7:=by kernel_rfl
def tq162:=And.intro @sz162 (And.intro @pt162 (And.intro @bt162 (And.intro @zr162 (And.intro @fa162_0p (And.intro @fa162_0c (And.intro @fd162_0 (And.intro @fa162_1p (And.intro @fa162_1c (And.intro @fd162_1 (And.intro @fa162_2p (And.intro @fa162_2c (And.intro @fd162_2 (And.intro @fa162_3p (And.intro @fa162_3c (And.intro @fd162_3 (And.intro @fa162_4p (And.intro @fa162_4c (And.intro @fd162_4 (And.intro @fa162_5p (And.intro @fa162_5c (And.intro @fd162_5 (And.intro @fa162_6p (And.intro @fa162_6c (And.intro @fd162_6 (And.intro @fa162_7p (And.intro @fa162_7c (@fd162_7)))))))))))))))))))))))))))
theorem sz167:sizeA Try.prog 167=some 1:=by kernel_rfl
theorem bt167:bytesA Try.prog 167=some 24:=by kernel_rfl
theorem pt167 (cs:List AV) (o:Nat):partA Try.prog 167 cs o=cs[o]?:=part_one Try.underlying167 rfl cs o
theorem zr167:zeroA Try.prog 167=some [.nilS]:=by kernel_rfl
theorem ix167l (xs:List (List AV)) {n:Int} (hn:0 ≤ n) (k:IntKind):indexAddrA Try.prog 167 (.lst xs) (.int k n)=rowA 1 (xs[n.toNat]?):=index_lst' Try.underlying167 (show sizeA Try.prog 47=some 1 from by kernel_rfl) xs hn k
theorem ix167s (r o l z:Nat) {n:Int} (hn:0 ≤ n) (k:IntKind):indexAddrA Try.prog 167 (.sl r o l z) (.int k n)=bif decide (n.toNat < l) then some (.ptr r (o + n.toNat * 1)) else none:=index_sl' Try.underlying167 (show sizeA Try.prog 47=some 1 from by kernel_rfl) r o l z hn k
theorem ln167l (H:Hp) (xs:List (List AV)):lenAt Try.prog H 167 (.lst xs)=some (.int .i64 xs.length):=lenAt_lst Try.underlying167 xs
theorem ln167s (H:Hp) (r o n z:Nat):lenAt Try.prog H 167 (.sl r o n z)=some (.int .i64 n):=lenAt_sl Try.underlying167 r o n z
theorem ln167n (H:Hp):lenAt Try.prog H 167 .nilS=some (.int .i64 0):=lenAt_nil Try.underlying167
def tq167:=And.intro @sz167 (And.intro @pt167 (And.intro @bt167 (And.intro @zr167 (And.intro @ix167l (And.intro @ix167s (And.intro @ln167l (And.intro @ln167s (@ln167n))))))))
theorem sz182:sizeA Try.prog 182=some 7:=by kernel_rfl
theorem bt182:bytesA Try.prog 182=some 112:=by kernel_rfl
theorem pt182 (cs:List AV) (o:Nat):partA Try.prog 182 cs o=aggA 7 (cs.drop o):=part_agg Try.underlying182 rfl sz182 cs o
theorem zr182:zeroA Try.prog 182=some [(.str []),(.str []),(.str []),(.str []),(.str []),(.str []),(.str [])]:=by kernel_rfl
def tq182:=And.intro @sz182 (And.intro @pt182 (And.intro @bt182 (@zr182)))
theorem cv2_121 (H:Hp) (k:IntKind) (n:Int):convertA Try.prog H 2 121 (.int k n)=some (.int .u64 (IntKind.wrap .u64 n)):=by cases k <;> kernel_rfl
theorem cv2_145 (H:Hp) (k:IntKind) (n:Int):convertA Try.prog H 2 145 (.int k n)=some (.int .u64 (IntKind.wrap .u64 n)):=by cases k <;> kernel_rfl
theorem cv3_5 (H:Hp) (k:IntKind) (n:Int):convertA Try.prog H 3 5 (.int k n)=some (.int .u8 (IntKind.wrap .u8 n)):=by cases k <;> kernel_rfl
theorem cv3_121 (H:Hp) (k:IntKind) (n:Int):convertA Try.prog H 3 121 (.int k n)=some (.int .u64 (IntKind.wrap .u64 n)):=by cases k <;> kernel_rfl
theorem cv3_145 (H:Hp) (k:IntKind) (n:Int):convertA Try.prog H 3 145 (.int k n)=some (.int .u64 (IntKind.wrap .u64 n)):=by cases k <;> kernel_rfl
theorem cv121_5 (H:Hp) (k:IntKind) (n:Int):convertA Try.prog H 121 5 (.int k n)=some (.int .u8 (IntKind.wrap .u8 n)):=by cases k <;> kernel_rfl
end Go.Proofs.Ytpbcimfiofmoeaa
namespace Go.Ab
set_option maxRecDepth 20000
open Go
variable {P:Program} {cfg:Cfg} {f N:Nat}
theorem Wp.forI {a:SC} {E:Env} {H:Hp} {Q:AX → Env → Hp → Prop} (cs rs:List Nat) (slot n:Nat) (J:Nat → Env → Hp → Prop) (h0:E.at slot=.int .i64 0) (hJ:J 0 E H)
   (h:∀ (i:Nat) (E':Env) (H':Hp),i ≤ n → (∀ k ∈ cs,E'.at k=E.at k) → (∀ r ∈ rs,H'.get r=H.get r) → H.next ≤ H'.next → E'.at slot=.int .i64 i → J i E' H' →
     Wp P cfg f N a E' H' (thenQ Q fun E2 H2=>i < n ∧ (∀ k ∈ cs,E2.at k=E.at k) ∧ (∀ r ∈ rs,H2.get r=H.get r) ∧ H.next ≤ H2.next ∧ E2.at slot=.int .i64 ((i + 1:Nat):Int) ∧ J (i + 1) E2 H2)):Wp P cfg f N (.loop a) E H Q:=
 Wp.loopN (fun i E' H'=>(∀ k ∈ cs,E'.at k=E.at k) ∧ (∀ r ∈ rs,H'.get r=H.get r) ∧ H.next ≤ H'.next ∧ E'.at slot=.int .i64 i ∧ J i E' H') n (fun i E' H' hi ⟨h1,h2,h3,h4,h5⟩=>h i E' H' hi h1 h2 h3 h4 h5) ⟨fun _ _=>rfl,fun _ _=>rfl,Nat.le_refl _,h0,hJ⟩
theorem forall_cons {p:Nat → Prop} {a:Nat} {l:List Nat}:(∀ k ∈ a :: l,p k) ↔ p a ∧ ∀ k ∈ l,p k:=List.forall_mem_cons
theorem forall_nil {p:Nat → Prop}:(∀ k ∈ ([]:List Nat),p k) ↔ True:=⟨fun _=>trivial,fun _ _ h=>by simp at h⟩
theorem ne_beq {a b:Nat} (h:a ≠ b):(a == b)=false:=by simpa using h
theorem i64_succ {i n:Nat} (h:i < n) (hn:n < 2 ^ 62):AV.int .i64 (IntKind.wrap .i64 ((i:Int) + 1))=.int .i64 ((i + 1:Nat):Int):=by rw [wrap_succ (by omega)]
end Go.Ab
