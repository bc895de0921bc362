/- Parts: Facts, AbFor, AbSp. -/
import Derived.KernelRfl
import Derived.Test.YtackdnelcpbfjaaRows
import Derived.Test.YtackdnelcpbfjaaSRE
set_option linter.unusedSimpArgs false
set_option linter.unusedVariables false
set_option linter.unusedSectionVars false
set_option linter.defProp false
set_option maxHeartbeats 32000000
namespace Go.Proofs.Ytackdnelcpbfjaa
set_option maxRecDepth 20000
open Go Go.Ab
def sB:=And.intro @aeval_ns (And.intro @List.toList_toArray.{0} (And.intro @H0_next (And.intro @bsel_true (And.intro @bsel_false (And.intro @Bool.not_true (And.intro @Bool.not_false (And.intro @List.length_map.{0,0} (And.intro @Int.natCast_zero (And.intro @aeval_t (And.intro @aeval_i (And.intro @aeval_b (And.intro @aeval_f (And.intro @aeval_s (And.intro @at_set (And.intro @cond_true.{1} (And.intro @cond_false.{1} (@Nat.zero_add)))))))))))))))))
def sO:=And.intro @Ex.clen (And.intro @Ex.c0 (And.intro @Ex.c1 (And.intro @Ex.c2 (And.intro @Ex.c3 (And.intro @Ex.c4 (And.intro @Ex.whole (And.intro @Ex.one (And.intro @St.clen (And.intro @St.c0 (And.intro @St.c1 (And.intro @St.c2 (And.intro @St.c3 (And.intro @St.c4 (And.intro @St.c5 (And.intro @St.c6 (And.intro @St.c7 (And.intro @St.c8 (And.intro @St.c9 (And.intro @St.c10 (And.intro @St.c11 (And.intro @St.c12 (And.intro @St.c13 (And.intro @St.c14 (And.intro @St.c15 (And.intro @St.c16 (And.intro @St.whole (And.intro @St.one (And.intro @St.part_at_ (And.intro @St.part_value (And.intro @Fu.clen (And.intro @Fu.c0 (And.intro @Fu.c1 (And.intro @Fu.c2 (And.intro @Fu.c3 (And.intro @Fu.c4 (And.intro @Fu.c5 (And.intro @Fu.c6 (And.intro @Fu.c7 (And.intro @Fu.c8 (And.intro @Fu.whole (And.intro @Fu.one (And.intro @Fu.part_value (And.intro @Ar.clen (And.intro @Ar.c0 (And.intro @Ar.c1 (And.intro @Ar.whole (And.intro @Ar.one (And.intro @Pr.clen (And.intro @Pr.c0 (And.intro @Pr.c1 (And.intro @Pr.whole (And.intro @Pr.one (And.intro @Tk.clen (And.intro @Tk.c0 (And.intro @Tk.c1 (And.intro @Tk.c2 (And.intro @Tk.whole (And.intro @Tk.one (And.intro @Nd.clen (And.intro @Nd.c0 (And.intro @Nd.c1 (And.intro @Nd.c2 (And.intro @Nd.whole (And.intro @Nd.one (And.intro @Gr.clen (And.intro @Gr.c0 (And.intro @Gr.c1 (And.intro @Gr.c2 (And.intro @Gr.c3 (And.intro @Gr.c4 (And.intro @Gr.whole (And.intro @Gr.one (And.intro @Un.clen (And.intro @Un.c0 (And.intro @Un.c1 (And.intro @Un.whole (And.intro @Un.one (And.intro @sliceH_str (And.intro @sliceH_lst (And.intro @sliceH_sl (And.intro @sliceH_nil (And.intro @List.getElem?_drop.{0} (And.intro @Nat.add_zero (And.intro @if_true.{1} (And.intro @astore_p (And.intro @storeC_cells (And.intro @splice_eq (And.intro @cells_agg (And.intro @cells_int (And.intro @cells_bool (And.intro @cells_str (And.intro @cells_lst (And.intro @cells_sl (And.intro @cells_nilS (And.intro @cells_ptr (And.intro @cells_map (And.intro @cells_clo (And.intro @one_int (And.intro @one_bool (And.intro @one_str (And.intro @one_lst (And.intro @one_sl (And.intro @one_nilS (And.intro @one_ptr (And.intro @one_map (And.intro @one_clo (And.intro @List.all_cons.{0} (And.intro @List.all_nil.{0} (And.intro @Bool.and_true (And.intro @Bool.true_and (And.intro @and_true (And.intro @true_and (And.intro @Nat.zero_le (And.intro @Nat.le_refl (And.intro @List.nil_append.{0} (And.intro @List.append_nil.{0} (And.intro @List.cons_append.{0} (And.intro @Hp.next_alloc (And.intro @Hp.next_set (And.intro @H0_next (And.intro @beq_self_eq_true.{0} (And.intro @nb1 (And.intro @nb2 (And.intro @nb3 (And.intro @Nat.add_assoc (And.intro @List.getElem?_map.{0,0} (And.intro @Option.map_some.{0,0} (And.intro @aload_p (And.intro @aload_c (And.intro @loadC_cells (And.intro @rowA_some (And.intro @byteA_some (And.intro @get_set (And.intro @get_alloc (And.intro @List.getElem?_cons_succ.{0} (And.intro @List.getElem?_cons_zero.{0} (And.intro @List.drop_succ_cons.{0} (And.intro @List.drop_zero.{0} (And.intro @List.take_succ_cons.{0} (And.intro @List.take_zero.{0} (And.intro @List.length_cons.{0} (And.intro @List.length_nil.{0} (And.intro @Int.natCast_nonneg (And.intro @Int.toNat_natCast (And.intro @bin_add (And.intro @bin_sub (And.intro @bin_mul (And.intro @bin_and (And.intro @bin_or (And.intro @bin_xor (And.intro @bin_eql (And.intro @bin_neq (And.intro @bin_lss (And.intro @bin_leq (And.intro @bin_gtr (And.intro @bin_geq (And.intro @bin_seq (And.intro @bin_sne (And.intro @un_not (@un_neg))))))))))))))))))))))))))))))))))))))))))))))))))))))))))))))))))))))))))))))))))))))))))))))))))))))))))))))))))))))))))))))))))))))))))))))))))))))))))))))))
structure Plain (cfg:Cfg) (f:FuncId):Prop where
 call:∀ args,cfg.call f args=none
 ice:cfg.ice f=false
 froz:cfg.froz f=false
theorem sz2:sizeA Try.prog 2=some 1:=by kernel_rfl
theorem bt2:bytesA Try.prog 2=some 8:=by kernel_rfl
theorem pt2 (cs:List AV) (o:Nat):partA Try.prog 2 cs o=cs[o]?:=part_one Try.underlying2 rfl cs o
theorem zr2:zeroA Try.prog 2=some [(.int .i64 0)]:=by kernel_rfl
def tq2:=And.intro @sz2 (And.intro @pt2 (And.intro @bt2 (@zr2)))
theorem sz3:sizeA Try.prog 3=some 1:=by kernel_rfl
theorem bt3:bytesA Try.prog 3=some 8:=by kernel_rfl
theorem pt3 (cs:List AV) (o:Nat):partA Try.prog 3 cs o=cs[o]?:=part_one Try.underlying3 rfl cs o
theorem zr3:zeroA Try.prog 3=some [(.int .i64 0)]:=by kernel_rfl
def tq3:=And.intro @sz3 (And.intro @pt3 (And.intro @bt3 (@zr3)))
theorem sz4:sizeA Try.prog 4=some 1:=by kernel_rfl
theorem bt4:bytesA Try.prog 4=some 1:=by kernel_rfl
theorem pt4 (cs:List AV) (o:Nat):partA Try.prog 4 cs o=cs[o]?:=part_one Try.underlying4 rfl cs o
theorem zr4:zeroA Try.prog 4=some [(.bool false)]:=by kernel_rfl
def tq4:=And.intro @sz4 (And.intro @pt4 (And.intro @bt4 (@zr4)))
theorem sz5:sizeA Try.prog 5=some 1:=by kernel_rfl
theorem bt5:bytesA Try.prog 5=some 1:=by kernel_rfl
theorem pt5 (cs:List AV) (o:Nat):partA Try.prog 5 cs o=cs[o]?:=part_one Try.underlying5 rfl cs o
theorem zr5:zeroA Try.prog 5=some [(.int .u8 0)]:=by kernel_rfl
def tq5:=And.intro @sz5 (And.intro @pt5 (And.intro @bt5 (@zr5)))
theorem sz9:sizeA Try.prog 9=some 1:=by kernel_rfl
theorem bt9:bytesA Try.prog 9=some 16:=by kernel_rfl
theorem pt9 (cs:List AV) (o:Nat):partA Try.prog 9 cs o=cs[o]?:=part_one Try.underlying9 rfl cs o
theorem zr9:zeroA Try.prog 9=some [(.str [])]:=by kernel_rfl
theorem ln9 (H:Hp) (s:List UInt8):lenAt Try.prog H 9 (.str s)=some (.int .i64 s.length):=lenAt_str Try.underlying9 s
theorem ix9 (s:List UInt8) {n:Int} (hn:0 ≤ n) (k:IntKind):indexA Try.prog 9 (.str s) (.int k n)=byteA (s[n.toNat]?):=index_str Try.underlying9 s hn k
def tq9:=And.intro @sz9 (And.intro @pt9 (And.intro @bt9 (And.intro @zr9 (And.intro @ln9 (@ix9)))))
theorem sz22:sizeA Try.prog 22=some 1:=by kernel_rfl
theorem bt22:bytesA Try.prog 22=some 24:=by kernel_rfl
theorem pt22 (cs:List AV) (o:Nat):partA Try.prog 22 cs o=cs[o]?:=part_one Try.underlying22 rfl cs o
theorem zr22:zeroA Try.prog 22=some [.nilS]:=by kernel_rfl
theorem ix22l (xs:List (List AV)) {n:Int} (hn:0 ≤ n) (k:IntKind):indexAddrA Try.prog 22 (.lst xs) (.int k n)=rowA 2 (xs[n.toNat]?):=index_lst' Try.underlying22 (show sizeA Try.prog 44=some 2 from by kernel_rfl) xs hn k
theorem ix22s (r o l z:Nat) {n:Int} (hn:0 ≤ n) (k:IntKind):indexAddrA Try.prog 22 (.sl r o l z) (.int k n)=bif decide (n.toNat < l) then some (.ptr r (o + n.toNat * 2)) else none:=index_sl' Try.underlying22 (show sizeA Try.prog 44=some 2 from by kernel_rfl) r o l z hn k
theorem ln22l (H:Hp) (xs:List (List AV)):lenAt Try.prog H 22 (.lst xs)=some (.int .i64 xs.length):=lenAt_lst Try.underlying22 xs
theorem ln22s (H:Hp) (r o n z:Nat):lenAt Try.prog H 22 (.sl r o n z)=some (.int .i64 n):=lenAt_sl Try.underlying22 r o n z
theorem ln22n (H:Hp):lenAt Try.prog H 22 .nilS=some (.int .i64 0):=lenAt_nil Try.underlying22
def tq22:=And.intro @sz22 (And.intro @pt22 (And.intro @bt22 (And.intro @zr22 (And.intro @ix22l (And.intro @ix22s (And.intro @ln22l (And.intro @ln22s (@ln22n))))))))
theorem sz23:sizeA Try.prog 23=some 1:=by kernel_rfl
theorem bt23:bytesA Try.prog 23=some 24:=by kernel_rfl
theorem pt23 (cs:List AV) (o:Nat):partA Try.prog 23 cs o=cs[o]?:=part_one Try.underlying23 rfl cs o
theorem zr23:zeroA Try.prog 23=some [.nilS]:=by kernel_rfl
theorem ix23l (xs:List (List AV)) {n:Int} (hn:0 ≤ n) (k:IntKind):indexAddrA Try.prog 23 (.lst xs) (.int k n)=rowA 9 (xs[n.toNat]?):=index_lst' Try.underlying23 (show sizeA Try.prog 41=some 9 from by kernel_rfl) xs hn k
theorem ix23s (r o l z:Nat) {n:Int} (hn:0 ≤ n) (k:IntKind):indexAddrA Try.prog 23 (.sl r o l z) (.int k n)=bif decide (n.toNat < l) then some (.ptr r (o + n.toNat * 9)) else none:=index_sl' Try.underlying23 (show sizeA Try.prog 41=some 9 from by kernel_rfl) r o l z hn k
theorem ln23l (H:Hp) (xs:List (List AV)):lenAt Try.prog H 23 (.lst xs)=some (.int .i64 xs.length):=lenAt_lst Try.underlying23 xs
theorem ln23s (H:Hp) (r o n z:Nat):lenAt Try.prog H 23 (.sl r o n z)=some (.int .i64 n):=lenAt_sl Try.underlying23 r o n z
theorem ln23n (H:Hp):lenAt Try.prog H 23 .nilS=some (.int .i64 0):=lenAt_nil Try.underlying23
def tq23:=And.intro @sz23 (And.intro @pt23 (And.intro @bt23 (And.intro @zr23 (And.intro @ix23l (And.intro @ix23s (And.intro @ln23l (And.intro @ln23s (@ln23n))))))))
theorem sz25:sizeA Try.prog 25=some 2:=by kernel_rfl
theorem bt25:bytesA Try.prog 25=some 48:=by kernel_rfl
theorem pt25 (cs:List AV) (o:Nat):partA Try.prog 25 cs o=aggA 2 (cs.drop o):=part_agg Try.underlying25 rfl sz25 cs o
theorem zr25:zeroA Try.prog 25=some [.nilS,.nilS]:=by kernel_rfl
theorem fa25_0p (r o:Nat):fieldAddrA Try.prog 25 (.ptr r o) 0=some (.ptr r (o + 0)):=by kernel_rfl
theorem fa25_0c (cs:List AV):fieldAddrA Try.prog 25 (.iptr cs) 0=some (.iptr (cs.drop 0)):=by kernel_rfl
theorem fd25_0 (cs:List AV):fieldA Try.prog 25 (.agg cs) 0=partA Try.prog 22 cs 0:=by kernel_rfl
theorem fa25_1p (r o:Nat):fieldAddrA Try.prog 25 (.ptr r o) 1=some (.ptr r (o + 1)):=by kernel_rfl
theorem fa25_1c (cs:List AV):fieldAddrA Try.prog 25 (.iptr cs) 1=some (.iptr (cs.drop 1)):=by kernel_rfl
theorem fd25_1 (cs:List AV):fieldA Try.prog 25 (.agg cs) 1=partA Try.prog 23 cs 1:=by kernel_rfl
def tq25:=And.intro @sz25 (And.intro @pt25 (And.intro @bt25 (And.intro @zr25 (And.intro @fa25_0p (And.intro @fa25_0c (And.intro @fd25_0 (And.intro @fa25_1p (And.intro @fa25_1c (@fd25_1)))))))))
theorem sz26:sizeA Try.prog 26=some 1:=by kernel_rfl
theorem bt26:bytesA Try.prog 26=some 24:=by kernel_rfl
theorem pt26 (cs:List AV) (o:Nat):partA Try.prog 26 cs o=cs[o]?:=part_one Try.underlying26 rfl cs o
theorem zr26:zeroA Try.prog 26=some [.nilS]:=by kernel_rfl
theorem ix26l (xs:List (List AV)) {n:Int} (hn:0 ≤ n) (k:IntKind):indexAddrA Try.prog 26 (.lst xs) (.int k n)=rowA 1 (xs[n.toNat]?):=index_lst' Try.underlying26 (show sizeA Try.prog 3=some 1 from by kernel_rfl) xs hn k
theorem ix26s (r o l z:Nat) {n:Int} (hn:0 ≤ n) (k:IntKind):indexAddrA Try.prog 26 (.sl r o l z) (.int k n)=bif decide (n.toNat < l) then some (.ptr r (o + n.toNat * 1)) else none:=index_sl' Try.underlying26 (show sizeA Try.prog 3=some 1 from by kernel_rfl) r o l z hn k
theorem ln26l (H:Hp) (xs:List (List AV)):lenAt Try.prog H 26 (.lst xs)=some (.int .i64 xs.length):=lenAt_lst Try.underlying26 xs
theorem ln26s (H:Hp) (r o n z:Nat):lenAt Try.prog H 26 (.sl r o n z)=some (.int .i64 n):=lenAt_sl Try.underlying26 r o n z
theorem ln26n (H:Hp):lenAt Try.prog H 26 .nilS=some (.int .i64 0):=lenAt_nil Try.underlying26
def tq26:=And.intro @sz26 (And.intro @pt26 (And.intro @bt26 (And.intro @zr26 (And.intro @ix26l (And.intro @ix26s (And.intro @ln26l (And.intro @ln26s (@ln26n))))))))
theorem sz29:sizeA Try.prog 29=some 1:=by kernel_rfl
theorem bt29:bytesA Try.prog 29=some 24:=by kernel_rfl
theorem pt29 (cs:List AV) (o:Nat):partA Try.prog 29 cs o=cs[o]?:=part_one Try.underlying29 rfl cs o
theorem zr29:zeroA Try.prog 29=some [.nilS]:=by kernel_rfl
theorem ix29l (xs:List (List AV)) {n:Int} (hn:0 ≤ n) (k:IntKind):indexAddrA Try.prog 29 (.lst xs) (.int k n)=rowA 2 (xs[n.toNat]?):=index_lst' Try.underlying29 (show sizeA Try.prog 25=some 2 from by kernel_rfl) xs hn k
theorem ix29s (r o l z:Nat) {n:Int} (hn:0 ≤ n) (k:IntKind):indexAddrA Try.prog 29 (.sl r o l z) (.int k n)=bif decide (n.toNat < l) then some (.ptr r (o + n.toNat * 2)) else none:=index_sl' Try.underlying29 (show sizeA Try.prog 25=some 2 from by kernel_rfl) r o l z hn k
theorem ln29l (H:Hp) (xs:List (List AV)):lenAt Try.prog H 29 (.lst xs)=some (.int .i64 xs.length):=lenAt_lst Try.underlying29 xs
theorem ln29s (H:Hp) (r o n z:Nat):lenAt Try.prog H 29 (.sl r o n z)=some (.int .i64 n):=lenAt_sl Try.underlying29 r o n z
theorem ln29n (H:Hp):lenAt Try.prog H 29 .nilS=some (.int .i64 0):=lenAt_nil Try.underlying29
def tq29:=And.intro @sz29 (And.intro @pt29 (And.intro @bt29 (And.intro @zr29 (And.intro @ix29l (And.intro @ix29s (And.intro @ln29l (And.intro @ln29s (@ln29n))))))))
theorem sz30:sizeA Try.prog 30=some 1:=by kernel_rfl
theorem bt30:bytesA Try.prog 30=some 8:=by kernel_rfl
theorem pt30 (cs:List AV) (o:Nat):partA Try.prog 30 cs o=cs[o]?:=part_one Try.underlying30 rfl cs o
theorem zr30:zeroA Try.prog 30=some [(.int .i64 0)]:=by kernel_rfl
def tq30:=And.intro @sz30 (And.intro @pt30 (And.intro @bt30 (@zr30)))
theorem sz35:sizeA Try.prog 35=some 1:=by kernel_rfl
theorem bt35:bytesA Try.prog 35=some 24:=by kernel_rfl
theorem pt35 (cs:List AV) (o:Nat):partA Try.prog 35 cs o=cs[o]?:=part_one Try.underlying35 rfl cs o
theorem zr35:zeroA Try.prog 35=some [.nilS]:=by kernel_rfl
theorem ix35l (xs:List (List AV)) {n:Int} (hn:0 ≤ n) (k:IntKind):indexAddrA Try.prog 35 (.lst xs) (.int k n)=rowA 1 (xs[n.toNat]?):=index_lst' Try.underlying35 (show sizeA Try.prog 9=some 1 from by kernel_rfl) xs hn k
theorem ix35s (r o l z:Nat) {n:Int} (hn:0 ≤ n) (k:IntKind):indexAddrA Try.prog 35 (.sl r o l z) (.int k n)=bif decide (n.toNat < l) then some (.ptr r (o + n.toNat * 1)) else none:=index_sl' Try.underlying35 (show sizeA Try.prog 9=some 1 from by kernel_rfl) r o l z hn k
theorem ln35l (H:Hp) (xs:List (List AV)):lenAt Try.prog H 35 (.lst xs)=some (.int .i64 xs.length):=lenAt_lst Try.underlying35 xs
theorem ln35s (H:Hp) (r o n z:Nat):lenAt Try.prog H 35 (.sl r o n z)=some (.int .i64 n):=lenAt_sl Try.underlying35 r o n z
theorem ln35n (H:Hp):lenAt Try.prog H 35 .nilS=some (.int .i64 0):=lenAt_nil Try.underlying35
def tq35:=And.intro @sz35 (And.intro @pt35 (And.intro @bt35 (And.intro @zr35 (And.intro @ix35l (And.intro @ix35s (And.intro @ln35l (And.intro @ln35s (@ln35n))))))))
theorem sz36:sizeA Try.prog 36=some 1:=by kernel_rfl
theorem bt36:bytesA Try.prog 36=some 24:=by kernel_rfl
theorem pt36 (cs:List AV) (o:Nat):partA Try.prog 36 cs o=cs[o]?:=part_one Try.underlying36 rfl cs o
theorem zr36:zeroA Try.prog 36=some [.nilS]:=by kernel_rfl
theorem ix36l (xs:List (List AV)) {n:Int} (hn:0 ≤ n) (k:IntKind):indexAddrA Try.prog 36 (.lst xs) (.int k n)=rowA 17 (xs[n.toNat]?):=index_lst' Try.underlying36 (show sizeA Try.prog 46=some 17 from by kernel_rfl) xs hn k
theorem ix36s (r o l z:Nat) {n:Int} (hn:0 ≤ n) (k:IntKind):indexAddrA Try.prog 36 (.sl r o l z) (.int k n)=bif decide (n.toNat < l) then some (.ptr r (o + n.toNat * 17)) else none:=index_sl' Try.underlying36 (show sizeA Try.prog 46=some 17 from by kernel_rfl) r o l z hn k
theorem ln36l (H:Hp) (xs:List (List AV)):lenAt Try.prog H 36 (.lst xs)=some (.int .i64 xs.length):=lenAt_lst Try.underlying36 xs
theorem ln36s (H:Hp) (r o n z:Nat):lenAt Try.prog H 36 (.sl r o n z)=some (.int .i64 n):=lenAt_sl Try.underlying36 r o n z
theorem ln36n (H:Hp):lenAt Try.prog H 36 .nilS=some (.int .i64 0):=lenAt_nil Try.underlying36
def tq36:=And.intro @sz36 (And.intro @pt36 (And.intro @bt36 (And.intro @zr36 (And.intro @ix36l (And.intro @ix36s (And.intro @ln36l (And.intro @ln36s (@ln36n))))))))
theorem sz37:sizeA Try.prog 37=some 1:=by kernel_rfl
theorem bt37:bytesA Try.prog 37=some 24:=by kernel_rfl
theorem pt37 (cs:List AV) (o:Nat):partA Try.prog 37 cs o=cs[o]?:=part_one Try.underlying37 rfl cs o
theorem zr37:zeroA Try.prog 37=some [.nilS]:=by kernel_rfl
theorem ix37l (xs:List (List AV)) {n:Int} (hn:0 ≤ n) (k:IntKind):indexAddrA Try.prog 37 (.lst xs) (.int k n)=rowA 5 (xs[n.toNat]?):=index_lst' Try.underlying37 (show sizeA Try.prog 39=some 5 from by kernel_rfl) xs hn k
theorem ix37s (r o l z:Nat) {n:Int} (hn:0 ≤ n) (k:IntKind):indexAddrA Try.prog 37 (.sl r o l z) (.int k n)=bif decide (n.toNat < l) then some (.ptr r (o + n.toNat * 5)) else none:=index_sl' Try.underlying37 (show sizeA Try.prog 39=some 5 from by kernel_rfl) r o l z hn k
theorem ln37l (H:Hp) (xs:List (List AV)):lenAt Try.prog H 37 (.lst xs)=some (.int .i64 xs.length):=lenAt_lst Try.underlying37 xs
theorem ln37s (H:Hp) (r o n z:Nat):lenAt Try.prog H 37 (.sl r o n z)=some (.int .i64 n):=lenAt_sl Try.underlying37 r o n z
theorem ln37n (H:Hp):lenAt Try.prog H 37 .nilS=some (.int .i64 0):=lenAt_nil Try.underlying37
def tq37:=And.intro @sz37 (And.intro @pt37 (And.intro @bt37 (And.intro @zr37 (And.intro @ix37l (And.intro @ix37s (And.intro @ln37l (And.intro @ln37s (@ln37n))))))))
theorem sz39:sizeA Try.prog 39=some 5:=by kernel_rfl
theorem bt39:bytesA Try.prog 39=some 64:=by kernel_rfl
theorem pt39 (cs:List AV) (o:Nat):partA Try.prog 39 cs o=aggA 5 (cs.drop o):=part_agg Try.underlying39 rfl sz39 cs o
theorem zr39:zeroA Try.prog 39=some [(.int .i64 0),(.int .i64 0),(.str []),(.int .i64 0),.nilS]:=by kernel_rfl
theorem fa39_0p (r o:Nat):fieldAddrA Try.prog 39 (.ptr r o) 0=some (.ptr r (o + 0)):=by kernel_rfl
theorem fa39_0c (cs:List AV):fieldAddrA Try.prog 39 (.iptr cs) 0=some (.iptr (cs.drop 0)):=by kernel_rfl
theorem fd39_0 (cs:List AV):fieldA Try.prog 39 (.agg cs) 0=partA Try.prog 3 cs 0:=by kernel_rfl
theorem fa39_1p (r o:Nat):fieldAddrA Try.prog 39 (.ptr r o) 1=some (.ptr r (o + 1)):=by kernel_rfl
theorem fa39_1c (cs:List AV):fieldAddrA Try.prog 39 (.iptr cs) 1=some (.iptr (cs.drop 1)):=by kernel_rfl
theorem fd39_1 (cs:List AV):fieldA Try.prog 39 (.agg cs) 1=partA Try.prog 2 cs 1:=by kernel_rfl
theorem fa39_2p (r o:Nat):fieldAddrA Try.prog 39 (.ptr r o) 2=some (.ptr r (o + 2)):=by kernel_rfl
theorem fa39_2c (cs:List AV):fieldAddrA Try.prog 39 (.iptr cs) 2=some (.iptr (cs.drop 2)):=by kernel_rfl
theorem fd39_2 (cs:List AV):fieldA Try.prog 39 (.agg cs) 2=partA Try.prog 9 cs 2:=by kernel_rfl
theorem fa39_3p (r o:Nat):fieldAddrA Try.prog 39 (.ptr r o) 3=some (.ptr r (o + 3)):=by kernel_rfl
theorem fa39_3c (cs:List AV):fieldAddrA Try.prog 39 (.iptr cs) 3=some (.iptr (cs.drop 3)):=by kernel_rfl
theorem fd39_3 (cs:List AV):fieldA Try.prog 39 (.agg cs) 3=partA Try.prog 3 cs 3:=by kernel_rfl
theorem fa39_4p (r o:Nat):fieldAddrA Try.prog 39 (.ptr r o) 4=some (.ptr r (o + 4)):=by kernel_rfl
theorem fa39_4c (cs:List AV):fieldAddrA Try.prog 39 (.iptr cs) 4=some (.iptr (cs.drop 4)):=by kernel_rfl
theorem fd39_4 (cs:List AV):fieldA Try.prog 39 (.agg cs) 4=partA Try.prog 37 cs 4:=by kernel_rfl
def tq39:=And.intro @sz39 (And.intro @pt39 (And.intro @bt39 (And.intro @zr39 (And.intro @fa39_0p (And.intro @fa39_0c (And.intro @fd39_0 (And.intro @fa39_1p (And.intro @fa39_1c (And.intro @fd39_1 (And.intro @fa39_2p (And.intro @fa39_2c (And.intro @fd39_2 (And.intro @fa39_3p (And.intro @fa39_3c (And.intro @fd39_3 (And.intro @fa39_4p (And.intro @fa39_4c (@fd39_4))))))))))))))))))
theorem sz41:sizeA Try.prog 41=some 9:=by kernel_rfl
theorem bt41:bytesA Try.prog 41=some 152:=by kernel_rfl
theorem pt41 (cs:List AV) (o:Nat):partA Try.prog 41 cs o=aggA 9 (cs.drop o):=part_agg Try.underlying41 rfl sz41 cs o
theorem zr41:zeroA Try.prog 41=some [(.str []),.nilS,.nilS,.nilS,(.int .i64 0),(.int .i64 0),(.str []),(.int .i64 0),.nilS]:=by kernel_rfl
theorem fa41_0p (r o:Nat):fieldAddrA Try.prog 41 (.ptr r o) 0=some (.ptr r (o + 0)):=by kernel_rfl
theorem fa41_0c (cs:List AV):fieldAddrA Try.prog 41 (.iptr cs) 0=some (.iptr (cs.drop 0)):=by kernel_rfl
theorem fd41_0 (cs:List AV):fieldA Try.prog 41 (.agg cs) 0=partA Try.prog 9 cs 0:=by kernel_rfl
theorem fa41_1p (r o:Nat):fieldAddrA Try.prog 41 (.ptr r o) 1=some (.ptr r (o + 1)):=by kernel_rfl
theorem fa41_1c (cs:List AV):fieldAddrA Try.prog 41 (.iptr cs) 1=some (.iptr (cs.drop 1)):=by kernel_rfl
theorem fd41_1 (cs:List AV):fieldA Try.prog 41 (.agg cs) 1=partA Try.prog 35 cs 1:=by kernel_rfl
theorem fa41_2p (r o:Nat):fieldAddrA Try.prog 41 (.ptr r o) 2=some (.ptr r (o + 2)):=by kernel_rfl
theorem fa41_2c (cs:List AV):fieldAddrA Try.prog 41 (.iptr cs) 2=some (.iptr (cs.drop 2)):=by kernel_rfl
theorem fd41_2 (cs:List AV):fieldA Try.prog 41 (.agg cs) 2=partA Try.prog 35 cs 2:=by kernel_rfl
theorem fa41_3p (r o:Nat):fieldAddrA Try.prog 41 (.ptr r o) 3=some (.ptr r (o + 3)):=by kernel_rfl
theorem fa41_3c (cs:List AV):fieldAddrA Try.prog 41 (.iptr cs) 3=some (.iptr (cs.drop 3)):=by kernel_rfl
theorem fd41_3 (cs:List AV):fieldA Try.prog 41 (.agg cs) 3=partA Try.prog 36 cs 3:=by kernel_rfl
theorem fa41_4p (r o:Nat):fieldAddrA Try.prog 41 (.ptr r o) 4=some (.ptr r (o + 4)):=by kernel_rfl
theorem fa41_4c (cs:List AV):fieldAddrA Try.prog 41 (.iptr cs) 4=some (.iptr (cs.drop 4)):=by kernel_rfl
theorem fd41_4 (cs:List AV):fieldA Try.prog 41 (.agg cs) 4=partA Try.prog 39 cs 4:=by kernel_rfl
def tq41:=And.intro @sz41 (And.intro @pt41 (And.intro @bt41 (And.intro @zr41 (And.intro @fa41_0p (And.intro @fa41_0c (And.intro @fd41_0 (And.intro @fa41_1p (And.intro @fa41_1c (And.intro @fd41_1 (And.intro @fa41_2p (And.intro @fa41_2c (And.intro @fd41_2 (And.intro @fa41_3p (And.intro @fa41_3c (And.intro @fd41_3 (And.intro @fa41_4p (And.intro @fa41_4c (@fd41_4))))))))))))))))))
theorem sz44:sizeA Try.prog 44=some 2:=by kernel_rfl
theorem bt44:bytesA Try.prog 44=some 24:=by kernel_rfl
theorem pt44 (cs:List AV) (o:Nat):partA Try.prog 44 cs o=aggA 2 (cs.drop o):=part_agg Try.underlying44 rfl sz44 cs o
theorem zr44:zeroA Try.prog 44=some [(.str []),(.int .i64 0)]:=by kernel_rfl
theorem fa44_0p (r o:Nat):fieldAddrA Try.prog 44 (.ptr r o) 0=some (.ptr r (o + 0)):=by kernel_rfl
theorem fa44_0c (cs:List AV):fieldAddrA Try.prog 44 (.iptr cs) 0=some (.iptr (cs.drop 0)):=by kernel_rfl
theorem fd44_0 (cs:List AV):fieldA Try.prog 44 (.agg cs) 0=partA Try.prog 9 cs 0:=by kernel_rfl
theorem fa44_1p (r o:Nat):fieldAddrA Try.prog 44 (.ptr r o) 1=some (.ptr r (o + 1)):=by kernel_rfl
theorem fa44_1c (cs:List AV):fieldAddrA Try.prog 44 (.iptr cs) 1=some (.iptr (cs.drop 1)):=by kernel_rfl
theorem fd44_1 (cs:List AV):fieldA Try.prog 44 (.agg cs) 1=partA Try.prog 3 cs 1:=by kernel_rfl
def tq44:=And.intro @sz44 (And.intro @pt44 (And.intro @bt44 (And.intro @zr44 (And.intro @fa44_0p (And.intro @fa44_0c (And.intro @fd44_0 (And.intro @fa44_1p (And.intro @fa44_1c (@fd44_1)))))))))
theorem sz46:sizeA Try.prog 46=some 17:=by kernel_rfl
theorem bt46:bytesA Try.prog 46=some 248:=by kernel_rfl
theorem pt46 (cs:List AV) (o:Nat):partA Try.prog 46 cs o=aggA 17 (cs.drop o):=part_agg Try.underlying46 rfl sz46 cs o
theorem zr46:zeroA Try.prog 46=some [(.int .i64 0),(.str []),(.str []),(.int .i64 0),(.int .i64 0),(.int .i64 0),(.str []),(.int .i64 0),.nilS,(.int .i64 0),(.int .i64 0),(.str []),(.int .i64 0),.nilS,.nilS,.nilS,.nilS]:=by kernel_rfl
theorem fa46_0p (r o:Nat):fieldAddrA Try.prog 46 (.ptr r o) 0=some (.ptr r (o + 0)):=by kernel_rfl
theorem fa46_0c (cs:List AV):fieldAddrA Try.prog 46 (.iptr cs) 0=some (.iptr (cs.drop 0)):=by kernel_rfl
theorem fd46_0 (cs:List AV):fieldA Try.prog 46 (.agg cs) 0=partA Try.prog 3 cs 0:=by kernel_rfl
theorem fa46_1p (r o:Nat):fieldAddrA Try.prog 46 (.ptr r o) 1=some (.ptr r (o + 1)):=by kernel_rfl
theorem fa46_1c (cs:List AV):fieldAddrA Try.prog 46 (.iptr cs) 1=some (.iptr (cs.drop 1)):=by kernel_rfl
theorem fd46_1 (cs:List AV):fieldA Try.prog 46 (.agg cs) 1=partA Try.prog 9 cs 1:=by kernel_rfl
theorem fa46_2p (r o:Nat):fieldAddrA Try.prog 46 (.ptr r o) 2=some (.ptr r (o + 2)):=by kernel_rfl
theorem fa46_2c (cs:List AV):fieldAddrA Try.prog 46 (.iptr cs) 2=some (.iptr (cs.drop 2)):=by kernel_rfl
theorem fd46_2 (cs:List AV):fieldA Try.prog 46 (.agg cs) 2=partA Try.prog 9 cs 2:=by kernel_rfl
theorem fa46_3p (r o:Nat):fieldAddrA Try.prog 46 (.ptr r o) 3=some (.ptr r (o + 3)):=by kernel_rfl
theorem fa46_3c (cs:List AV):fieldAddrA Try.prog 46 (.iptr cs) 3=some (.iptr (cs.drop 3)):=by kernel_rfl
theorem fd46_3 (cs:List AV):fieldA Try.prog 46 (.agg cs) 3=partA Try.prog 3 cs 3:=by kernel_rfl
theorem fa46_4p (r o:Nat):fieldAddrA Try.prog 46 (.ptr r o) 4=some (.ptr r (o + 4)):=by kernel_rfl
theorem fa46_4c (cs:List AV):fieldAddrA Try.prog 46 (.iptr cs) 4=some (.iptr (cs.drop 4)):=by kernel_rfl
theorem fd46_4 (cs:List AV):fieldA Try.prog 46 (.agg cs) 4=partA Try.prog 39 cs 4:=by kernel_rfl
theorem fa46_5p (r o:Nat):fieldAddrA Try.prog 46 (.ptr r o) 5=some (.ptr r (o + 9)):=by kernel_rfl
theorem fa46_5c (cs:List AV):fieldAddrA Try.prog 46 (.iptr cs) 5=some (.iptr (cs.drop 9)):=by kernel_rfl
theorem fd46_5 (cs:List AV):fieldA Try.prog 46 (.agg cs) 5=partA Try.prog 39 cs 9:=by kernel_rfl
theorem fa46_6p (r o:Nat):fieldAddrA Try.prog 46 (.ptr r o) 6=some (.ptr r (o + 14)):=by kernel_rfl
theorem fa46_6c (cs:List AV):fieldAddrA Try.prog 46 (.iptr cs) 6=some (.iptr (cs.drop 14)):=by kernel_rfl
theorem fd46_6 (cs:List AV):fieldA Try.prog 46 (.agg cs) 6=partA Try.prog 37 cs 14:=by kernel_rfl
theorem fa46_7p (r o:Nat):fieldAddrA Try.prog 46 (.ptr r o) 7=some (.ptr r (o + 15)):=by kernel_rfl
theorem fa46_7c (cs:List AV):fieldAddrA Try.prog 46 (.iptr cs) 7=some (.iptr (cs.drop 15)):=by kernel_rfl
theorem fd46_7 (cs:List AV):fieldA Try.prog 46 (.agg cs) 7=partA Try.prog 36 cs 15:=by kernel_rfl
theorem fa46_8p (r o:Nat):fieldAddrA Try.prog 46 (.ptr r o) 8=some (.ptr r (o + 16)):=by kernel_rfl
theorem fa46_8c (cs:List AV):fieldAddrA Try.prog 46 (.iptr cs) 8=some (.iptr (cs.drop 16)):=by kernel_rfl
theorem fd46_8 (cs:List AV):fieldA Try.prog 46 (.agg cs) 8=partA Try.prog 36 cs 16:=by kernel_rfl
def tq46:=And.intro @sz46 (And.intro @pt46 (And.intro @bt46 (And.intro @zr46 (And.intro @fa46_0p (And.intro @fa46_0c (And.intro @fd46_0 (And.intro @fa46_1p (And.intro @fa46_1c (And.intro @fd46_1 (And.intro @fa46_2p (And.intro @fa46_2c (And.intro @fd46_2 (And.intro @fa46_3p (And.intro @fa46_3c (And.intro @fd46_3 (And.intro @fa46_4p (And.intro @fa46_4c (And.intro @fd46_4 (And.intro @fa46_5p (And.intro @fa46_5c (And.intro @fd46_5 (And.intro @fa46_6p (And.intro @fa46_6c (And.intro @fd46_6 (And.intro @fa46_7p (And.intro @fa46_7c (And.intro @fd46_7 (And.intro @fa46_8p (And.intro @fa46_8c (@fd46_8))))))))))))))))))))))))))))))
theorem sz51:sizeA Try.prog 51=some 2:=by kernel_rfl
theorem bt51:bytesA Try.prog 51=some 16:=by kernel_rfl
theorem pt51 (cs:List AV) (o:Nat):partA Try.prog 51 cs o=aggA 2 (cs.drop o):=part_agg Try.underlying51 rfl sz51 cs o
theorem zr51:zeroA Try.prog 51=some [(.int .i64 0),(.int .i64 0)]:=by kernel_rfl
theorem fa51_0p (r o:Nat):fieldAddrA Try.prog 51 (.ptr r o) 0=some (.ptr r (o + 0)):=by kernel_rfl
theorem fa51_0c (cs:List AV):fieldAddrA Try.prog 51 (.iptr cs) 0=some (.iptr (cs.drop 0)):=by kernel_rfl
theorem fd51_0 (cs:List AV):fieldA Try.prog 51 (.agg cs) 0=partA Try.prog 30 cs 0:=by kernel_rfl
theorem fa51_1p (r o:Nat):fieldAddrA Try.prog 51 (.ptr r o) 1=some (.ptr r (o + 1)):=by kernel_rfl
theorem fa51_1c (cs:List AV):fieldAddrA Try.prog 51 (.iptr cs) 1=some (.iptr (cs.drop 1)):=by kernel_rfl
theorem fd51_1 (cs:List AV):fieldA Try.prog 51 (.agg cs) 1=partA Try.prog 3 cs 1:=by kernel_rfl
def tq51:=And.intro @sz51 (And.intro @pt51 (And.intro @bt51 (And.intro @zr51 (And.intro @fa51_0p (And.intro @fa51_0c (And.intro @fd51_0 (And.intro @fa51_1p (And.intro @fa51_1c (@fd51_1)))))))))
theorem sz54:sizeA Try.prog 54=some 1:=by kernel_rfl
theorem bt54:bytesA Try.prog 54=some 24:=by kernel_rfl
theorem pt54 (cs:List AV) (o:Nat):partA Try.prog 54 cs o=cs[o]?:=part_one Try.underlying54 rfl cs o
theorem zr54:zeroA Try.prog 54=some [.nilS]:=by kernel_rfl
theorem ix54l (xs:List (List AV)) {n:Int} (hn:0 ≤ n) (k:IntKind):indexAddrA Try.prog 54 (.lst xs) (.int k n)=rowA 1 (xs[n.toNat]?):=index_lst' Try.underlying54 (show sizeA Try.prog 2=some 1 from by kernel_rfl) xs hn k
theorem ix54s (r o l z:Nat) {n:Int} (hn:0 ≤ n) (k:IntKind):indexAddrA Try.prog 54 (.sl r o l z) (.int k n)=bif decide (n.toNat < l) then some (.ptr r (o + n.toNat * 1)) else none:=index_sl' Try.underlying54 (show sizeA Try.prog 2=some 1 from by kernel_rfl) r o l z hn k
theorem ln54l (H:Hp) (xs:List (List AV)):lenAt Try.prog H 54 (.lst xs)=some (.int .i64 xs.length):=lenAt_lst Try.underlying54 xs
theorem ln54s (H:Hp) (r o n z:Nat):lenAt Try.prog H 54 (.sl r o n z)=some (.int .i64 n):=lenAt_sl Try.underlying54 r o n z
theorem ln54n (H:Hp):lenAt Try.prog H 54 .nilS=some (.int .i64 0):=lenAt_nil Try.underlying54
def tq54:=And.intro @sz54 (And.intro @pt54 (And.intro @bt54 (And.intro @zr54 (And.intro @ix54l (And.intro @ix54s (And.intro @ln54l (And.intro @ln54s (@ln54n))))))))
theorem sz80:sizeA Try.prog 80=some 2:=by kernel_rfl
theorem bt80:bytesA Try.prog 80=some 32:=by kernel_rfl
theorem pt80 (cs:List AV) (o:Nat):partA Try.prog 80 cs o=aggA 2 (cs.drop o):=part_agg Try.underlying80 rfl sz80 cs o
theorem zr80:zeroA Try.prog 80=some [.nilS,(.int .i64 0)]:=by kernel_rfl
theorem fa80_0p (r o:Nat):fieldAddrA Try.prog 80 (.ptr r o) 0=some (.ptr r (o + 0)):=by kernel_rfl
theorem fa80_0c (cs:List AV):fieldAddrA Try.prog 80 (.iptr cs) 0=some (.iptr (cs.drop 0)):=by kernel_rfl
theorem fd80_0 (cs:List AV):fieldA Try.prog 80 (.agg cs) 0=partA Try.prog 26 cs 0:=by kernel_rfl
theorem fa80_1p (r o:Nat):fieldAddrA Try.prog 80 (.ptr r o) 1=some (.ptr r (o + 1)):=by kernel_rfl
theorem fa80_1c (cs:List AV):fieldAddrA Try.prog 80 (.iptr cs) 1=some (.iptr (cs.drop 1)):=by kernel_rfl
theorem fd80_1 (cs:List AV):fieldA Try.prog 80 (.agg cs) 1=partA Try.prog 3 cs 1:=by kernel_rfl
def tq80:=And.intro @sz80 (And.intro @pt80 (And.intro @bt80 (And.intro @zr80 (And.intro @fa80_0p (And.intro @fa80_0c (And.intro @fd80_0 (And.intro @fa80_1p (And.intro @fa80_1c (@fd80_1)))))))))
theorem sz84:sizeA Try.prog 84=some 1:=by kernel_rfl
theorem bt84:bytesA Try.prog 84=some 24:=by kernel_rfl
theorem pt84 (cs:List AV) (o:Nat):partA Try.prog 84 cs o=cs[o]?:=part_one Try.underlying84 rfl cs o
theorem zr84:zeroA Try.prog 84=some [.nilS]:=by kernel_rfl
theorem ix84l (xs:List (List AV)) {n:Int} (hn:0 ≤ n) (k:IntKind):indexAddrA Try.prog 84 (.lst xs) (.int k n)=rowA 1 (xs[n.toNat]?):=index_lst' Try.underlying84 (show sizeA Try.prog 5=some 1 from by kernel_rfl) xs hn k
theorem ix84s (r o l z:Nat) {n:Int} (hn:0 ≤ n) (k:IntKind):indexAddrA Try.prog 84 (.sl r o l z) (.int k n)=bif decide (n.toNat < l) then some (.ptr r (o + n.toNat * 1)) else none:=index_sl' Try.underlying84 (show sizeA Try.prog 5=some 1 from by kernel_rfl) r o l z hn k
theorem ln84l (H:Hp) (xs:List (List AV)):lenAt Try.prog H 84 (.lst xs)=some (.int .i64 xs.length):=lenAt_lst Try.underlying84 xs
theorem ln84s (H:Hp) (r o n z:Nat):lenAt Try.prog H 84 (.sl r o n z)=some (.int .i64 n):=lenAt_sl Try.underlying84 r o n z
theorem ln84n (H:Hp):lenAt Try.prog H 84 .nilS=some (.int .i64 0):=lenAt_nil Try.underlying84
def tq84:=And.intro @sz84 (And.intro @pt84 (And.intro @bt84 (And.intro @zr84 (And.intro @ix84l (And.intro @ix84s (And.intro @ln84l (And.intro @ln84s (@ln84n))))))))
theorem sz89:sizeA Try.prog 89=some 4:=by kernel_rfl
theorem bt89:bytesA Try.prog 89=some 96:=by kernel_rfl
theorem pt89 (cs:List AV) (o:Nat):partA Try.prog 89 cs o=aggA 4 (cs.drop o):=part_agg Try.underlying89 rfl sz89 cs o
theorem zr89:zeroA Try.prog 89=some [.nilS,.nilS,.nilS,.nilS]:=by kernel_rfl
theorem fa89_0p (r o:Nat):fieldAddrA Try.prog 89 (.ptr r o) 0=some (.ptr r (o + 0)):=by kernel_rfl
theorem fa89_0c (cs:List AV):fieldAddrA Try.prog 89 (.iptr cs) 0=some (.iptr (cs.drop 0)):=by kernel_rfl
theorem fd89_0 (cs:List AV):fieldA Try.prog 89 (.agg cs) 0=partA Try.prog 35 cs 0:=by kernel_rfl
theorem fa89_1p (r o:Nat):fieldAddrA Try.prog 89 (.ptr r o) 1=some (.ptr r (o + 1)):=by kernel_rfl
theorem fa89_1c (cs:List AV):fieldAddrA Try.prog 89 (.iptr cs) 1=some (.iptr (cs.drop 1)):=by kernel_rfl
theorem fd89_1 (cs:List AV):fieldA Try.prog 89 (.agg cs) 1=partA Try.prog 35 cs 1:=by kernel_rfl
theorem fa89_2p (r o:Nat):fieldAddrA Try.prog 89 (.ptr r o) 2=some (.ptr r (o + 2)):=by kernel_rfl
theorem fa89_2c (cs:List AV):fieldAddrA Try.prog 89 (.iptr cs) 2=some (.iptr (cs.drop 2)):=by kernel_rfl
theorem fd89_2 (cs:List AV):fieldA Try.prog 89 (.agg cs) 2=partA Try.prog 25 cs 2:=by kernel_rfl
def tq89:=And.intro @sz89 (And.intro @pt89 (And.intro @bt89 (And.intro @zr89 (And.intro @fa89_0p (And.intro @fa89_0c (And.intro @fd89_0 (And.intro @fa89_1p (And.intro @fa89_1c (And.intro @fd89_1 (And.intro @fa89_2p (And.intro @fa89_2c (@fd89_2))))))))))))
theorem sz92:sizeA Try.prog 92=some 1:=by kernel_rfl
theorem bt92:bytesA Try.prog 92=some 24:=by kernel_rfl
theorem pt92 (cs:List AV) (o:Nat):partA Try.prog 92 cs o=cs[o]?:=part_one Try.underlying92 rfl cs o
theorem zr92:zeroA Try.prog 92=some [.nilS]:=by kernel_rfl
theorem ix92l (xs:List (List AV)) {n:Int} (hn:0 ≤ n) (k:IntKind):indexAddrA Try.prog 92 (.lst xs) (.int k n)=rowA 3 (xs[n.toNat]?):=index_lst' Try.underlying92 (show sizeA Try.prog 142=some 3 from by kernel_rfl) xs hn k
theorem ix92s (r o l z:Nat) {n:Int} (hn:0 ≤ n) (k:IntKind):indexAddrA Try.prog 92 (.sl r o l z) (.int k n)=bif decide (n.toNat < l) then some (.ptr r (o + n.toNat * 3)) else none:=index_sl' Try.underlying92 (show sizeA Try.prog 142=some 3 from by kernel_rfl) r o l z hn k
theorem ln92l (H:Hp) (xs:List (List AV)):lenAt Try.prog H 92 (.lst xs)=some (.int .i64 xs.length):=lenAt_lst Try.underlying92 xs
theorem ln92s (H:Hp) (r o n z:Nat):lenAt Try.prog H 92 (.sl r o n z)=some (.int .i64 n):=lenAt_sl Try.underlying92 r o n z
theorem ln92n (H:Hp):lenAt Try.prog H 92 .nilS=some (.int .i64 0):=lenAt_nil Try.underlying92
def tq92:=And.intro @sz92 (And.intro @pt92 (And.intro @bt92 (And.intro @zr92 (And.intro @ix92l (And.intro @ix92s (And.intro @ln92l (And.intro @ln92s (@ln92n))))))))
theorem sz104:sizeA Try.prog 104=some 1:=by kernel_rfl
theorem bt104:bytesA Try.prog 104=some 8:=by kernel_rfl
theorem pt104 (cs:List AV) (o:Nat):partA Try.prog 104 cs o=cs[o]?:=part_one Try.underlying104 rfl cs o
theorem zr104:zeroA Try.prog 104=some [.nilM]:=by kernel_rfl
def tq104:=And.intro @sz104 (And.intro @pt104 (And.intro @bt104 (@zr104)))
theorem sz125:sizeA Try.prog 125=some 1:=by kernel_rfl
theorem bt125:bytesA Try.prog 125=some 8:=by kernel_rfl
theorem pt125 (cs:List AV) (o:Nat):partA Try.prog 125 cs o=cs[o]?:=part_one Try.underlying125 rfl cs o
theorem zr125:zeroA Try.prog 125=some [.nilF]:=by kernel_rfl
def tq125:=And.intro @sz125 (And.intro @pt125 (And.intro @bt125 (@zr125)))
theorem sz132:sizeA Try.prog 132=some 1:=by kernel_rfl
theorem bt132:bytesA Try.prog 132=some 8:=by kernel_rfl
theorem pt132 (cs:List AV) (o:Nat):partA Try.prog 132 cs o=cs[o]?:=part_one Try.underlying132 rfl cs o
theorem zr132:zeroA Try.prog 132=some [.nilM]:=by kernel_rfl
def tq132:=And.intro @sz132 (And.intro @pt132 (And.intro @bt132 (@zr132)))
theorem sz142:sizeA Try.prog 142=some 3:=by kernel_rfl
theorem bt142:bytesA Try.prog 142=some 32:=by kernel_rfl
theorem pt142 (cs:List AV) (o:Nat):partA Try.prog 142 cs o=aggA 3 (cs.drop o):=part_agg Try.underlying142 rfl sz142 cs o
theorem zr142:zeroA Try.prog 142=some [(.int .i64 0),(.str []),(.int .i64 0)]:=by kernel_rfl
theorem fa142_0p (r o:Nat):fieldAddrA Try.prog 142 (.ptr r o) 0=some (.ptr r (o + 0)):=by kernel_rfl
theorem fa142_0c (cs:List AV):fieldAddrA Try.prog 142 (.iptr cs) 0=some (.iptr (cs.drop 0)):=by kernel_rfl
theorem fd142_0 (cs:List AV):fieldA Try.prog 142 (.agg cs) 0=partA Try.prog 3 cs 0:=by kernel_rfl
theorem fa142_1p (r o:Nat):fieldAddrA Try.prog 142 (.ptr r o) 1=some (.ptr r (o + 1)):=by kernel_rfl
theorem fa142_1c (cs:List AV):fieldAddrA Try.prog 142 (.iptr cs) 1=some (.iptr (cs.drop 1)):=by kernel_rfl
theorem fd142_1 (cs:List AV):fieldA Try.prog 142 (.agg cs) 1=partA Try.prog 9 cs 1:=by kernel_rfl
theorem fa142_2p (r o:Nat):fieldAddrA Try.prog 142 (.ptr r o) 2=some (.ptr r (o + 2)):=by kernel_rfl
theorem fa142_2c (cs:List AV):fieldAddrA Try.prog 142 (.iptr cs) 2=some (.iptr (cs.drop 2)):=by kernel_rfl
theorem fd142_2 (cs:List AV):fieldA Try.prog 142 (.agg cs) 2=partA Try.prog 3 cs 2:=by kernel_rfl
def tq142:=And.intro @sz142 (And.intro @pt142 (And.intro @bt142 (And.intro @zr142 (And.intro @fa142_0p (And.intro @fa142_0c (And.intro @fd142_0 (And.intro @fa142_1p (And.intro @fa142_1c (And.intro @fd142_1 (And.intro @fa142_2p (And.intro @fa142_2c (@fd142_2))))))))))))
theorem sz171:sizeA Try.prog 171=some 8:=by kernel_rfl
theorem bt171:bytesA Try.prog 171=some 8:=by kernel_rfl
theorem pt171 (cs:List AV) (o:Nat):partA Try.prog 171 cs o=aggA 8 (cs.drop o):=part_agg Try.underlying171 rfl sz171 cs o
theorem zr171:zeroA Try.prog 171=some [(.bool false),(.bool false),(.bool false),(.bool false),(.bool false),(.bool false),(.bool false),(.bool false)]:=by kernel_rfl
theorem fa171_0p (r o:Nat):fieldAddrA Try.prog 171 (.ptr r o) 0=some (.ptr r (o + 0)):=by kernel_rfl
theorem fa171_0c (cs:List AV):fieldAddrA Try.prog 171 (.iptr cs) 0=some (.iptr (cs.drop 0)):=by kernel_rfl
theorem fd171_0 (cs:List AV):fieldA Try.prog 171 (.agg cs) 0=partA Try.prog 4 cs 0:=by kernel_rfl
theorem fa171_1p (r o:Nat):fieldAddrA Try.prog 171 (.ptr r o) 1=some (.ptr r (o + 1)):=by kernel_rfl
theorem fa171_1c (cs:List AV):fieldAddrA Try.prog 171 (.iptr cs) 1=some (.iptr (cs.drop 1)):=by kernel_rfl
theorem fd171_1 (cs:List AV):fieldA Try.prog 171 (.agg cs) 1=partA Try.prog 4 cs 1:=by kernel_rfl
theorem fa171_2p (r o:Nat):fieldAddrA Try.prog 171 (.ptr r o) 2=some (.ptr r (o + 2)):=by kernel_rfl
theorem fa171_2c (cs:List AV):fieldAddrA Try.prog 171 (.iptr cs) 2=some (.iptr (cs.drop 2)):=by kernel_rfl
theorem fd171_2 (cs:List AV):fieldA Try.prog 171 (.agg cs) 2=partA Try.prog 4 cs 2:=by kernel_rfl
theorem fa171_3p (r o:Nat):fieldAddrA Try.prog 171 (.ptr r o) 3=some (.ptr r (o + 3)):=by kernel_rfl
theorem fa171_3c (cs:List AV):fieldAddrA Try.prog 171 (.iptr cs) 3=some (.iptr (cs.drop 3)):=by kernel_rfl
theorem fd171_3 (cs:List AV):fieldA Try.prog 171 (.agg cs) 3=partA Try.prog 4 cs 3:=by kernel_rfl
theorem fa171_4p (r o:Nat):fieldAddrA Try.prog 171 (.ptr r o) 4=some (.ptr r (o + 4)):=by kernel_rfl
theorem fa171_4c (cs:List AV):fieldAddrA Try.prog 171 (.iptr cs) 4=some (.iptr (cs.drop 4)):=by kernel_rfl
theorem fd171_4 (cs:List AV):fieldA Try.prog 171 (.agg cs) 4=partA Try.prog 4 cs 4:=by kernel_rfl
theorem fa171_5p (r o:Nat):fieldAddrA Try.prog 171 (.ptr r o) 5=some (.ptr r (o + 5)):=by kernel_rfl
theorem fa171_5c (cs:List AV):fieldAddrA Try.prog 171 (.iptr cs) 5=some (.iptr (cs.drop 5)):=by kernel_rfl
theorem fd171_5 (cs:List AV):fieldA Try.prog 171 (.agg cs) 5=partA Try.prog 4 cs 5:=by kernel_rfl
theorem fa171_6p (r o:Nat):fieldAddrA Try.prog 171 (.ptr r o) 6=some (.ptr r (o + 6)):=by kernel_rfl
theorem fa171_6c (cs:List AV):fieldAddrA Try.prog 171 (.iptr cs) 6=some (.iptr (cs.drop 6)):=by kernel_rfl
theorem fd171_6 (cs:List AV):fieldA Try.prog 171 (.agg cs) 6=partA Try.prog 4 cs 6:=by kernel_rfl
theorem fa171_7p (r o:Nat):fieldAddrA Try.prog 171 (.ptr r o) 7=some (.ptr r (o + 7)):=by kernel_rfl
theorem fa171_7c (cs:List AV):fieldAddrA Try.prog 171 (.iptr cs) 7=some (.iptr (cs.drop 7)):=by kernel_rfl
theorem fd171_7 (cs:List AV):fieldA Try.prog 171 (.agg cs) 7=partA Try.prog 4 cs 7:=by kernel_rfl
def tq171:=And.intro @sz171 (And.intro @pt171 (And.intro @bt171 (And.intro @zr171 (And.intro @fa171_0p (And.intro @fa171_0c (And.intro @fd171_0 (And.intro @fa171_1p (And.intro @fa171_1c (And.intro @fd171_1 (And.intro @fa171_2p (And.intro @fa171_2c (And.intro @fd171_2 (And.intro @fa171_3p (And.intro @fa171_3c (And.intro @fd171_3 (And.intro @fa171_4p (And.intro @fa171_4c (And.intro @fd171_4 (And.intro @fa171_5p (And.intro @fa171_5c (And.intro @fd171_5 (And.intro @fa171_6p (And.intro @fa171_6c (And.intro @fd171_6 (And.intro @fa171_7p (And.intro @fa171_7c (@fd171_7)))))))))))))))))))))))))))
theorem sz176:sizeA Try.prog 176=some 1:=by kernel_rfl
theorem bt176:bytesA Try.prog 176=some 24:=by kernel_rfl
theorem pt176 (cs:List AV) (o:Nat):partA Try.prog 176 cs o=cs[o]?:=part_one Try.underlying176 rfl cs o
theorem zr176:zeroA Try.prog 176=some [.nilS]:=by kernel_rfl
theorem ix176l (xs:List (List AV)) {n:Int} (hn:0 ≤ n) (k:IntKind):indexAddrA Try.prog 176 (.lst xs) (.int k n)=rowA 1 (xs[n.toNat]?):=index_lst' Try.underlying176 (show sizeA Try.prog 35=some 1 from by kernel_rfl) xs hn k
theorem ix176s (r o l z:Nat) {n:Int} (hn:0 ≤ n) (k:IntKind):indexAddrA Try.prog 176 (.sl r o l z) (.int k n)=bif decide (n.toNat < l) then some (.ptr r (o + n.toNat * 1)) else none:=index_sl' Try.underlying176 (show sizeA Try.prog 35=some 1 from by kernel_rfl) r o l z hn k
theorem ln176l (H:Hp) (xs:List (List AV)):lenAt Try.prog H 176 (.lst xs)=some (.int .i64 xs.length):=lenAt_lst Try.underlying176 xs
theorem ln176s (H:Hp) (r o n z:Nat):lenAt Try.prog H 176 (.sl r o n z)=some (.int .i64 n):=lenAt_sl Try.underlying176 r o n z
theorem ln176n (H:Hp):lenAt Try.prog H 176 .nilS=some (.int .i64 0):=lenAt_nil Try.underlying176
def tq176:=And.intro @sz176 (And.intro @pt176 (And.intro @bt176 (And.intro @zr176 (And.intro @ix176l (And.intro @ix176s (And.intro @ln176l (And.intro @ln176s (@ln176n))))))))
theorem sz201:sizeA Try.prog 201=some 7:=by kernel_rfl
theorem bt201:bytesA Try.prog 201=some 112:=by kernel_rfl
theorem pt201 (cs:List AV) (o:Nat):partA Try.prog 201 cs o=aggA 7 (cs.drop o):=part_agg Try.underlying201 rfl sz201 cs o
theorem zr201:zeroA Try.prog 201=some [(.str []),(.str []),(.str []),(.str []),(.str []),(.str []),(.str [])]:=by kernel_rfl
def tq201:=And.intro @sz201 (And.intro @pt201 (And.intro @bt201 (@zr201)))
theorem cv3_5 (H:Hp) (k:IntKind) (n:Int):convertA Try.prog H 3 5 (.int k n)=some (.int .u8 (IntKind.wrap .u8 n)):=by cases k <;> kernel_rfl
end Go.Proofs.Ytackdnelcpbfjaa
namespace Go.Ab
set_option maxRecDepth 20000
open Go
variable {P:Program} {cfg:Cfg} {f N:Nat}
theorem Wp.forI {a:SC} {E:Env} {H:Hp} {Q:AX → Env → Hp → Prop} (cs rs:List Nat) (slot n:Nat) (J:Nat → Env → Hp → Prop) (h0:E.at slot=.int .i64 0) (hJ:J 0 E H)
   (h:∀ (i:Nat) (E':Env) (H':Hp),i ≤ n → (∀ k ∈ cs,E'.at k=E.at k) → (∀ r ∈ rs,H'.get r=H.get r) → H.next ≤ H'.next → E'.at slot=.int .i64 i → J i E' H' →
     Wp P cfg f N a E' H' (thenQ Q fun E2 H2=>i < n ∧ (∀ k ∈ cs,E2.at k=E.at k) ∧ (∀ r ∈ rs,H2.get r=H.get r) ∧ H.next ≤ H2.next ∧ E2.at slot=.int .i64 ((i + 1:Nat):Int) ∧ J (i + 1) E2 H2)):Wp P cfg f N (.loop a) E H Q:=
 Wp.loopN (fun i E' H'=>(∀ k ∈ cs,E'.at k=E.at k) ∧ (∀ r ∈ rs,H'.get r=H.get r) ∧ H.next ≤ H'.next ∧ E'.at slot=.int .i64 i ∧ J i E' H') n (fun i E' H' hi ⟨h1,h2,h3,h4,h5⟩=>h i E' H' hi h1 h2 h3 h4 h5) ⟨fun _ _=>rfl,fun _ _=>rfl,Nat.le_refl _,h0,hJ⟩
theorem Wp.forM {a:SC} {E:Env} {H:Hp} {Q:AX → Env → Hp → Prop} (cs rs:List Nat) (J:Nat → Env → Hp → Prop) (n:Nat) (hJ:J n E H)
   (h:∀ (i:Nat) (E':Env) (H':Hp),(∀ k ∈ cs,E'.at k=E.at k) → (∀ r ∈ rs,H'.get r=H.get r) → H.next ≤ H'.next → J i E' H' →
     Wp P cfg f N a E' H' (thenQ Q fun E2 H2=>(∀ k ∈ cs,E2.at k=E.at k) ∧ (∀ r ∈ rs,H2.get r=H.get r) ∧ H.next ≤ H2.next ∧ ∃ m,m < i ∧ J m E2 H2)):Wp P cfg f N (.loop a) E H Q:=
 Wp.loop (fun i E' H'=>(∀ k ∈ cs,E'.at k=E.at k) ∧ (∀ r ∈ rs,H'.get r=H.get r) ∧ H.next ≤ H'.next ∧ J i E' H') (fun i E' H' ⟨h1,h2,h3,h4⟩=>Wp.mono (fun x E2 H2 hq=>by
   cases x with
   | normal=>obtain ⟨q1,q2,q3,m,q4,q5⟩:=hq;exact ⟨m,q4,q1,q2,q3,q5⟩
   | exit id=>exact hq
   | ret=>exact hq) (h i E' H' h1 h2 h3 h4)) (n:=n) ⟨fun _ _=>rfl,fun _ _=>rfl,Nat.le_refl _,hJ⟩
theorem forall_cons {p:Nat → Prop} {a:Nat} {l:List Nat}:(∀ k ∈ a :: l,p k) ↔ p a ∧ ∀ k ∈ l,p k:=List.forall_mem_cons
theorem forall_nil {p:Nat → Prop}:(∀ k ∈ ([]:List Nat),p k) ↔ True:=⟨fun _=>trivial,fun _ _ h=>by simp at h⟩
theorem ne_beq {a b:Nat} (h:a ≠ b):(a == b)=false:=by simpa using h
theorem i64_succ {i n:Nat} (h:i < n) (hn:n < 2 ^ 62):AV.int .i64 (IntKind.wrap .i64 ((i:Int) + 1))=.int .i64 ((i + 1:Nat):Int):=by rw [wrap_succ (by omega)]
end Go.Ab
namespace Go.Ab
set_option maxRecDepth 20000
open Go
theorem T.setF_n {α:Type} (v:Option α) (f:Nat) (u:Option α) (l r:T α) (k:Nat):T.setF v (f + 1) (.n u l r) k=if k=0 then .n v l r else if k % 2=1 then .n u (T.setF v f l (k / 2)) r else .n u l (T.setF v f r (k / 2 - 1)):=by
 rw [T.setF_succ]
 show bsel (Nat.beq k 0) _ (bsel (Nat.beq (k % 2) 1) _ _)=_
 cases hb:Nat.beq k 0 with
 | true=>rw [if_pos (Nat.eq_of_beq_eq_true hb)];rfl
 | false =>
   rw [if_neg (Nat.ne_of_beq_eq_false hb)]
   cases hc:Nat.beq (k % 2) 1 with
   | true=>rw [if_pos (Nat.eq_of_beq_eq_true hc)];rfl
   | false=>rw [if_neg (Nat.ne_of_beq_eq_false hc)];rfl
theorem T.setF_e {α:Type} (v:Option α) (f k:Nat):T.setF v (f + 1) .e k=T.setF v (f + 1) (.n none .e .e) k:=by
 rw [T.setF_succ,T.setF_succ]
theorem T.setF_comm {α : Type} (v w : Option α) : ∀ (f g : Nat) (t : T α) (k j : Nat), k < f → j < g → k ≠ j → T.setF w g (T.setF v f t k) j = T.setF v f (T.setF w g t j) k
  | 0,_,_,_,_,h,_,_=>by omega
  | _ + 1,0,_,_,_,_,h,_=>by omega
  | f + 1, g + 1, t, k, j, hk, hj, hne => by
    have key:∀ (u:Option α) (l r:T α),T.setF w (g + 1) (T.setF v (f + 1) (.n u l r) k) j=T.setF v (f + 1) (T.setF w (g + 1) (.n u l r) j) k:=fun u l r=>by
      rw [T.setF_n,T.setF_n]
      by_cases k0:k=0
      · rw [if_pos k0, T.setF_n]
        have j0:¬ j=0:=by omega
        rw [if_neg j0,if_neg j0]
        by_cases jo:j % 2=1
        · rw [if_pos jo,if_pos jo,T.setF_n,if_pos k0]
        · rw [if_neg jo,if_neg jo,T.setF_n,if_pos k0]
      · rw [if_neg k0]
        by_cases ko:k % 2=1
        · rw [if_pos ko, T.setF_n]
          by_cases j0:j=0
          · rw [if_pos j0,if_pos j0,T.setF_n,if_neg k0,if_pos ko]
          · rw [if_neg j0, if_neg j0]
            by_cases jo:j % 2=1
            · rw [if_pos jo,if_pos jo,T.setF_n,if_neg k0,if_pos ko,T.setF_comm v w f g l (k / 2) (j / 2) (by omega) (by omega) (by omega)]
            · rw [if_neg jo,if_neg jo,T.setF_n,if_neg k0,if_pos ko]
        · rw [if_neg ko, T.setF_n]
          by_cases j0:j=0
          · rw [if_pos j0,if_pos j0,T.setF_n,if_neg k0,if_neg ko]
          · rw [if_neg j0, if_neg j0]
            by_cases jo:j % 2=1
            · rw [if_pos jo,if_pos jo,T.setF_n,if_neg k0,if_neg ko]
            · rw [if_neg jo,if_neg jo,T.setF_n,if_neg k0,if_neg ko,T.setF_comm v w f g r (k / 2 - 1) (j / 2 - 1) (by omega) (by omega) (by omega)]
    cases t with
    | e=>rw [T.setF_e v,T.setF_e w];exact key _ _ _
    | n u l r=>exact key u l r
theorem Hp.set_comm (H:Hp) {r s:Nat} (h:r ≠ s) (a b:HB):(H.set r a).set s b=(H.set s b).set r a:=by
 show Hp.mk H.next _=Hp.mk H.next _
 congr 1
 exact T.setF_comm (some a) (some b) (r + 1) (s + 1) H.t r s (by omega) (by omega) h
theorem T.beq_refl {α:Type} {eq:α → α → Bool} (he:∀ a,eq a a=true):∀ x:T α,T.beq eq x x=true
 | .e=>rfl
 | .n none l r=>by simp [T.beq,T.beq_refl he l,T.beq_refl he r]
 | .n (some a) l r=>by simp [T.beq,he a,T.beq_refl he l,T.beq_refl he r]
theorem sameEnd_refl (ops:List Oper) (E:Env) (H:Hp):sameEnd ops E E H H=true:=by
 unfold sameEnd
 rw [T.beq_refl HB.beq_refl,Nat.beq_refl,Bool.and_true,Bool.and_true,List.all_eq_true]
 intro o _
 cases o.dst with
 | none=>rfl
 | some d=>exact AV.beq_refl _
def slimKey (o:Oper):Option Tmp × Op × Option (Nat × Bool):=(o.dst,o.op,o.guard)
theorem slimG_key {all all' : List Oper} (h : all.map slimKey = all'.map slimKey) (g : Option (Nat × Bool)) : slimG all g = slimG all' g := by
  cases g with
  | none=>rfl
  | some g =>
    obtain ⟨j,b⟩:=g
    have e:(all[j]?).map slimKey=(all'[j]?).map slimKey:=by rw [← List.getElem?_map,← List.getElem?_map,h]
    unfold slimG
    cases h1:all[j]? with
    | none =>
      rw [h1] at e
      cases h2:all'[j]? with
      | none=>simp only [h1,h2]
      | some o=>rw [h2] at e;cases e
    | some o =>
      rw [h1] at e
      cases h2:all'[j]? with
      | none=>rw [h2] at e;cases e
      | some o' =>
        rw [h2] at e
        simp only [Option.map_some,Option.some.injEq,slimKey,Prod.mk.injEq] at e
        simp only [h1,h2,Option.bind_some,e.1]
theorem slimL_key {N:Nat} {all all':List Oper} (h:all.map slimKey=all'.map slimKey):∀ {l l':List Oper},l.map slimKey=l'.map slimKey → slimL N all l=slimL N all' l'
 | [],[],_=>rfl
 | [],_ :: _,k=>by simp at k
 | _ :: _,[],k=>by simp at k
 | o :: l, o' :: l', k => by
   simp only [List.map_cons,List.cons.injEq] at k
   have e:=k.1
   simp only [slimKey,Prod.mk.injEq] at e
   rw [slimL,slimL,e.1,e.2.1,e.2.2,slimG_key h,slimL_key h k.2]
theorem addE_key (q p:Nat) (l:List Oper):(addE q p l).map slimKey=l.map slimKey:=by
 unfold addE
 cases h:l[q]? with
 | none=>rfl
 | some o =>
   simp only
   rw [List.map_set]
   apply List.ext_getElem?
   intro i
   rw [List.getElem?_set]
   by_cases e:q=i
   · subst e
     rw [if_pos rfl,List.getElem?_map,h]
     simp only [List.length_map,Option.map_some,slimKey]
     rw [if_pos (List.getElem?_eq_some_iff.1 h).1]
   · rw [if_neg e]
theorem permD_key (ord:List Nat) {l l':List Oper} (h:l.map slimKey=l'.map slimKey):(permD ord l).map slimKey=(permD ord l').map slimKey:=by
 unfold permD
 rw [List.map_filterMap,List.map_filterMap]
 congr 1
 funext i
 have e:(l[i]?).map slimKey=(l'[i]?).map slimKey:=by rw [← List.getElem?_map,← List.getElem?_map,h]
 cases h1:l[i]? with
 | none =>
   rw [h1] at e
   cases h2:l'[i]? with
   | none=>rfl
   | some o=>rw [h2] at e;cases e
 | some o =>
   rw [h1] at e
   cases h2:l'[i]? with
   | none=>rw [h2] at e;cases e
   | some o' =>
     rw [h2] at e
     simp only [Option.map_some,Option.some.injEq,slimKey,Prod.mk.injEq] at e ⊢
     simp only [permO,e.1,e.2.1,e.2.2,and_self]
section
variable {P:Program} {cfg:Cfg} {f N:Nat}
theorem Wp.drawS {id p q : Nat} {ord : List Nat} {ops : List Oper} {l1 l2 : List SOp} {need1 need2 : List (Nat × Nat)} {E E1 : Env} {H H1 : Hp} {Q : AX → Env → Hp → Prop}
    (hpl:cfg.plan f id=.split p q .text (.perm ord)) (hpq:Nat.beq p q=false) (c1:calmD (addE q p ops)=true) (s1:slimL N ops ops=some l1) (n1:needD (addE q p ops)=need1)
    (pb:permB ord (addE p q ops)=true) (c2:calmD (permD ord (addE p q ops))=true) (s2:slimL N (permD ord ops) (permD ord ops)=some l2) (n2:needD (permD ord (addE p q ops))=need2)
    (h1:WpT P cfg f l1 [] E H fun tr E' H'=>LooksT P cfg need1 tr H' ∧ E'=E1 ∧ H'=H1) (h2:WpT P cfg f l2 [] E H fun tr E' H'=>LooksT P cfg need2 tr H' ∧ E'=E1 ∧ H'=H1) (hk:Q .normal E1 H1):Wp P cfg f N (.draw id ops) E H Q:=by
  have s1:slimL N (addE q p ops) (addE q p ops)=some l1:=by rw [slimL_key (addE_key q p ops) (addE_key q p ops)];exact s1
  have s2:slimL N (permD ord (addE p q ops)) (permD ord (addE p q ops))=some l2:=by rw [slimL_key (permD_key ord (addE_key p q ops)) (permD_key ord (addE_key p q ops))];exact s2
  unfold Wp
  intro code hc
  cases code with
  | region id' ops' draw =>
    cases draw with
    | false=>simp only [slim,slimR] at hc;split at hc <;> simp at hc
    | true =>
      simp only [slim,SC.draw.injEq] at hc
      obtain ⟨rfl,rfl⟩:=hc
      obtain ⟨n,E',H',rs,a1,a2,rfl,rfl⟩:=WpT.run s1 h1
      obtain ⟨m,E2,H2,rs2,b1,b2,rfl,rfl⟩:=WpT.run s2 h2
      have r1:runDraw P cfg (ev P cfg (n + m)) f N (addE q p ops'.toList) E H=.done .normal E2 H2:=by
        have e:runDraw P cfg (ev P cfg n) f N (addE q p ops'.toList) E H=.done .normal E2 H2:=by
          unfold runDraw
          rw [c1]
          simp only [a1]
          rw [n1,looks_of (by simpa using a2)]
        rw [runDraw_mono (fun t ht=>ev_mono (Nat.le_add_right n m) ht) (by rw [e];simp),e]
      have r2:runDraw P cfg (ev P cfg (n + m)) f N (permD ord (addE p q ops'.toList)) E H=.done .normal E2 H2:=by
        have e:runDraw P cfg (ev P cfg m) f N (permD ord (addE p q ops'.toList)) E H=.done .normal E2 H2:=by
          unfold runDraw
          rw [c2]
          simp only [b1]
          rw [n2,looks_of (by simpa using b2)]
        rw [runDraw_mono (fun t ht=>ev_mono (Nat.le_add_left m n) ht) (by rw [e];simp),e]
      refine ⟨_,_,_,Ev.draw (n:=n + m) (r:=.done .normal E2 H2) ?_ (by simp),hk⟩
      rw [hpl]
      simp only [runPlan,hpq,pb,r1,r2,bothD,sameEnd_refl]
  | _=>simp [slim] at hc
end
end Go.Ab
