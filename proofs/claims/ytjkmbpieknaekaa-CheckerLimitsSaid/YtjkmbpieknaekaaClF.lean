/- Parts: Facts, Rules, AbFor, AbSym, AbPure, Spec4, TreeP. -/
import Derived.KernelRfl
import Derived.Test.YtjkmbpieknaekaaClE
import Derived.Test.YtjkmbpieknaekaaRows
set_option linter.unusedSimpArgs false
set_option linter.unusedVariables false
set_option linter.unusedSectionVars false
set_option linter.defProp false
namespace Go.Proofs.Ytjkmbpieknaekaa
set_option maxRecDepth 20000
set_option linter.unusedSimpArgs false
set_option linter.unusedVariables false
set_option linter.unusedSectionVars false
set_option linter.defProp false
open Go Go.Ab
def sB := And.intro @aeval_ns (And.intro @List.toList_toArray.{0} (And.intro @H0_next (And.intro @bsel_true (And.intro @bsel_false (And.intro @Bool.not_true (And.intro @Bool.not_false (And.intro @List.length_map.{0, 0} (And.intro @Int.natCast_zero (And.intro @aeval_t (And.intro @aeval_i (And.intro @aeval_b (And.intro @aeval_f (And.intro @aeval_s (And.intro @at_set (And.intro @cond_true.{1} (And.intro @cond_false.{1} (@Nat.zero_add)))))))))))))))))
def sO := And.intro @Ex.clen (And.intro @Ex.c0 (And.intro @Ex.c1 (And.intro @Ex.c2 (And.intro @Ex.c3 (And.intro @Ex.c4 (And.intro @Ex.whole (And.intro @Ex.one (And.intro @St.clen (And.intro @St.c0 (And.intro @St.c1 (And.intro @St.c2 (And.intro @St.c3 (And.intro @St.c4 (And.intro @St.c5 (And.intro @St.c6 (And.intro @St.c7 (And.intro @St.c8 (And.intro @St.c9 (And.intro @St.c10 (And.intro @St.c11 (And.intro @St.c12 (And.intro @St.c13 (And.intro @St.c14 (And.intro @St.c15 (And.intro @St.c16 (And.intro @St.whole (And.intro @St.one (And.intro @St.part_at_ (And.intro @St.part_value (And.intro @Fu.clen (And.intro @Fu.c0 (And.intro @Fu.c1 (And.intro @Fu.c2 (And.intro @Fu.c3 (And.intro @Fu.c4 (And.intro @Fu.c5 (And.intro @Fu.c6 (And.intro @Fu.c7 (And.intro @Fu.c8 (And.intro @Fu.whole (And.intro @Fu.one (And.intro @Fu.part_value (And.intro @Ar.clen (And.intro @Ar.c0 (And.intro @Ar.c1 (And.intro @Ar.whole (And.intro @Ar.one (And.intro @Pr.clen (And.intro @Pr.c0 (And.intro @Pr.c1 (And.intro @Pr.whole (And.intro @Pr.one (And.intro @Tk.clen (And.intro @Tk.c0 (And.intro @Tk.c1 (And.intro @Tk.c2 (And.intro @Tk.whole (And.intro @Tk.one (And.intro @sliceH_str (And.intro @sliceH_lst (And.intro @sliceH_sl (And.intro @sliceH_nil (And.intro @List.getElem?_drop.{0} (And.intro @Nat.add_zero (And.intro @if_true.{1} (And.intro @astore_p (And.intro @storeC_cells (And.intro @splice_eq (And.intro @cells_agg (And.intro @cells_int (And.intro @cells_bool (And.intro @cells_str (And.intro @cells_lst (And.intro @cells_sl (And.intro @cells_nilS (And.intro @cells_ptr (And.intro @cells_map (And.intro @cells_clo (And.intro @one_int (And.intro @one_bool (And.intro @one_str (And.intro @one_lst (And.intro @one_sl (And.intro @one_nilS (And.intro @one_ptr (And.intro @one_map (And.intro @one_clo (And.intro @List.all_cons.{0} (And.intro @List.all_nil.{0} (And.intro @Bool.and_true (And.intro @Bool.true_and (And.intro @and_true (And.intro @true_and (And.intro @Nat.zero_le (And.intro @Nat.le_refl (And.intro @List.nil_append.{0} (And.intro @List.append_nil.{0} (And.intro @List.cons_append.{0} (And.intro @Hp.next_alloc (And.intro @Hp.next_set (And.intro @H0_next (And.intro @beq_self_eq_true.{0} (And.intro @nb1 (And.intro @nb2 (And.intro @nb3 (And.intro @Nat.add_assoc (And.intro @List.getElem?_map.{0, 0} (And.intro @Option.map_some.{0, 0} (And.intro @aload_p (And.intro @aload_c (And.intro @loadC_cells (And.intro @rowA_some (And.intro @byteA_some (And.intro @get_set (And.intro @get_alloc (And.intro @List.getElem?_cons_succ.{0} (And.intro @List.getElem?_cons_zero.{0} (And.intro @List.drop_succ_cons.{0} (And.intro @List.drop_zero.{0} (And.intro @List.take_succ_cons.{0} (And.intro @List.take_zero.{0} (And.intro @List.length_cons.{0} (And.intro @List.length_nil.{0} (And.intro @Int.natCast_nonneg (And.intro @Int.toNat_natCast (And.intro @bin_add (And.intro @bin_sub (And.intro @bin_mul (And.intro @bin_and (And.intro @bin_or (And.intro @bin_xor (And.intro @bin_eql (And.intro @bin_neq (And.intro @bin_lss (And.intro @bin_leq (And.intro @bin_gtr (And.intro @bin_geq (And.intro @bin_seq (And.intro @bin_sne (And.intro @un_not (@un_neg)))))))))))))))))))))))))))))))))))))))))))))))))))))))))))))))))))))))))))))))))))))))))))))))))))))))))))))))))))))))))))))))))))))))))))))
structure Plain (cfg : Cfg) (f : FuncId) : Prop where
  call : ∀ args, cfg.call f args = none
  ice : cfg.ice f = false
  froz : cfg.froz f = false
theorem sz2 : sizeA Try.prog 2 = some 1 := by kernel_rfl
theorem bt2 : bytesA Try.prog 2 = some 8 := by kernel_rfl
theorem pt2 (cs : List AV) (o : Nat) : partA Try.prog 2 cs o = cs[o]? := part_one Try.underlying2 rfl cs o
theorem zr2 : zeroA Try.prog 2 = some [(.int .i64 0)] := by kernel_rfl
theorem sz3 : sizeA Try.prog 3 = some 1 := by kernel_rfl
theorem bt3 : bytesA Try.prog 3 = some 8 := by kernel_rfl
theorem pt3 (cs : List AV) (o : Nat) : partA Try.prog 3 cs o = cs[o]? := part_one Try.underlying3 rfl cs o
theorem zr3 : zeroA Try.prog 3 = some [(.int .i64 0)] := by kernel_rfl
theorem sz4 : sizeA Try.prog 4 = some 1 := by kernel_rfl
theorem bt4 : bytesA Try.prog 4 = some 1 := by kernel_rfl
theorem pt4 (cs : List AV) (o : Nat) : partA Try.prog 4 cs o = cs[o]? := part_one Try.underlying4 rfl cs o
theorem zr4 : zeroA Try.prog 4 = some [(.bool false)] := by kernel_rfl
theorem sz5 : sizeA Try.prog 5 = some 1 := by kernel_rfl
theorem bt5 : bytesA Try.prog 5 = some 1 := by kernel_rfl
theorem pt5 (cs : List AV) (o : Nat) : partA Try.prog 5 cs o = cs[o]? := part_one Try.underlying5 rfl cs o
theorem zr5 : zeroA Try.prog 5 = some [(.int .u8 0)] := by kernel_rfl
theorem sz9 : sizeA Try.prog 9 = some 1 := by kernel_rfl
theorem bt9 : bytesA Try.prog 9 = some 16 := by kernel_rfl
theorem pt9 (cs : List AV) (o : Nat) : partA Try.prog 9 cs o = cs[o]? := part_one Try.underlying9 rfl cs o
theorem zr9 : zeroA Try.prog 9 = some [(.str [])] := by kernel_rfl
theorem ln9 (H : Hp) (s : List UInt8) : lenAt Try.prog H 9 (.str s) = some (.int .i64 s.length) := lenAt_str Try.underlying9 s
theorem ix9 (s : List UInt8) {n : Int} (hn : 0 ≤ n) (k : IntKind) : indexA Try.prog 9 (.str s) (.int k n) = byteA (s[n.toNat]?) := index_str Try.underlying9 s hn k
theorem sz22 : sizeA Try.prog 22 = some 1 := by kernel_rfl
theorem bt22 : bytesA Try.prog 22 = some 24 := by kernel_rfl
theorem pt22 (cs : List AV) (o : Nat) : partA Try.prog 22 cs o = cs[o]? := part_one Try.underlying22 rfl cs o
theorem zr22 : zeroA Try.prog 22 = some [.nilS] := by kernel_rfl
theorem ix22l (xs : List (List AV)) {n : Int} (hn : 0 ≤ n) (k : IntKind) : indexAddrA Try.prog 22 (.lst xs) (.int k n) = rowA 2 (xs[n.toNat]?) := index_lst' Try.underlying22 (show sizeA Try.prog 44 = some 2 from by kernel_rfl) xs hn k
theorem ix22s (r o l z : Nat) {n : Int} (hn : 0 ≤ n) (k : IntKind) : indexAddrA Try.prog 22 (.sl r o l z) (.int k n) = bif decide (n.toNat < l) then some (.ptr r (o + n.toNat * 2)) else none := index_sl' Try.underlying22 (show sizeA Try.prog 44 = some 2 from by kernel_rfl) r o l z hn k
theorem ln22l (H : Hp) (xs : List (List AV)) : lenAt Try.prog H 22 (.lst xs) = some (.int .i64 xs.length) := lenAt_lst Try.underlying22 xs
theorem ln22s (H : Hp) (r o n z : Nat) : lenAt Try.prog H 22 (.sl r o n z) = some (.int .i64 n) := lenAt_sl Try.underlying22 r o n z
theorem ln22n (H : Hp) : lenAt Try.prog H 22 .nilS = some (.int .i64 0) := lenAt_nil Try.underlying22
theorem sz23 : sizeA Try.prog 23 = some 1 := by kernel_rfl
theorem bt23 : bytesA Try.prog 23 = some 24 := by kernel_rfl
theorem pt23 (cs : List AV) (o : Nat) : partA Try.prog 23 cs o = cs[o]? := part_one Try.underlying23 rfl cs o
theorem zr23 : zeroA Try.prog 23 = some [.nilS] := by kernel_rfl
theorem ix23l (xs : List (List AV)) {n : Int} (hn : 0 ≤ n) (k : IntKind) : indexAddrA Try.prog 23 (.lst xs) (.int k n) = rowA 9 (xs[n.toNat]?) := index_lst' Try.underlying23 (show sizeA Try.prog 41 = some 9 from by kernel_rfl) xs hn k
theorem ix23s (r o l z : Nat) {n : Int} (hn : 0 ≤ n) (k : IntKind) : indexAddrA Try.prog 23 (.sl r o l z) (.int k n) = bif decide (n.toNat < l) then some (.ptr r (o + n.toNat * 9)) else none := index_sl' Try.underlying23 (show sizeA Try.prog 41 = some 9 from by kernel_rfl) r o l z hn k
theorem ln23l (H : Hp) (xs : List (List AV)) : lenAt Try.prog H 23 (.lst xs) = some (.int .i64 xs.length) := lenAt_lst Try.underlying23 xs
theorem ln23s (H : Hp) (r o n z : Nat) : lenAt Try.prog H 23 (.sl r o n z) = some (.int .i64 n) := lenAt_sl Try.underlying23 r o n z
theorem ln23n (H : Hp) : lenAt Try.prog H 23 .nilS = some (.int .i64 0) := lenAt_nil Try.underlying23
theorem sz25 : sizeA Try.prog 25 = some 2 := by kernel_rfl
theorem bt25 : bytesA Try.prog 25 = some 48 := by kernel_rfl
theorem pt25 (cs : List AV) (o : Nat) : partA Try.prog 25 cs o = aggA 2 (cs.drop o) := part_agg Try.underlying25 rfl sz25 cs o
theorem zr25 : zeroA Try.prog 25 = some [.nilS, .nilS] := by kernel_rfl
theorem fa25_0p (r o : Nat) : fieldAddrA Try.prog 25 (.ptr r o) 0 = some (.ptr r (o + 0)) := by kernel_rfl
theorem fa25_0c (cs : List AV) : fieldAddrA Try.prog 25 (.iptr cs) 0 = some (.iptr (cs.drop 0)) := by kernel_rfl
theorem fd25_0 (cs : List AV) : fieldA Try.prog 25 (.agg cs) 0 = partA Try.prog 22 cs 0 := by kernel_rfl
theorem fa25_1p (r o : Nat) : fieldAddrA Try.prog 25 (.ptr r o) 1 = some (.ptr r (o + 1)) := by kernel_rfl
theorem fa25_1c (cs : List AV) : fieldAddrA Try.prog 25 (.iptr cs) 1 = some (.iptr (cs.drop 1)) := by kernel_rfl
theorem fd25_1 (cs : List AV) : fieldA Try.prog 25 (.agg cs) 1 = partA Try.prog 23 cs 1 := by kernel_rfl
theorem sz26 : sizeA Try.prog 26 = some 1 := by kernel_rfl
theorem bt26 : bytesA Try.prog 26 = some 24 := by kernel_rfl
theorem pt26 (cs : List AV) (o : Nat) : partA Try.prog 26 cs o = cs[o]? := part_one Try.underlying26 rfl cs o
theorem zr26 : zeroA Try.prog 26 = some [.nilS] := by kernel_rfl
theorem ix26l (xs : List (List AV)) {n : Int} (hn : 0 ≤ n) (k : IntKind) : indexAddrA Try.prog 26 (.lst xs) (.int k n) = rowA 1 (xs[n.toNat]?) := index_lst' Try.underlying26 (show sizeA Try.prog 3 = some 1 from by kernel_rfl) xs hn k
theorem ix26s (r o l z : Nat) {n : Int} (hn : 0 ≤ n) (k : IntKind) : indexAddrA Try.prog 26 (.sl r o l z) (.int k n) = bif decide (n.toNat < l) then some (.ptr r (o + n.toNat * 1)) else none := index_sl' Try.underlying26 (show sizeA Try.prog 3 = some 1 from by kernel_rfl) r o l z hn k
theorem ln26l (H : Hp) (xs : List (List AV)) : lenAt Try.prog H 26 (.lst xs) = some (.int .i64 xs.length) := lenAt_lst Try.underlying26 xs
theorem ln26s (H : Hp) (r o n z : Nat) : lenAt Try.prog H 26 (.sl r o n z) = some (.int .i64 n) := lenAt_sl Try.underlying26 r o n z
theorem ln26n (H : Hp) : lenAt Try.prog H 26 .nilS = some (.int .i64 0) := lenAt_nil Try.underlying26
theorem sz30 : sizeA Try.prog 30 = some 1 := by kernel_rfl
theorem bt30 : bytesA Try.prog 30 = some 8 := by kernel_rfl
theorem pt30 (cs : List AV) (o : Nat) : partA Try.prog 30 cs o = cs[o]? := part_one Try.underlying30 rfl cs o
theorem zr30 : zeroA Try.prog 30 = some [(.int .i64 0)] := by kernel_rfl
theorem sz35 : sizeA Try.prog 35 = some 1 := by kernel_rfl
theorem bt35 : bytesA Try.prog 35 = some 24 := by kernel_rfl
theorem pt35 (cs : List AV) (o : Nat) : partA Try.prog 35 cs o = cs[o]? := part_one Try.underlying35 rfl cs o
theorem zr35 : zeroA Try.prog 35 = some [.nilS] := by kernel_rfl
theorem ix35l (xs : List (List AV)) {n : Int} (hn : 0 ≤ n) (k : IntKind) : indexAddrA Try.prog 35 (.lst xs) (.int k n) = rowA 1 (xs[n.toNat]?) := index_lst' Try.underlying35 (show sizeA Try.prog 9 = some 1 from by kernel_rfl) xs hn k
theorem ix35s (r o l z : Nat) {n : Int} (hn : 0 ≤ n) (k : IntKind) : indexAddrA Try.prog 35 (.sl r o l z) (.int k n) = bif decide (n.toNat < l) then some (.ptr r (o + n.toNat * 1)) else none := index_sl' Try.underlying35 (show sizeA Try.prog 9 = some 1 from by kernel_rfl) r o l z hn k
theorem ln35l (H : Hp) (xs : List (List AV)) : lenAt Try.prog H 35 (.lst xs) = some (.int .i64 xs.length) := lenAt_lst Try.underlying35 xs
theorem ln35s (H : Hp) (r o n z : Nat) : lenAt Try.prog H 35 (.sl r o n z) = some (.int .i64 n) := lenAt_sl Try.underlying35 r o n z
theorem ln35n (H : Hp) : lenAt Try.prog H 35 .nilS = some (.int .i64 0) := lenAt_nil Try.underlying35
theorem sz36 : sizeA Try.prog 36 = some 1 := by kernel_rfl
theorem bt36 : bytesA Try.prog 36 = some 24 := by kernel_rfl
theorem pt36 (cs : List AV) (o : Nat) : partA Try.prog 36 cs o = cs[o]? := part_one Try.underlying36 rfl cs o
theorem zr36 : zeroA Try.prog 36 = some [.nilS] := by kernel_rfl
theorem ix36l (xs : List (List AV)) {n : Int} (hn : 0 ≤ n) (k : IntKind) : indexAddrA Try.prog 36 (.lst xs) (.int k n) = rowA 17 (xs[n.toNat]?) := index_lst' Try.underlying36 (show sizeA Try.prog 46 = some 17 from by kernel_rfl) xs hn k
theorem ix36s (r o l z : Nat) {n : Int} (hn : 0 ≤ n) (k : IntKind) : indexAddrA Try.prog 36 (.sl r o l z) (.int k n) = bif decide (n.toNat < l) then some (.ptr r (o + n.toNat * 17)) else none := index_sl' Try.underlying36 (show sizeA Try.prog 46 = some 17 from by kernel_rfl) r o l z hn k
theorem ln36l (H : Hp) (xs : List (List AV)) : lenAt Try.prog H 36 (.lst xs) = some (.int .i64 xs.length) := lenAt_lst Try.underlying36 xs
theorem ln36s (H : Hp) (r o n z : Nat) : lenAt Try.prog H 36 (.sl r o n z) = some (.int .i64 n) := lenAt_sl Try.underlying36 r o n z
theorem ln36n (H : Hp) : lenAt Try.prog H 36 .nilS = some (.int .i64 0) := lenAt_nil Try.underlying36
theorem sz37 : sizeA Try.prog 37 = some 1 := by kernel_rfl
theorem bt37 : bytesA Try.prog 37 = some 24 := by kernel_rfl
theorem pt37 (cs : List AV) (o : Nat) : partA Try.prog 37 cs o = cs[o]? := part_one Try.underlying37 rfl cs o
theorem zr37 : zeroA Try.prog 37 = some [.nilS] := by kernel_rfl
theorem ix37l (xs : List (List AV)) {n : Int} (hn : 0 ≤ n) (k : IntKind) : indexAddrA Try.prog 37 (.lst xs) (.int k n) = rowA 5 (xs[n.toNat]?) := index_lst' Try.underlying37 (show sizeA Try.prog 39 = some 5 from by kernel_rfl) xs hn k
theorem ix37s (r o l z : Nat) {n : Int} (hn : 0 ≤ n) (k : IntKind) : indexAddrA Try.prog 37 (.sl r o l z) (.int k n) = bif decide (n.toNat < l) then some (.ptr r (o + n.toNat * 5)) else none := index_sl' Try.underlying37 (show sizeA Try.prog 39 = some 5 from by kernel_rfl) r o l z hn k
theorem ln37l (H : Hp) (xs : List (List AV)) : lenAt Try.prog H 37 (.lst xs) = some (.int .i64 xs.length) := lenAt_lst Try.underlying37 xs
theorem ln37s (H : Hp) (r o n z : Nat) : lenAt Try.prog H 37 (.sl r o n z) = some (.int .i64 n) := lenAt_sl Try.underlying37 r o n z
theorem ln37n (H : Hp) : lenAt Try.prog H 37 .nilS = some (.int .i64 0) := lenAt_nil Try.underlying37
theorem sz39 : sizeA Try.prog 39 = some 5 := by kernel_rfl
theorem bt39 : bytesA Try.prog 39 = some 64 := by kernel_rfl
theorem pt39 (cs : List AV) (o : Nat) : partA Try.prog 39 cs o = aggA 5 (cs.drop o) := part_agg Try.underlying39 rfl sz39 cs o
theorem zr39 : zeroA Try.prog 39 = some [(.int .i64 0), (.int .i64 0), (.str []), (.int .i64 0), .nilS] := by kernel_rfl
theorem fa39_0p (r o : Nat) : fieldAddrA Try.prog 39 (.ptr r o) 0 = some (.ptr r (o + 0)) := by kernel_rfl
theorem fa39_0c (cs : List AV) : fieldAddrA Try.prog 39 (.iptr cs) 0 = some (.iptr (cs.drop 0)) := by kernel_rfl
theorem fd39_0 (cs : List AV) : fieldA Try.prog 39 (.agg cs) 0 = partA Try.prog 3 cs 0 := by kernel_rfl
theorem fa39_1p (r o : Nat) : fieldAddrA Try.prog 39 (.ptr r o) 1 = some (.ptr r (o + 1)) := by kernel_rfl
theorem fa39_1c (cs : List AV) : fieldAddrA Try.prog 39 (.iptr cs) 1 = some (.iptr (cs.drop 1)) := by kernel_rfl
theorem fd39_1 (cs : List AV) : fieldA Try.prog 39 (.agg cs) 1 = partA Try.prog 2 cs 1 := by kernel_rfl
theorem fa39_2p (r o : Nat) : fieldAddrA Try.prog 39 (.ptr r o) 2 = some (.ptr r (o + 2)) := by kernel_rfl
theorem fa39_2c (cs : List AV) : fieldAddrA Try.prog 39 (.iptr cs) 2 = some (.iptr (cs.drop 2)) := by kernel_rfl
theorem fd39_2 (cs : List AV) : fieldA Try.prog 39 (.agg cs) 2 = partA Try.prog 9 cs 2 := by kernel_rfl
theorem fa39_3p (r o : Nat) : fieldAddrA Try.prog 39 (.ptr r o) 3 = some (.ptr r (o + 3)) := by kernel_rfl
theorem fa39_3c (cs : List AV) : fieldAddrA Try.prog 39 (.iptr cs) 3 = some (.iptr (cs.drop 3)) := by kernel_rfl
theorem fd39_3 (cs : List AV) : fieldA Try.prog 39 (.agg cs) 3 = partA Try.prog 3 cs 3 := by kernel_rfl
theorem fa39_4p (r o : Nat) : fieldAddrA Try.prog 39 (.ptr r o) 4 = some (.ptr r (o + 4)) := by kernel_rfl
theorem fa39_4c (cs : List AV) : fieldAddrA Try.prog 39 (.iptr cs) 4 = some (.iptr (cs.drop 4)) := by kernel_rfl
theorem fd39_4 (cs : List AV) : fieldA Try.prog 39 (.agg cs) 4 = partA Try.prog 37 cs 4 := by kernel_rfl
theorem sz41 : sizeA Try.prog 41 = some 9 := by kernel_rfl
theorem bt41 : bytesA Try.prog 41 = some 152 := by kernel_rfl
theorem pt41 (cs : List AV) (o : Nat) : partA Try.prog 41 cs o = aggA 9 (cs.drop o) := part_agg Try.underlying41 rfl sz41 cs o
theorem zr41 : zeroA Try.prog 41 = some [(.str []), .nilS, .nilS, .nilS, (.int .i64 0), (.int .i64 0), (.str []), (.int .i64 0), .nilS] := by kernel_rfl
theorem fa41_0p (r o : Nat) : fieldAddrA Try.prog 41 (.ptr r o) 0 = some (.ptr r (o + 0)) := by kernel_rfl
theorem fa41_0c (cs : List AV) : fieldAddrA Try.prog 41 (.iptr cs) 0 = some (.iptr (cs.drop 0)) := by kernel_rfl
theorem fd41_0 (cs : List AV) : fieldA Try.prog 41 (.agg cs) 0 = partA Try.prog 9 cs 0 := by kernel_rfl
theorem fa41_1p (r o : Nat) : fieldAddrA Try.prog 41 (.ptr r o) 1 = some (.ptr r (o + 1)) := by kernel_rfl
theorem fa41_1c (cs : List AV) : fieldAddrA Try.prog 41 (.iptr cs) 1 = some (.iptr (cs.drop 1)) := by kernel_rfl
theorem fd41_1 (cs : List AV) : fieldA Try.prog 41 (.agg cs) 1 = partA Try.prog 35 cs 1 := by kernel_rfl
theorem fa41_2p (r o : Nat) : fieldAddrA Try.prog 41 (.ptr r o) 2 = some (.ptr r (o + 2)) := by kernel_rfl
theorem fa41_2c (cs : List AV) : fieldAddrA Try.prog 41 (.iptr cs) 2 = some (.iptr (cs.drop 2)) := by kernel_rfl
theorem fd41_2 (cs : List AV) : fieldA Try.prog 41 (.agg cs) 2 = partA Try.prog 35 cs 2 := by kernel_rfl
theorem fa41_3p (r o : Nat) : fieldAddrA Try.prog 41 (.ptr r o) 3 = some (.ptr r (o + 3)) := by kernel_rfl
theorem fa41_3c (cs : List AV) : fieldAddrA Try.prog 41 (.iptr cs) 3 = some (.iptr (cs.drop 3)) := by kernel_rfl
theorem fd41_3 (cs : List AV) : fieldA Try.prog 41 (.agg cs) 3 = partA Try.prog 36 cs 3 := by kernel_rfl
theorem fa41_4p (r o : Nat) : fieldAddrA Try.prog 41 (.ptr r o) 4 = some (.ptr r (o + 4)) := by kernel_rfl
theorem fa41_4c (cs : List AV) : fieldAddrA Try.prog 41 (.iptr cs) 4 = some (.iptr (cs.drop 4)) := by kernel_rfl
theorem fd41_4 (cs : List AV) : fieldA Try.prog 41 (.agg cs) 4 = partA Try.prog 39 cs 4 := by kernel_rfl
theorem sz44 : sizeA Try.prog 44 = some 2 := by kernel_rfl
theorem bt44 : bytesA Try.prog 44 = some 24 := by kernel_rfl
theorem pt44 (cs : List AV) (o : Nat) : partA Try.prog 44 cs o = aggA 2 (cs.drop o) := part_agg Try.underlying44 rfl sz44 cs o
theorem zr44 : zeroA Try.prog 44 = some [(.str []), (.int .i64 0)] := by kernel_rfl
theorem fa44_0p (r o : Nat) : fieldAddrA Try.prog 44 (.ptr r o) 0 = some (.ptr r (o + 0)) := by kernel_rfl
theorem fa44_0c (cs : List AV) : fieldAddrA Try.prog 44 (.iptr cs) 0 = some (.iptr (cs.drop 0)) := by kernel_rfl
theorem fd44_0 (cs : List AV) : fieldA Try.prog 44 (.agg cs) 0 = partA Try.prog 9 cs 0 := by kernel_rfl
theorem fa44_1p (r o : Nat) : fieldAddrA Try.prog 44 (.ptr r o) 1 = some (.ptr r (o + 1)) := by kernel_rfl
theorem fa44_1c (cs : List AV) : fieldAddrA Try.prog 44 (.iptr cs) 1 = some (.iptr (cs.drop 1)) := by kernel_rfl
theorem fd44_1 (cs : List AV) : fieldA Try.prog 44 (.agg cs) 1 = partA Try.prog 3 cs 1 := by kernel_rfl
theorem sz46 : sizeA Try.prog 46 = some 17 := by kernel_rfl
theorem bt46 : bytesA Try.prog 46 = some 248 := by kernel_rfl
theorem pt46 (cs : List AV) (o : Nat) : partA Try.prog 46 cs o = aggA 17 (cs.drop o) := part_agg Try.underlying46 rfl sz46 cs o
theorem zr46 : zeroA Try.prog 46 = some [(.int .i64 0), (.str []), (.str []), (.int .i64 0), (.int .i64 0), (.int .i64 0), (.str []), (.int .i64 0), .nilS, (.int .i64 0), (.int .i64 0), (.str []), (.int .i64 0), .nilS, .nilS, .nilS, .nilS] := by kernel_rfl
theorem fa46_0p (r o : Nat) : fieldAddrA Try.prog 46 (.ptr r o) 0 = some (.ptr r (o + 0)) := by kernel_rfl
theorem fa46_0c (cs : List AV) : fieldAddrA Try.prog 46 (.iptr cs) 0 = some (.iptr (cs.drop 0)) := by kernel_rfl
theorem fd46_0 (cs : List AV) : fieldA Try.prog 46 (.agg cs) 0 = partA Try.prog 3 cs 0 := by kernel_rfl
theorem fa46_1p (r o : Nat) : fieldAddrA Try.prog 46 (.ptr r o) 1 = some (.ptr r (o + 1)) := by kernel_rfl
theorem fa46_1c (cs : List AV) : fieldAddrA Try.prog 46 (.iptr cs) 1 = some (.iptr (cs.drop 1)) := by kernel_rfl
theorem fd46_1 (cs : List AV) : fieldA Try.prog 46 (.agg cs) 1 = partA Try.prog 9 cs 1 := by kernel_rfl
theorem fa46_2p (r o : Nat) : fieldAddrA Try.prog 46 (.ptr r o) 2 = some (.ptr r (o + 2)) := by kernel_rfl
theorem fa46_2c (cs : List AV) : fieldAddrA Try.prog 46 (.iptr cs) 2 = some (.iptr (cs.drop 2)) := by kernel_rfl
theorem fd46_2 (cs : List AV) : fieldA Try.prog 46 (.agg cs) 2 = partA Try.prog 9 cs 2 := by kernel_rfl
theorem fa46_3p (r o : Nat) : fieldAddrA Try.prog 46 (.ptr r o) 3 = some (.ptr r (o + 3)) := by kernel_rfl
theorem fa46_3c (cs : List AV) : fieldAddrA Try.prog 46 (.iptr cs) 3 = some (.iptr (cs.drop 3)) := by kernel_rfl
theorem fd46_3 (cs : List AV) : fieldA Try.prog 46 (.agg cs) 3 = partA Try.prog 3 cs 3 := by kernel_rfl
theorem fa46_4p (r o : Nat) : fieldAddrA Try.prog 46 (.ptr r o) 4 = some (.ptr r (o + 4)) := by kernel_rfl
theorem fa46_4c (cs : List AV) : fieldAddrA Try.prog 46 (.iptr cs) 4 = some (.iptr (cs.drop 4)) := by kernel_rfl
theorem fd46_4 (cs : List AV) : fieldA Try.prog 46 (.agg cs) 4 = partA Try.prog 39 cs 4 := by kernel_rfl
theorem fa46_5p (r o : Nat) : fieldAddrA Try.prog 46 (.ptr r o) 5 = some (.ptr r (o + 9)) := by kernel_rfl
theorem fa46_5c (cs : List AV) : fieldAddrA Try.prog 46 (.iptr cs) 5 = some (.iptr (cs.drop 9)) := by kernel_rfl
theorem fd46_5 (cs : List AV) : fieldA Try.prog 46 (.agg cs) 5 = partA Try.prog 39 cs 9 := by kernel_rfl
theorem fa46_6p (r o : Nat) : fieldAddrA Try.prog 46 (.ptr r o) 6 = some (.ptr r (o + 14)) := by kernel_rfl
theorem fa46_6c (cs : List AV) : fieldAddrA Try.prog 46 (.iptr cs) 6 = some (.iptr (cs.drop 14)) := by kernel_rfl
theorem fd46_6 (cs : List AV) : fieldA Try.prog 46 (.agg cs) 6 = partA Try.prog 37 cs 14 := by kernel_rfl
theorem fa46_7p (r o : Nat) : fieldAddrA Try.prog 46 (.ptr r o) 7 = some (.ptr r (o + 15)) := by kernel_rfl
theorem fa46_7c (cs : List AV) : fieldAddrA Try.prog 46 (.iptr cs) 7 = some (.iptr (cs.drop 15)) := by kernel_rfl
theorem fd46_7 (cs : List AV) : fieldA Try.prog 46 (.agg cs) 7 = partA Try.prog 36 cs 15 := by kernel_rfl
theorem fa46_8p (r o : Nat) : fieldAddrA Try.prog 46 (.ptr r o) 8 = some (.ptr r (o + 16)) := by kernel_rfl
theorem fa46_8c (cs : List AV) : fieldAddrA Try.prog 46 (.iptr cs) 8 = some (.iptr (cs.drop 16)) := by kernel_rfl
theorem fd46_8 (cs : List AV) : fieldA Try.prog 46 (.agg cs) 8 = partA Try.prog 36 cs 16 := by kernel_rfl
theorem sz50 : sizeA Try.prog 50 = some 1 := by kernel_rfl
theorem bt50 : bytesA Try.prog 50 = some 24 := by kernel_rfl
theorem pt50 (cs : List AV) (o : Nat) : partA Try.prog 50 cs o = cs[o]? := part_one Try.underlying50 rfl cs o
theorem zr50 : zeroA Try.prog 50 = some [.nilS] := by kernel_rfl
theorem ix50l (xs : List (List AV)) {n : Int} (hn : 0 ≤ n) (k : IntKind) : indexAddrA Try.prog 50 (.lst xs) (.int k n) = rowA 1 (xs[n.toNat]?) := index_lst' Try.underlying50 (show sizeA Try.prog 5 = some 1 from by kernel_rfl) xs hn k
theorem ix50s (r o l z : Nat) {n : Int} (hn : 0 ≤ n) (k : IntKind) : indexAddrA Try.prog 50 (.sl r o l z) (.int k n) = bif decide (n.toNat < l) then some (.ptr r (o + n.toNat * 1)) else none := index_sl' Try.underlying50 (show sizeA Try.prog 5 = some 1 from by kernel_rfl) r o l z hn k
theorem ln50l (H : Hp) (xs : List (List AV)) : lenAt Try.prog H 50 (.lst xs) = some (.int .i64 xs.length) := lenAt_lst Try.underlying50 xs
theorem ln50s (H : Hp) (r o n z : Nat) : lenAt Try.prog H 50 (.sl r o n z) = some (.int .i64 n) := lenAt_sl Try.underlying50 r o n z
theorem ln50n (H : Hp) : lenAt Try.prog H 50 .nilS = some (.int .i64 0) := lenAt_nil Try.underlying50
theorem sz52 : sizeA Try.prog 52 = some 1 := by kernel_rfl
theorem bt52 : bytesA Try.prog 52 = some 24 := by kernel_rfl
theorem pt52 (cs : List AV) (o : Nat) : partA Try.prog 52 cs o = cs[o]? := part_one Try.underlying52 rfl cs o
theorem zr52 : zeroA Try.prog 52 = some [.nilS] := by kernel_rfl
theorem ix52l (xs : List (List AV)) {n : Int} (hn : 0 ≤ n) (k : IntKind) : indexAddrA Try.prog 52 (.lst xs) (.int k n) = rowA 1 (xs[n.toNat]?) := index_lst' Try.underlying52 (show sizeA Try.prog 2 = some 1 from by kernel_rfl) xs hn k
theorem ix52s (r o l z : Nat) {n : Int} (hn : 0 ≤ n) (k : IntKind) : indexAddrA Try.prog 52 (.sl r o l z) (.int k n) = bif decide (n.toNat < l) then some (.ptr r (o + n.toNat * 1)) else none := index_sl' Try.underlying52 (show sizeA Try.prog 2 = some 1 from by kernel_rfl) r o l z hn k
theorem ln52l (H : Hp) (xs : List (List AV)) : lenAt Try.prog H 52 (.lst xs) = some (.int .i64 xs.length) := lenAt_lst Try.underlying52 xs
theorem ln52s (H : Hp) (r o n z : Nat) : lenAt Try.prog H 52 (.sl r o n z) = some (.int .i64 n) := lenAt_sl Try.underlying52 r o n z
theorem ln52n (H : Hp) : lenAt Try.prog H 52 .nilS = some (.int .i64 0) := lenAt_nil Try.underlying52
theorem sz61 : sizeA Try.prog 61 = some 2 := by kernel_rfl
theorem bt61 : bytesA Try.prog 61 = some 16 := by kernel_rfl
theorem pt61 (cs : List AV) (o : Nat) : partA Try.prog 61 cs o = aggA 2 (cs.drop o) := part_agg Try.underlying61 rfl sz61 cs o
theorem zr61 : zeroA Try.prog 61 = some [(.int .i64 0), (.int .i64 0)] := by kernel_rfl
theorem fa61_0p (r o : Nat) : fieldAddrA Try.prog 61 (.ptr r o) 0 = some (.ptr r (o + 0)) := by kernel_rfl
theorem fa61_0c (cs : List AV) : fieldAddrA Try.prog 61 (.iptr cs) 0 = some (.iptr (cs.drop 0)) := by kernel_rfl
theorem fd61_0 (cs : List AV) : fieldA Try.prog 61 (.agg cs) 0 = partA Try.prog 30 cs 0 := by kernel_rfl
theorem fa61_1p (r o : Nat) : fieldAddrA Try.prog 61 (.ptr r o) 1 = some (.ptr r (o + 1)) := by kernel_rfl
theorem fa61_1c (cs : List AV) : fieldAddrA Try.prog 61 (.iptr cs) 1 = some (.iptr (cs.drop 1)) := by kernel_rfl
theorem fd61_1 (cs : List AV) : fieldA Try.prog 61 (.agg cs) 1 = partA Try.prog 3 cs 1 := by kernel_rfl
theorem sz70 : sizeA Try.prog 70 = some 2 := by kernel_rfl
theorem bt70 : bytesA Try.prog 70 = some 32 := by kernel_rfl
theorem pt70 (cs : List AV) (o : Nat) : partA Try.prog 70 cs o = aggA 2 (cs.drop o) := part_agg Try.underlying70 rfl sz70 cs o
theorem zr70 : zeroA Try.prog 70 = some [.nilS, (.int .i64 0)] := by kernel_rfl
theorem fa70_0p (r o : Nat) : fieldAddrA Try.prog 70 (.ptr r o) 0 = some (.ptr r (o + 0)) := by kernel_rfl
theorem fa70_0c (cs : List AV) : fieldAddrA Try.prog 70 (.iptr cs) 0 = some (.iptr (cs.drop 0)) := by kernel_rfl
theorem fd70_0 (cs : List AV) : fieldA Try.prog 70 (.agg cs) 0 = partA Try.prog 26 cs 0 := by kernel_rfl
theorem fa70_1p (r o : Nat) : fieldAddrA Try.prog 70 (.ptr r o) 1 = some (.ptr r (o + 1)) := by kernel_rfl
theorem fa70_1c (cs : List AV) : fieldAddrA Try.prog 70 (.iptr cs) 1 = some (.iptr (cs.drop 1)) := by kernel_rfl
theorem fd70_1 (cs : List AV) : fieldA Try.prog 70 (.agg cs) 1 = partA Try.prog 3 cs 1 := by kernel_rfl
theorem sz78 : sizeA Try.prog 78 = some 4 := by kernel_rfl
theorem bt78 : bytesA Try.prog 78 = some 96 := by kernel_rfl
theorem pt78 (cs : List AV) (o : Nat) : partA Try.prog 78 cs o = aggA 4 (cs.drop o) := part_agg Try.underlying78 rfl sz78 cs o
theorem zr78 : zeroA Try.prog 78 = some [.nilS, .nilS, .nilS, .nilS] := by kernel_rfl
theorem fa78_0p (r o : Nat) : fieldAddrA Try.prog 78 (.ptr r o) 0 = some (.ptr r (o + 0)) := by kernel_rfl
theorem fa78_0c (cs : List AV) : fieldAddrA Try.prog 78 (.iptr cs) 0 = some (.iptr (cs.drop 0)) := by kernel_rfl
theorem fd78_0 (cs : List AV) : fieldA Try.prog 78 (.agg cs) 0 = partA Try.prog 35 cs 0 := by kernel_rfl
theorem fa78_1p (r o : Nat) : fieldAddrA Try.prog 78 (.ptr r o) 1 = some (.ptr r (o + 1)) := by kernel_rfl
theorem fa78_1c (cs : List AV) : fieldAddrA Try.prog 78 (.iptr cs) 1 = some (.iptr (cs.drop 1)) := by kernel_rfl
theorem fd78_1 (cs : List AV) : fieldA Try.prog 78 (.agg cs) 1 = partA Try.prog 35 cs 1 := by kernel_rfl
theorem fa78_2p (r o : Nat) : fieldAddrA Try.prog 78 (.ptr r o) 2 = some (.ptr r (o + 2)) := by kernel_rfl
theorem fa78_2c (cs : List AV) : fieldAddrA Try.prog 78 (.iptr cs) 2 = some (.iptr (cs.drop 2)) := by kernel_rfl
theorem fd78_2 (cs : List AV) : fieldA Try.prog 78 (.agg cs) 2 = partA Try.prog 25 cs 2 := by kernel_rfl
theorem sz84 : sizeA Try.prog 84 = some 1 := by kernel_rfl
theorem bt84 : bytesA Try.prog 84 = some 8 := by kernel_rfl
theorem pt84 (cs : List AV) (o : Nat) : partA Try.prog 84 cs o = cs[o]? := part_one Try.underlying84 rfl cs o
theorem zr84 : zeroA Try.prog 84 = some [.nilM] := by kernel_rfl
theorem sz89 : sizeA Try.prog 89 = some 1 := by kernel_rfl
theorem bt89 : bytesA Try.prog 89 = some 24 := by kernel_rfl
theorem pt89 (cs : List AV) (o : Nat) : partA Try.prog 89 cs o = cs[o]? := part_one Try.underlying89 rfl cs o
theorem zr89 : zeroA Try.prog 89 = some [.nilS] := by kernel_rfl
theorem ix89l (xs : List (List AV)) {n : Int} (hn : 0 ≤ n) (k : IntKind) : indexAddrA Try.prog 89 (.lst xs) (.int k n) = rowA 3 (xs[n.toNat]?) := index_lst' Try.underlying89 (show sizeA Try.prog 125 = some 3 from by kernel_rfl) xs hn k
theorem ix89s (r o l z : Nat) {n : Int} (hn : 0 ≤ n) (k : IntKind) : indexAddrA Try.prog 89 (.sl r o l z) (.int k n) = bif decide (n.toNat < l) then some (.ptr r (o + n.toNat * 3)) else none := index_sl' Try.underlying89 (show sizeA Try.prog 125 = some 3 from by kernel_rfl) r o l z hn k
theorem ln89l (H : Hp) (xs : List (List AV)) : lenAt Try.prog H 89 (.lst xs) = some (.int .i64 xs.length) := lenAt_lst Try.underlying89 xs
theorem ln89s (H : Hp) (r o n z : Nat) : lenAt Try.prog H 89 (.sl r o n z) = some (.int .i64 n) := lenAt_sl Try.underlying89 r o n z
theorem ln89n (H : Hp) : lenAt Try.prog H 89 .nilS = some (.int .i64 0) := lenAt_nil Try.underlying89
theorem sz105 : sizeA Try.prog 105 = some 1 := by kernel_rfl
theorem bt105 : bytesA Try.prog 105 = some 8 := by kernel_rfl
theorem pt105 (cs : List AV) (o : Nat) : partA Try.prog 105 cs o = cs[o]? := part_one Try.underlying105 rfl cs o
theorem zr105 : zeroA Try.prog 105 = some [.nilF] := by kernel_rfl
theorem sz112 : sizeA Try.prog 112 = some 1 := by kernel_rfl
theorem bt112 : bytesA Try.prog 112 = some 8 := by kernel_rfl
theorem pt112 (cs : List AV) (o : Nat) : partA Try.prog 112 cs o = cs[o]? := part_one Try.underlying112 rfl cs o
theorem zr112 : zeroA Try.prog 112 = some [.nilM] := by kernel_rfl
theorem sz125 : sizeA Try.prog 125 = some 3 := by kernel_rfl
theorem bt125 : bytesA Try.prog 125 = some 32 := by kernel_rfl
theorem pt125 (cs : List AV) (o : Nat) : partA Try.prog 125 cs o = aggA 3 (cs.drop o) := part_agg Try.underlying125 rfl sz125 cs o
theorem zr125 : zeroA Try.prog 125 = some [(.int .i64 0), (.str []), (.int .i64 0)] := by kernel_rfl
theorem fa125_0p (r o : Nat) : fieldAddrA Try.prog 125 (.ptr r o) 0 = some (.ptr r (o + 0)) := by kernel_rfl
theorem fa125_0c (cs : List AV) : fieldAddrA Try.prog 125 (.iptr cs) 0 = some (.iptr (cs.drop 0)) := by kernel_rfl
theorem fd125_0 (cs : List AV) : fieldA Try.prog 125 (.agg cs) 0 = partA Try.prog 3 cs 0 := by kernel_rfl
theorem fa125_1p (r o : Nat) : fieldAddrA Try.prog 125 (.ptr r o) 1 = some (.ptr r (o + 1)) := by kernel_rfl
theorem fa125_1c (cs : List AV) : fieldAddrA Try.prog 125 (.iptr cs) 1 = some (.iptr (cs.drop 1)) := by kernel_rfl
theorem fd125_1 (cs : List AV) : fieldA Try.prog 125 (.agg cs) 1 = partA Try.prog 9 cs 1 := by kernel_rfl
theorem fa125_2p (r o : Nat) : fieldAddrA Try.prog 125 (.ptr r o) 2 = some (.ptr r (o + 2)) := by kernel_rfl
theorem fa125_2c (cs : List AV) : fieldAddrA Try.prog 125 (.iptr cs) 2 = some (.iptr (cs.drop 2)) := by kernel_rfl
theorem fd125_2 (cs : List AV) : fieldA Try.prog 125 (.agg cs) 2 = partA Try.prog 3 cs 2 := by kernel_rfl
theorem sz137 : sizeA Try.prog 137 = some 8 := by kernel_rfl
theorem bt137 : bytesA Try.prog 137 = some 8 := by kernel_rfl
theorem pt137 (cs : List AV) (o : Nat) : partA Try.prog 137 cs o = aggA 8 (cs.drop o) := part_agg Try.underlying137 rfl sz137 cs o
theorem zr137 : zeroA Try.prog 137 = some [(.bool false), (.bool false), (.bool false), (.bool false), (.bool false), (.bool false), (.bool false), (.bool false)] := by kernel_rfl
theorem fa137_0p (r o : Nat) : fieldAddrA Try.prog 137 (.ptr r o) 0 = some (.ptr r (o + 0)) := by kernel_rfl
theorem fa137_0c (cs : List AV) : fieldAddrA Try.prog 137 (.iptr cs) 0 = some (.iptr (cs.drop 0)) := by kernel_rfl
theorem fd137_0 (cs : List AV) : fieldA Try.prog 137 (.agg cs) 0 = partA Try.prog 4 cs 0 := by kernel_rfl
theorem fa137_1p (r o : Nat) : fieldAddrA Try.prog 137 (.ptr r o) 1 = some (.ptr r (o + 1)) := by kernel_rfl
theorem fa137_1c (cs : List AV) : fieldAddrA Try.prog 137 (.iptr cs) 1 = some (.iptr (cs.drop 1)) := by kernel_rfl
theorem fd137_1 (cs : List AV) : fieldA Try.prog 137 (.agg cs) 1 = partA Try.prog 4 cs 1 := by kernel_rfl
theorem fa137_2p (r o : Nat) : fieldAddrA Try.prog 137 (.ptr r o) 2 = some (.ptr r (o + 2)) := by kernel_rfl
theorem fa137_2c (cs : List AV) : fieldAddrA Try.prog 137 (.iptr cs) 2 = some (.iptr (cs.drop 2)) := by kernel_rfl
theorem fd137_2 (cs : List AV) : fieldA Try.prog 137 (.agg cs) 2 = partA Try.prog 4 cs 2 := by kernel_rfl
theorem fa137_3p (r o : Nat) : fieldAddrA Try.prog 137 (.ptr r o) 3 = some (.ptr r (o + 3)) := by kernel_rfl
theorem fa137_3c (cs : List AV) : fieldAddrA Try.prog 137 (.iptr cs) 3 = some (.iptr (cs.drop 3)) := by kernel_rfl
theorem fd137_3 (cs : List AV) : fieldA Try.prog 137 (.agg cs) 3 = partA Try.prog 4 cs 3 := by kernel_rfl
theorem fa137_4p (r o : Nat) : fieldAddrA Try.prog 137 (.ptr r o) 4 = some (.ptr r (o + 4)) := by kernel_rfl
theorem fa137_4c (cs : List AV) : fieldAddrA Try.prog 137 (.iptr cs) 4 = some (.iptr (cs.drop 4)) := by kernel_rfl
theorem fd137_4 (cs : List AV) : fieldA Try.prog 137 (.agg cs) 4 = partA Try.prog 4 cs 4 := by kernel_rfl
theorem fa137_5p (r o : Nat) : fieldAddrA Try.prog 137 (.ptr r o) 5 = some (.ptr r (o + 5)) := by kernel_rfl
theorem fa137_5c (cs : List AV) : fieldAddrA Try.prog 137 (.iptr cs) 5 = some (.iptr (cs.drop 5)) := by kernel_rfl
theorem fd137_5 (cs : List AV) : fieldA Try.prog 137 (.agg cs) 5 = partA Try.prog 4 cs 5 := by kernel_rfl
theorem fa137_6p (r o : Nat) : fieldAddrA Try.prog 137 (.ptr r o) 6 = some (.ptr r (o + 6)) := by kernel_rfl
theorem fa137_6c (cs : List AV) : fieldAddrA Try.prog 137 (.iptr cs) 6 = some (.iptr (cs.drop 6)) := by kernel_rfl
theorem fd137_6 (cs : List AV) : fieldA Try.prog 137 (.agg cs) 6 = partA Try.prog 4 cs 6 := by kernel_rfl
theorem fa137_7p (r o : Nat) : fieldAddrA Try.prog 137 (.ptr r o) 7 = some (.ptr r (o + 7)) := by kernel_rfl
theorem fa137_7c (cs : List AV) : fieldAddrA Try.prog 137 (.iptr cs) 7 = some (.iptr (cs.drop 7)) := by kernel_rfl
theorem fd137_7 (cs : List AV) : fieldA Try.prog 137 (.agg cs) 7 = partA Try.prog 4 cs 7 := by kernel_rfl
theorem sz142 : sizeA Try.prog 142 = some 1 := by kernel_rfl
theorem bt142 : bytesA Try.prog 142 = some 24 := by kernel_rfl
theorem pt142 (cs : List AV) (o : Nat) : partA Try.prog 142 cs o = cs[o]? := part_one Try.underlying142 rfl cs o
theorem zr142 : zeroA Try.prog 142 = some [.nilS] := by kernel_rfl
theorem ix142l (xs : List (List AV)) {n : Int} (hn : 0 ≤ n) (k : IntKind) : indexAddrA Try.prog 142 (.lst xs) (.int k n) = rowA 1 (xs[n.toNat]?) := index_lst' Try.underlying142 (show sizeA Try.prog 35 = some 1 from by kernel_rfl) xs hn k
theorem ix142s (r o l z : Nat) {n : Int} (hn : 0 ≤ n) (k : IntKind) : indexAddrA Try.prog 142 (.sl r o l z) (.int k n) = bif decide (n.toNat < l) then some (.ptr r (o + n.toNat * 1)) else none := index_sl' Try.underlying142 (show sizeA Try.prog 35 = some 1 from by kernel_rfl) r o l z hn k
theorem ln142l (H : Hp) (xs : List (List AV)) : lenAt Try.prog H 142 (.lst xs) = some (.int .i64 xs.length) := lenAt_lst Try.underlying142 xs
theorem ln142s (H : Hp) (r o n z : Nat) : lenAt Try.prog H 142 (.sl r o n z) = some (.int .i64 n) := lenAt_sl Try.underlying142 r o n z
theorem ln142n (H : Hp) : lenAt Try.prog H 142 .nilS = some (.int .i64 0) := lenAt_nil Try.underlying142
theorem sz153 : sizeA Try.prog 153 = some 7 := by kernel_rfl
theorem bt153 : bytesA Try.prog 153 = some 112 := by kernel_rfl
theorem pt153 (cs : List AV) (o : Nat) : partA Try.prog 153 cs o = aggA 7 (cs.drop o) := part_agg Try.underlying153 rfl sz153 cs o
theorem zr153 : zeroA Try.prog 153 = some [(.str []), (.str []), (.str []), (.str []), (.str []), (.str []), (.str [])] := by kernel_rfl
theorem cv3_5 (H : Hp) (k : IntKind) (n : Int) : convertA Try.prog H 3 5 (.int k n) = some (.int .u8 (IntKind.wrap .u8 n)) := by cases k <;> kernel_rfl
end Go.Proofs.Ytjkmbpieknaekaa
namespace Go.Proofs.Ytjkmbpieknaekaa
set_option maxRecDepth 20000
set_option linter.unusedVariables false
set_option linter.unusedSectionVars false
open Go Go.Ab
section
variable {P : Program} {cfg : Cfg} {f : FuncId} {l : List SOp} {E : Env} {H H' : Hp} {Q : Env → Hp → Prop} {d : Nat} {v a b : AV} {x y : Operand} {t u : TypeId}
theorem Rx.move (h : aeval E x = some v := by ((first | simp only [sB, Nat.reduceBEq, ne_eq, not_false_eq_true, *, -hK] | simp only [sB, Nat.reduceBEq, ne_eq, not_false_eq_true, *] | skip); first | done | with_reducible rfl)) (hk : WpL P cfg f l (T.set E d (some v)) H Q) : WpL P cfg f (⟨some d, .move x, none⟩ :: l) E H Q := WpL.move h hk
theorem Rx.assign (h : aeval E x = some v := by ((first | simp only [sB, Nat.reduceBEq, ne_eq, not_false_eq_true, *, -hK] | simp only [sB, Nat.reduceBEq, ne_eq, not_false_eq_true, *] | skip); first | done | with_reducible rfl)) (hk : WpL P cfg f l (T.set E d (some v)) H Q) : WpL P cfg f (⟨some d, .assign x, none⟩ :: l) E H Q := WpL.assign h hk
theorem Rx.pick {z : Operand} {t : Bool} (h : aeval E x = some (.bool t) := by ((first | simp only [sB, Nat.reduceBEq, ne_eq, not_false_eq_true, *, -hK] | simp only [sB, Nat.reduceBEq, ne_eq, not_false_eq_true, *] | skip); first | done | with_reducible rfl)) (h1 : aeval E y = some a := by ((first | simp only [sB, Nat.reduceBEq, ne_eq, not_false_eq_true, *, -hK] | simp only [sB, Nat.reduceBEq, ne_eq, not_false_eq_true, *] | skip); first | done | with_reducible rfl)) (h2 : aeval E z = some b := by ((first | simp only [sB, Nat.reduceBEq, ne_eq, not_false_eq_true, *, -hK] | simp only [sB, Nat.reduceBEq, ne_eq, not_false_eq_true, *] | skip); first | done | with_reducible rfl)) (hk : WpL P cfg f l (T.set E d (some (bsel t a b))) H Q) : WpL P cfg f (⟨some d, .pick x y z, none⟩ :: l) E H Q := WpL.pick h h1 h2 hk
theorem Rx.load (h : aeval E x = some a := by ((first | simp only [sB, Nat.reduceBEq, ne_eq, not_false_eq_true, *, -hK] | simp only [sB, Nat.reduceBEq, ne_eq, not_false_eq_true, *] | skip); first | done | with_reducible rfl)) (h1 : aload P H t a = some v := by ((first | simp only [sB, sO, tyF, Nat.reduceBEq, Nat.reduceAdd, Nat.reduceLeDiff, ne_eq, not_false_eq_true, *, -hK] | simp only [sB, sO, tyF, Nat.reduceBEq, Nat.reduceAdd, Nat.reduceLeDiff, ne_eq, not_false_eq_true, *] | skip); first | done | with_reducible rfl)) (hk : WpL P cfg f l (T.set E d (some v)) H Q) : WpL P cfg f (⟨some d, .load t x, none⟩ :: l) E H Q := WpL.load h h1 hk
theorem Rx.store (h : aeval E x = some a := by ((first | simp only [sB, Nat.reduceBEq, ne_eq, not_false_eq_true, *, -hK] | simp only [sB, Nat.reduceBEq, ne_eq, not_false_eq_true, *] | skip); first | done | with_reducible rfl)) (h1 : aeval E y = some b := by ((first | simp only [sB, Nat.reduceBEq, ne_eq, not_false_eq_true, *, -hK] | simp only [sB, Nat.reduceBEq, ne_eq, not_false_eq_true, *] | skip); first | done | with_reducible rfl)) (h2 : astore P H t a b = some H' := by ((first | simp only [sB, sO, tyF, Nat.reduceBEq, Nat.reduceAdd, Nat.reduceLeDiff, ne_eq, not_false_eq_true, *, -hK] | simp only [sB, sO, tyF, Nat.reduceBEq, Nat.reduceAdd, Nat.reduceLeDiff, ne_eq, not_false_eq_true, *] | skip); first | done | with_reducible rfl)) (hk : WpL P cfg f l E H' Q) : WpL P cfg f (⟨none, .store t x y, none⟩ :: l) E H Q := WpL.store h h1 h2 hk
theorem Rx.nilCheck {r o : Nat} (h : aeval E x = some (.ptr r o) := by ((first | simp only [sB, Nat.reduceBEq, ne_eq, not_false_eq_true, *, -hK] | simp only [sB, Nat.reduceBEq, ne_eq, not_false_eq_true, *] | skip); first | done | with_reducible rfl)) (hk : WpL P cfg f l (T.set E d (some (.ptr r o))) H Q) : WpL P cfg f (⟨some d, .nilCheck x, none⟩ :: l) E H Q := WpL.nilCheck h hk
theorem Rx.bin {op : BinOp} (h : aeval E x = some a := by ((first | simp only [sB, Nat.reduceBEq, ne_eq, not_false_eq_true, *, -hK] | simp only [sB, Nat.reduceBEq, ne_eq, not_false_eq_true, *] | skip); first | done | with_reducible rfl)) (h1 : aeval E y = some b := by ((first | simp only [sB, Nat.reduceBEq, ne_eq, not_false_eq_true, *, -hK] | simp only [sB, Nat.reduceBEq, ne_eq, not_false_eq_true, *] | skip); first | done | with_reducible rfl)) (h2 : binA P cfg.dec op t a b = some v := by ((first | simp only [sB, sO, tyF, Nat.reduceBEq, Nat.reduceAdd, Nat.reduceLeDiff, ne_eq, not_false_eq_true, *, -hK] | simp only [sB, sO, tyF, Nat.reduceBEq, Nat.reduceAdd, Nat.reduceLeDiff, ne_eq, not_false_eq_true, *] | skip); first | done | with_reducible rfl)) (hk : WpL P cfg f l (T.set E d (some v)) H Q) : WpL P cfg f (⟨some d, .binOp op t x y u, none⟩ :: l) E H Q := WpL.bin h h1 h2 hk
theorem Rx.un {op : UnOp} (h : aeval E x = some a := by ((first | simp only [sB, Nat.reduceBEq, ne_eq, not_false_eq_true, *, -hK] | simp only [sB, Nat.reduceBEq, ne_eq, not_false_eq_true, *] | skip); first | done | with_reducible rfl)) (h2 : unA op a = some v := by ((first | simp only [sB, sO, tyF, Nat.reduceBEq, Nat.reduceAdd, Nat.reduceLeDiff, ne_eq, not_false_eq_true, *, -hK] | simp only [sB, sO, tyF, Nat.reduceBEq, Nat.reduceAdd, Nat.reduceLeDiff, ne_eq, not_false_eq_true, *] | skip); first | done | with_reducible rfl)) (hk : WpL P cfg f l (T.set E d (some v)) H Q) : WpL P cfg f (⟨some d, .unOp op t x, none⟩ :: l) E H Q := WpL.un h h2 hk
theorem Rx.convert (h : aeval E x = some a := by ((first | simp only [sB, Nat.reduceBEq, ne_eq, not_false_eq_true, *, -hK] | simp only [sB, Nat.reduceBEq, ne_eq, not_false_eq_true, *] | skip); first | done | with_reducible rfl)) (h2 : convertA P H t u a = some v := by ((first | simp only [sB, sO, tyF, Nat.reduceBEq, Nat.reduceAdd, Nat.reduceLeDiff, ne_eq, not_false_eq_true, *, -hK] | simp only [sB, sO, tyF, Nat.reduceBEq, Nat.reduceAdd, Nat.reduceLeDiff, ne_eq, not_false_eq_true, *] | skip); first | done | with_reducible rfl)) (hk : WpL P cfg f l (T.set E d (some v)) H Q) : WpL P cfg f (⟨some d, .convert t u x, none⟩ :: l) E H Q := WpL.convert h h2 hk
theorem Rx.fieldAddr {i : Nat} (h : aeval E x = some a := by ((first | simp only [sB, Nat.reduceBEq, ne_eq, not_false_eq_true, *, -hK] | simp only [sB, Nat.reduceBEq, ne_eq, not_false_eq_true, *] | skip); first | done | with_reducible rfl)) (h2 : fieldAddrA P t a i = some v := by ((first | simp only [sB, sO, tyF, Nat.reduceBEq, Nat.reduceAdd, Nat.reduceLeDiff, ne_eq, not_false_eq_true, *, -hK] | simp only [sB, sO, tyF, Nat.reduceBEq, Nat.reduceAdd, Nat.reduceLeDiff, ne_eq, not_false_eq_true, *] | skip); first | done | with_reducible rfl)) (hk : WpL P cfg f l (T.set E d (some v)) H Q) : WpL P cfg f (⟨some d, .fieldAddr t x i, none⟩ :: l) E H Q := WpL.fieldAddr h h2 hk
theorem Rx.field {i : Nat} (h : aeval E x = some a := by ((first | simp only [sB, Nat.reduceBEq, ne_eq, not_false_eq_true, *, -hK] | simp only [sB, Nat.reduceBEq, ne_eq, not_false_eq_true, *] | skip); first | done | with_reducible rfl)) (h2 : fieldA P t a i = some v := by ((first | simp only [sB, sO, tyF, Nat.reduceBEq, Nat.reduceAdd, Nat.reduceLeDiff, ne_eq, not_false_eq_true, *, -hK] | simp only [sB, sO, tyF, Nat.reduceBEq, Nat.reduceAdd, Nat.reduceLeDiff, ne_eq, not_false_eq_true, *] | skip); first | done | with_reducible rfl)) (hk : WpL P cfg f l (T.set E d (some v)) H Q) : WpL P cfg f (⟨some d, .field t x i, none⟩ :: l) E H Q := WpL.field h h2 hk
theorem Rx.indexAddr (h : aeval E x = some a := by ((first | simp only [sB, Nat.reduceBEq, ne_eq, not_false_eq_true, *, -hK] | simp only [sB, Nat.reduceBEq, ne_eq, not_false_eq_true, *] | skip); first | done | with_reducible rfl)) (h1 : aeval E y = some b := by ((first | simp only [sB, Nat.reduceBEq, ne_eq, not_false_eq_true, *, -hK] | simp only [sB, Nat.reduceBEq, ne_eq, not_false_eq_true, *] | skip); first | done | with_reducible rfl)) (h2 : indexAddrA P t a b = some v := by ((first | simp only [sB, sO, tyF, Nat.reduceBEq, Nat.reduceAdd, Nat.reduceLeDiff, ne_eq, not_false_eq_true, *, -hK] | simp only [sB, sO, tyF, Nat.reduceBEq, Nat.reduceAdd, Nat.reduceLeDiff, ne_eq, not_false_eq_true, *] | skip); first | done | with_reducible rfl)) (hk : WpL P cfg f l (T.set E d (some v)) H Q) : WpL P cfg f (⟨some d, .indexAddr t x y, none⟩ :: l) E H Q := WpL.indexAddr h h1 h2 hk
theorem Rx.index (h : aeval E x = some a := by ((first | simp only [sB, Nat.reduceBEq, ne_eq, not_false_eq_true, *, -hK] | simp only [sB, Nat.reduceBEq, ne_eq, not_false_eq_true, *] | skip); first | done | with_reducible rfl)) (h1 : aeval E y = some b := by ((first | simp only [sB, Nat.reduceBEq, ne_eq, not_false_eq_true, *, -hK] | simp only [sB, Nat.reduceBEq, ne_eq, not_false_eq_true, *] | skip); first | done | with_reducible rfl)) (h2 : indexA P t a b = some v := by ((first | simp only [sB, sO, tyF, Nat.reduceBEq, Nat.reduceAdd, Nat.reduceLeDiff, ne_eq, not_false_eq_true, *, -hK] | simp only [sB, sO, tyF, Nat.reduceBEq, Nat.reduceAdd, Nat.reduceLeDiff, ne_eq, not_false_eq_true, *] | skip); first | done | with_reducible rfl)) (hk : WpL P cfg f l (T.set E d (some v)) H Q) : WpL P cfg f (⟨some d, .index t x y, none⟩ :: l) E H Q := WpL.index h h1 h2 hk
theorem Rx.extract {i : Nat} (h : aeval E x = some a := by ((first | simp only [sB, Nat.reduceBEq, ne_eq, not_false_eq_true, *, -hK] | simp only [sB, Nat.reduceBEq, ne_eq, not_false_eq_true, *] | skip); first | done | with_reducible rfl)) (h2 : Ab.extract a i = some v := by ((first | simp only [sB, sO, tyF, Nat.reduceBEq, Nat.reduceAdd, Nat.reduceLeDiff, ne_eq, not_false_eq_true, *, -hK] | simp only [sB, sO, tyF, Nat.reduceBEq, Nat.reduceAdd, Nat.reduceLeDiff, ne_eq, not_false_eq_true, *] | skip); first | done | with_reducible rfl)) (hk : WpL P cfg f l (T.set E d (some v)) H Q) : WpL P cfg f (⟨some d, .extract x i, none⟩ :: l) E H Q := WpL.extract h h2 hk
theorem Rx.alloc {z : List AV} {n : Nat} (h : zeroA P t = some z := by ((first | simp only [sB, sO, tyF, Nat.reduceBEq, Nat.reduceAdd, Nat.reduceLeDiff, ne_eq, not_false_eq_true, *, -hK] | simp only [sB, sO, tyF, Nat.reduceBEq, Nat.reduceAdd, Nat.reduceLeDiff, ne_eq, not_false_eq_true, *] | skip); first | done | with_reducible rfl)) (hn : some H.next = some n := by ((try simp only [Hp.next_alloc, Hp.next_set, H0_next, Nat.add_assoc, Nat.reduceAdd, Nat.zero_add]); with_reducible rfl)) (hk : WpL P cfg f l (T.set E d (some (.ptr n 0))) (H.alloc (.cells z 0 true)) Q) : WpL P cfg f (⟨some d, .alloc t, none⟩ :: l) E H Q := WpL.alloc h hn hk
theorem Rx.box {cs : List AV} {n : Nat} (h : aeval E x = some a := by ((first | simp only [sB, Nat.reduceBEq, ne_eq, not_false_eq_true, *, -hK] | simp only [sB, Nat.reduceBEq, ne_eq, not_false_eq_true, *] | skip); first | done | with_reducible rfl)) (hc : some a.cells = some cs := by ((first | simp only [sB, sO, tyF, Nat.reduceBEq, Nat.reduceAdd, Nat.reduceLeDiff, ne_eq, not_false_eq_true, *, -hK] | simp only [sB, sO, tyF, Nat.reduceBEq, Nat.reduceAdd, Nat.reduceLeDiff, ne_eq, not_false_eq_true, *] | skip); first | done | with_reducible rfl)) (hn : some H.next = some n := by ((try simp only [Hp.next_alloc, Hp.next_set, H0_next, Nat.add_assoc, Nat.reduceAdd, Nat.zero_add]); with_reducible rfl)) (hk : WpL P cfg f l (T.set E d (some (.ptr n 0))) (H.alloc (.cells cs 0 true)) Q) : WpL P cfg f (⟨some d, .box t x, none⟩ :: l) E H Q := WpL.box h hc hn hk
theorem Rx.build {parts : Array (Nat × Operand)} {ps : List (Nat × AV)} (h : partsA E parts.toList = some ps := by ((first | simp only [sB, Nat.reduceBEq, partsA, ne_eq, not_false_eq_true, *, -hK] | simp only [sB, Nat.reduceBEq, partsA, ne_eq, not_false_eq_true, *] | skip); first | done | with_reducible rfl)) (h2 : buildA P t ps = some v := by ((first | simp only [sB, sO, tyF, Nat.reduceBEq, Nat.reduceAdd, Nat.reduceLeDiff, ne_eq, not_false_eq_true, *, -hK] | simp only [sB, sO, tyF, Nat.reduceBEq, Nat.reduceAdd, Nat.reduceLeDiff, ne_eq, not_false_eq_true, *] | skip); first | done | with_reducible rfl)) (hk : WpL P cfg f l (T.set E d (some v)) H Q) : WpL P cfg f (⟨some d, .build t parts, none⟩ :: l) E H Q := WpL.build h h2 hk
theorem Rx.buildSlice {n : Nat} {parts : Array (Nat × Operand)} {ps : List (Nat × AV)} (h : partsA E parts.toList = some ps := by ((first | simp only [sB, Nat.reduceBEq, partsA, ne_eq, not_false_eq_true, *, -hK] | simp only [sB, Nat.reduceBEq, partsA, ne_eq, not_false_eq_true, *] | skip); first | done | with_reducible rfl)) (h2 : buildSliceA P H t n ps = some (v, H') := by ((first | simp only [sB, sO, tyF, Nat.reduceBEq, Nat.reduceAdd, Nat.reduceLeDiff, ne_eq, not_false_eq_true, *, -hK] | simp only [sB, sO, tyF, Nat.reduceBEq, Nat.reduceAdd, Nat.reduceLeDiff, ne_eq, not_false_eq_true, *] | skip); first | done | with_reducible rfl)) (hk : WpL P cfg f l (T.set E d (some v)) H' Q) : WpL P cfg f (⟨some d, .buildSlice t n parts, none⟩ :: l) E H Q := WpL.buildSlice h h2 hk
theorem Rx.makeMap {n : Nat} (hn : some H.next = some n := by ((try simp only [Hp.next_alloc, Hp.next_set, H0_next, Nat.add_assoc, Nat.reduceAdd, Nat.zero_add]); with_reducible rfl)) (hk : WpL P cfg f l (T.set E d (some (.map n))) (H.alloc (.map [])) Q) : WpL P cfg f (⟨some d, .makeMap t none, none⟩ :: l) E H Q := WpL.makeMap hn hk
theorem Rx.makeSlice (h : aeval E x = some a := by ((first | simp only [sB, Nat.reduceBEq, ne_eq, not_false_eq_true, *, -hK] | simp only [sB, Nat.reduceBEq, ne_eq, not_false_eq_true, *] | skip); first | done | with_reducible rfl)) (h1 : aeval E y = some b := by ((first | simp only [sB, Nat.reduceBEq, ne_eq, not_false_eq_true, *, -hK] | simp only [sB, Nat.reduceBEq, ne_eq, not_false_eq_true, *] | skip); first | done | with_reducible rfl)) (h2 : makeSliceA P H t a b = some (v, H') := by ((first | simp only [sB, sO, tyF, Nat.reduceBEq, Nat.reduceAdd, Nat.reduceLeDiff, ne_eq, not_false_eq_true, *, -hK] | simp only [sB, sO, tyF, Nat.reduceBEq, Nat.reduceAdd, Nat.reduceLeDiff, ne_eq, not_false_eq_true, *] | skip); first | done | with_reducible rfl)) (hk : WpL P cfg f l (T.set E d (some v)) H' Q) : WpL P cfg f (⟨some d, .makeSlice t x y, none⟩ :: l) E H Q := WpL.makeSlice h h1 h2 hk
theorem Rx.lookup {ok : Bool} (h : aeval E x = some a := by ((first | simp only [sB, Nat.reduceBEq, ne_eq, not_false_eq_true, *, -hK] | simp only [sB, Nat.reduceBEq, ne_eq, not_false_eq_true, *] | skip); first | done | with_reducible rfl)) (h1 : aeval E y = some b := by ((first | simp only [sB, Nat.reduceBEq, ne_eq, not_false_eq_true, *, -hK] | simp only [sB, Nat.reduceBEq, ne_eq, not_false_eq_true, *] | skip); first | done | with_reducible rfl)) (h2 : lookupA P H t a b ok = some v := by ((first | simp only [sB, sO, tyF, Nat.reduceBEq, Nat.reduceAdd, Nat.reduceLeDiff, ne_eq, not_false_eq_true, *, -hK] | simp only [sB, sO, tyF, Nat.reduceBEq, Nat.reduceAdd, Nat.reduceLeDiff, ne_eq, not_false_eq_true, *] | skip); first | done | with_reducible rfl)) (hk : WpL P cfg f l (T.set E d (some v)) H Q) : WpL P cfg f (⟨some d, .lookup t x y ok, none⟩ :: l) E H Q := WpL.lookup h h1 h2 hk
theorem Rx.mapUpdate {z : Operand} {c : AV} (h : aeval E x = some a := by ((first | simp only [sB, Nat.reduceBEq, ne_eq, not_false_eq_true, *, -hK] | simp only [sB, Nat.reduceBEq, ne_eq, not_false_eq_true, *] | skip); first | done | with_reducible rfl)) (h1 : aeval E y = some b := by ((first | simp only [sB, Nat.reduceBEq, ne_eq, not_false_eq_true, *, -hK] | simp only [sB, Nat.reduceBEq, ne_eq, not_false_eq_true, *] | skip); first | done | with_reducible rfl)) (h2 : aeval E z = some c := by ((first | simp only [sB, Nat.reduceBEq, ne_eq, not_false_eq_true, *, -hK] | simp only [sB, Nat.reduceBEq, ne_eq, not_false_eq_true, *] | skip); first | done | with_reducible rfl)) (h3 : mapUpdateA P H t a b c = some H' := by ((first | simp only [sB, sO, tyF, Nat.reduceBEq, Nat.reduceAdd, Nat.reduceLeDiff, ne_eq, not_false_eq_true, *, -hK] | simp only [sB, sO, tyF, Nat.reduceBEq, Nat.reduceAdd, Nat.reduceLeDiff, ne_eq, not_false_eq_true, *] | skip); first | done | with_reducible rfl)) (hk : WpL P cfg f l E H' Q) : WpL P cfg f (⟨none, .mapUpdate t x y z, none⟩ :: l) E H Q := WpL.mapUpdate h h1 h2 h3 hk
theorem Rx.makeFunc {g : FuncId} {cap : Array Operand} {vs : List AV} (h : aevals E cap.toList = some vs := by ((first | simp only [sB, Nat.reduceBEq, aevals, List.cons_append, List.nil_append, ne_eq, not_false_eq_true, *, -hK] | simp only [sB, Nat.reduceBEq, aevals, List.cons_append, List.nil_append, ne_eq, not_false_eq_true, *] | skip); first | done | with_reducible rfl)) (hk : WpL P cfg f l (T.set E d (some (.clo g vs))) H Q) : WpL P cfg f (⟨some d, .makeFunc (.func g) #[] cap, none⟩ :: l) E H Q := WpL.makeFunc h hk
theorem Rx.slice {lo hi : Option Operand} {lv hv : Option AV} (h : aeval E x = some a := by ((first | simp only [sB, Nat.reduceBEq, ne_eq, not_false_eq_true, *, -hK] | simp only [sB, Nat.reduceBEq, ne_eq, not_false_eq_true, *] | skip); first | done | with_reducible rfl)) (h1 : aevalO E lo = some lv := by ((first | simp only [sB, Nat.reduceBEq, aevalO, ne_eq, not_false_eq_true, *, -hK] | simp only [sB, Nat.reduceBEq, aevalO, ne_eq, not_false_eq_true, *] | skip); first | done | with_reducible rfl)) (h2 : aevalO E hi = some hv := by ((first | simp only [sB, Nat.reduceBEq, aevalO, ne_eq, not_false_eq_true, *, -hK] | simp only [sB, Nat.reduceBEq, aevalO, ne_eq, not_false_eq_true, *] | skip); first | done | with_reducible rfl)) (h3 : sliceHA P H t a lv hv = some v := by ((first | simp only [sB, sO, tyF, Nat.reduceBEq, Nat.reduceAdd, Nat.reduceLeDiff, ne_eq, not_false_eq_true, *, -hK] | simp only [sB, sO, tyF, Nat.reduceBEq, Nat.reduceAdd, Nat.reduceLeDiff, ne_eq, not_false_eq_true, *] | skip); first | done | with_reducible rfl)) (hk : WpL P cfg f l (T.set E d (some v)) H Q) : WpL P cfg f (⟨some d, .slice t x lo hi none, none⟩ :: l) E H Q := WpL.slice h h1 h2 h3 hk
theorem Rx.len {c : AV} (h : aeval E x = some a := by ((first | simp only [sB, Nat.reduceBEq, ne_eq, not_false_eq_true, *, -hK] | simp only [sB, Nat.reduceBEq, ne_eq, not_false_eq_true, *] | skip); first | done | with_reducible rfl)) (h1 : lenAt P H t a = some c := by ((first | simp only [sB, sO, tyF, Nat.reduceBEq, Nat.reduceAdd, Nat.reduceLeDiff, ne_eq, not_false_eq_true, *, -hK] | simp only [sB, sO, tyF, Nat.reduceBEq, Nat.reduceAdd, Nat.reduceLeDiff, ne_eq, not_false_eq_true, *] | skip); first | done | with_reducible rfl)) (hk : WpL P cfg f l (T.set E d (some c)) H Q) : WpL P cfg f (⟨some d, .call ⟨.builtin .len, #[x], #[t]⟩, none⟩ :: l) E H Q := WpL.len h h1 hk
theorem Rx.append (h : aeval E x = some a := by ((first | simp only [sB, Nat.reduceBEq, ne_eq, not_false_eq_true, *, -hK] | simp only [sB, Nat.reduceBEq, ne_eq, not_false_eq_true, *] | skip); first | done | with_reducible rfl)) (h1 : aeval E y = some b := by ((first | simp only [sB, Nat.reduceBEq, ne_eq, not_false_eq_true, *, -hK] | simp only [sB, Nat.reduceBEq, ne_eq, not_false_eq_true, *] | skip); first | done | with_reducible rfl)) (h2 : appendA P (cfg.keep f) H t u a b = some (v, H') := by ((first | simp only [sB, sO, tyF, Nat.reduceBEq, Nat.reduceAdd, Nat.reduceLeDiff, ne_eq, not_false_eq_true, *, -hK] | simp only [sB, sO, tyF, Nat.reduceBEq, Nat.reduceAdd, Nat.reduceLeDiff, ne_eq, not_false_eq_true, *] | skip); first | done | with_reducible rfl)) (hk : WpL P cfg f l (T.set E d (some v)) H' Q) : WpL P cfg f (⟨some d, .call ⟨.builtin .append, #[x, y], #[t, u]⟩, none⟩ :: l) E H Q := WpL.append h h1 h2 hk
theorem Rx.min2 {ts : Array TypeId} {k k' : IntKind} {na nb : Int} (h : aeval E x = some (.int k na) := by ((first | simp only [sB, Nat.reduceBEq, ne_eq, not_false_eq_true, *, -hK] | simp only [sB, Nat.reduceBEq, ne_eq, not_false_eq_true, *] | skip); first | done | with_reducible rfl)) (h1 : aeval E y = some (.int k' nb) := by ((first | simp only [sB, Nat.reduceBEq, ne_eq, not_false_eq_true, *, -hK] | simp only [sB, Nat.reduceBEq, ne_eq, not_false_eq_true, *] | skip); first | done | with_reducible rfl)) (hk : WpL P cfg f l (T.set E d (some (.int k (min na nb)))) H Q) : WpL P cfg f (⟨some d, .call ⟨.builtin .min, #[x, y], ts⟩, none⟩ :: l) E H Q := WpL.min2 h h1 hk
theorem Rx.max2 {ts : Array TypeId} {k k' : IntKind} {na nb : Int} (h : aeval E x = some (.int k na) := by ((first | simp only [sB, Nat.reduceBEq, ne_eq, not_false_eq_true, *, -hK] | simp only [sB, Nat.reduceBEq, ne_eq, not_false_eq_true, *] | skip); first | done | with_reducible rfl)) (h1 : aeval E y = some (.int k' nb) := by ((first | simp only [sB, Nat.reduceBEq, ne_eq, not_false_eq_true, *, -hK] | simp only [sB, Nat.reduceBEq, ne_eq, not_false_eq_true, *] | skip); first | done | with_reducible rfl)) (hk : WpL P cfg f l (T.set E d (some (.int k (max na nb)))) H Q) : WpL P cfg f (⟨some d, .call ⟨.builtin .max, #[x, y], ts⟩, none⟩ :: l) E H Q := WpL.max2 h h1 hk
theorem Rx.call {dd : Option Nat} {c : Call} {g : Operand} {k : FuncId} {cap vs : List AV} (hc : c.callee = .value g := by rfl) (hg : aeval E g = some (.clo k cap) := by ((first | simp only [sB, Nat.reduceBEq, ne_eq, not_false_eq_true, *, -hK] | simp only [sB, Nat.reduceBEq, ne_eq, not_false_eq_true, *] | skip); first | done | with_reducible rfl)) (hv : aevals E c.args.toList = some vs := by ((first | simp only [sB, Nat.reduceBEq, aevals, List.cons_append, List.nil_append, ne_eq, not_false_eq_true, *, -hK] | simp only [sB, Nat.reduceBEq, aevals, List.cons_append, List.nil_append, ne_eq, not_false_eq_true, *] | skip); first | done | with_reducible rfl)) (hk : WpCall P cfg k (vs ++ cap) H fun v H' => WpL P cfg f l (setO E dd v) H' Q) : WpL P cfg f (⟨dd, .call c, none⟩ :: l) E H Q := WpL.call hc hg hv hk
theorem Rx.guardU {dd : Option Nat} {op : Op} {s : Nat} {t : Bool} {v : AV} (h : some (E.at s) = some v := by ((first | simp only [sB, Nat.reduceBEq, ne_eq, not_false_eq_true, *, -hK] | simp only [sB, Nat.reduceBEq, ne_eq, not_false_eq_true, *] | skip); first | done | with_reducible rfl)) (hv : v = undefA := by with_reducible rfl) (hk : WpL P cfg f l (setO E dd undefA) H Q) : WpL P cfg f (⟨dd, op, some (s, t)⟩ :: l) E H Q := WpL.guardU h hv hk
theorem Rx.guard {dd : Option Nat} {op : Op} {s : Nat} {tb t : Bool} (h : E.at s = .bool t := by ((first | simp only [sB, Nat.reduceBEq, ne_eq, not_false_eq_true, *, -hK] | simp only [sB, Nat.reduceBEq, ne_eq, not_false_eq_true, *] | skip); first | done | with_reducible rfl)) (h1 : t = tb → WpL P cfg f (⟨dd, op, none⟩ :: l) E H Q) (h2 : t = !tb → WpL P cfg f l (setO E dd undefA) H Q) : WpL P cfg f (⟨dd, op, some (s, tb)⟩ :: l) E H Q := WpL.guard h h1 h2
theorem Rx.cond {N : Nat} {ca cb : SC} {Q : AX → Env → Hp → Prop} {t : Bool} (hx : aeval E x = some (.bool t) := by ((first | simp only [sB, Nat.reduceBEq, ne_eq, not_false_eq_true, *, -hK] | simp only [sB, Nat.reduceBEq, ne_eq, not_false_eq_true, *] | skip); first | done | with_reducible rfl)) (h1 : t = true → Wp P cfg f N ca E H Q) (h2 : t = false → Wp P cfg f N cb E H Q) : Wp P cfg f N (.cond x ca cb) E H Q := Wp.cond hx h1 h2
theorem Ry.move (h : aeval E x = some v := by ((first | simp only [sB, Nat.reduceBEq, ne_eq, not_false_eq_true, decide_true, decide_false, Int.reduceEq, Int.reduceLE, Int.reduceToNat, Nat.mul_one, *, -hK] | simp only [sB, Nat.reduceBEq, ne_eq, not_false_eq_true, decide_true, decide_false, Int.reduceEq, Int.reduceLE, Int.reduceToNat, Nat.mul_one, *] | skip); first | done | with_reducible rfl)) (hk : WpL P cfg f l (T.set E d (some v)) H Q) : WpL P cfg f (⟨some d, .move x, none⟩ :: l) E H Q := WpL.move h hk
theorem Ry.assign (h : aeval E x = some v := by ((first | simp only [sB, Nat.reduceBEq, ne_eq, not_false_eq_true, decide_true, decide_false, Int.reduceEq, Int.reduceLE, Int.reduceToNat, Nat.mul_one, *, -hK] | simp only [sB, Nat.reduceBEq, ne_eq, not_false_eq_true, decide_true, decide_false, Int.reduceEq, Int.reduceLE, Int.reduceToNat, Nat.mul_one, *] | skip); first | done | with_reducible rfl)) (hk : WpL P cfg f l (T.set E d (some v)) H Q) : WpL P cfg f (⟨some d, .assign x, none⟩ :: l) E H Q := WpL.assign h hk
theorem Ry.pick {z : Operand} {t : Bool} (h : aeval E x = some (.bool t) := by ((first | simp only [sB, Nat.reduceBEq, ne_eq, not_false_eq_true, decide_true, decide_false, Int.reduceEq, Int.reduceLE, Int.reduceToNat, Nat.mul_one, *, -hK] | simp only [sB, Nat.reduceBEq, ne_eq, not_false_eq_true, decide_true, decide_false, Int.reduceEq, Int.reduceLE, Int.reduceToNat, Nat.mul_one, *] | skip); first | done | with_reducible rfl)) (h1 : aeval E y = some a := by ((first | simp only [sB, Nat.reduceBEq, ne_eq, not_false_eq_true, decide_true, decide_false, Int.reduceEq, Int.reduceLE, Int.reduceToNat, Nat.mul_one, *, -hK] | simp only [sB, Nat.reduceBEq, ne_eq, not_false_eq_true, decide_true, decide_false, Int.reduceEq, Int.reduceLE, Int.reduceToNat, Nat.mul_one, *] | skip); first | done | with_reducible rfl)) (h2 : aeval E z = some b := by ((first | simp only [sB, Nat.reduceBEq, ne_eq, not_false_eq_true, decide_true, decide_false, Int.reduceEq, Int.reduceLE, Int.reduceToNat, Nat.mul_one, *, -hK] | simp only [sB, Nat.reduceBEq, ne_eq, not_false_eq_true, decide_true, decide_false, Int.reduceEq, Int.reduceLE, Int.reduceToNat, Nat.mul_one, *] | skip); first | done | with_reducible rfl)) (hk : WpL P cfg f l (T.set E d (some (bsel t a b))) H Q) : WpL P cfg f (⟨some d, .pick x y z, none⟩ :: l) E H Q := WpL.pick h h1 h2 hk
theorem Ry.load (h : aeval E x = some a := by ((first | simp only [sB, Nat.reduceBEq, ne_eq, not_false_eq_true, decide_true, decide_false, Int.reduceEq, Int.reduceLE, Int.reduceToNat, Nat.mul_one, *, -hK] | simp only [sB, Nat.reduceBEq, ne_eq, not_false_eq_true, decide_true, decide_false, Int.reduceEq, Int.reduceLE, Int.reduceToNat, Nat.mul_one, *] | skip); first | done | with_reducible rfl)) (h1 : aload P H t a = some v := by ((first | simp only [sB, sO, tyF, Nat.reduceBEq, Nat.reduceAdd, Nat.reduceLeDiff, ne_eq, not_false_eq_true, decide_true, decide_false, Int.reduceEq, Int.reduceLE, Int.reduceToNat, Nat.mul_one, *, -hK] | simp only [sB, sO, tyF, Nat.reduceBEq, Nat.reduceAdd, Nat.reduceLeDiff, ne_eq, not_false_eq_true, decide_true, decide_false, Int.reduceEq, Int.reduceLE, Int.reduceToNat, Nat.mul_one, *] | skip); first | done | with_reducible rfl)) (hk : WpL P cfg f l (T.set E d (some v)) H Q) : WpL P cfg f (⟨some d, .load t x, none⟩ :: l) E H Q := WpL.load h h1 hk
theorem Ry.store (h : aeval E x = some a := by ((first | simp only [sB, Nat.reduceBEq, ne_eq, not_false_eq_true, decide_true, decide_false, Int.reduceEq, Int.reduceLE, Int.reduceToNat, Nat.mul_one, *, -hK] | simp only [sB, Nat.reduceBEq, ne_eq, not_false_eq_true, decide_true, decide_false, Int.reduceEq, Int.reduceLE, Int.reduceToNat, Nat.mul_one, *] | skip); first | done | with_reducible rfl)) (h1 : aeval E y = some b := by ((first | simp only [sB, Nat.reduceBEq, ne_eq, not_false_eq_true, decide_true, decide_false, Int.reduceEq, Int.reduceLE, Int.reduceToNat, Nat.mul_one, *, -hK] | simp only [sB, Nat.reduceBEq, ne_eq, not_false_eq_true, decide_true, decide_false, Int.reduceEq, Int.reduceLE, Int.reduceToNat, Nat.mul_one, *] | skip); first | done | with_reducible rfl)) (h2 : astore P H t a b = some H' := by ((first | simp only [sB, sO, tyF, Nat.reduceBEq, Nat.reduceAdd, Nat.reduceLeDiff, ne_eq, not_false_eq_true, decide_true, decide_false, Int.reduceEq, Int.reduceLE, Int.reduceToNat, Nat.mul_one, *, -hK] | simp only [sB, sO, tyF, Nat.reduceBEq, Nat.reduceAdd, Nat.reduceLeDiff, ne_eq, not_false_eq_true, decide_true, decide_false, Int.reduceEq, Int.reduceLE, Int.reduceToNat, Nat.mul_one, *] | skip); first | done | with_reducible rfl)) (hk : WpL P cfg f l E H' Q) : WpL P cfg f (⟨none, .store t x y, none⟩ :: l) E H Q := WpL.store h h1 h2 hk
theorem Ry.nilCheck {r o : Nat} (h : aeval E x = some (.ptr r o) := by ((first | simp only [sB, Nat.reduceBEq, ne_eq, not_false_eq_true, decide_true, decide_false, Int.reduceEq, Int.reduceLE, Int.reduceToNat, Nat.mul_one, *, -hK] | simp only [sB, Nat.reduceBEq, ne_eq, not_false_eq_true, decide_true, decide_false, Int.reduceEq, Int.reduceLE, Int.reduceToNat, Nat.mul_one, *] | skip); first | done | with_reducible rfl)) (hk : WpL P cfg f l (T.set E d (some (.ptr r o))) H Q) : WpL P cfg f (⟨some d, .nilCheck x, none⟩ :: l) E H Q := WpL.nilCheck h hk
theorem Ry.bin {op : BinOp} (h : aeval E x = some a := by ((first | simp only [sB, Nat.reduceBEq, ne_eq, not_false_eq_true, decide_true, decide_false, Int.reduceEq, Int.reduceLE, Int.reduceToNat, Nat.mul_one, *, -hK] | simp only [sB, Nat.reduceBEq, ne_eq, not_false_eq_true, decide_true, decide_false, Int.reduceEq, Int.reduceLE, Int.reduceToNat, Nat.mul_one, *] | skip); first | done | with_reducible rfl)) (h1 : aeval E y = some b := by ((first | simp only [sB, Nat.reduceBEq, ne_eq, not_false_eq_true, decide_true, decide_false, Int.reduceEq, Int.reduceLE, Int.reduceToNat, Nat.mul_one, *, -hK] | simp only [sB, Nat.reduceBEq, ne_eq, not_false_eq_true, decide_true, decide_false, Int.reduceEq, Int.reduceLE, Int.reduceToNat, Nat.mul_one, *] | skip); first | done | with_reducible rfl)) (h2 : binA P cfg.dec op t a b = some v := by ((first | simp only [sB, sO, tyF, Nat.reduceBEq, Nat.reduceAdd, Nat.reduceLeDiff, ne_eq, not_false_eq_true, decide_true, decide_false, Int.reduceEq, Int.reduceLE, Int.reduceToNat, Nat.mul_one, *, -hK] | simp only [sB, sO, tyF, Nat.reduceBEq, Nat.reduceAdd, Nat.reduceLeDiff, ne_eq, not_false_eq_true, decide_true, decide_false, Int.reduceEq, Int.reduceLE, Int.reduceToNat, Nat.mul_one, *] | skip); first | done | with_reducible rfl)) (hk : WpL P cfg f l (T.set E d (some v)) H Q) : WpL P cfg f (⟨some d, .binOp op t x y u, none⟩ :: l) E H Q := WpL.bin h h1 h2 hk
theorem Ry.un {op : UnOp} (h : aeval E x = some a := by ((first | simp only [sB, Nat.reduceBEq, ne_eq, not_false_eq_true, decide_true, decide_false, Int.reduceEq, Int.reduceLE, Int.reduceToNat, Nat.mul_one, *, -hK] | simp only [sB, Nat.reduceBEq, ne_eq, not_false_eq_true, decide_true, decide_false, Int.reduceEq, Int.reduceLE, Int.reduceToNat, Nat.mul_one, *] | skip); first | done | with_reducible rfl)) (h2 : unA op a = some v := by ((first | simp only [sB, sO, tyF, Nat.reduceBEq, Nat.reduceAdd, Nat.reduceLeDiff, ne_eq, not_false_eq_true, decide_true, decide_false, Int.reduceEq, Int.reduceLE, Int.reduceToNat, Nat.mul_one, *, -hK] | simp only [sB, sO, tyF, Nat.reduceBEq, Nat.reduceAdd, Nat.reduceLeDiff, ne_eq, not_false_eq_true, decide_true, decide_false, Int.reduceEq, Int.reduceLE, Int.reduceToNat, Nat.mul_one, *] | skip); first | done | with_reducible rfl)) (hk : WpL P cfg f l (T.set E d (some v)) H Q) : WpL P cfg f (⟨some d, .unOp op t x, none⟩ :: l) E H Q := WpL.un h h2 hk
theorem Ry.convert (h : aeval E x = some a := by ((first | simp only [sB, Nat.reduceBEq, ne_eq, not_false_eq_true, decide_true, decide_false, Int.reduceEq, Int.reduceLE, Int.reduceToNat, Nat.mul_one, *, -hK] | simp only [sB, Nat.reduceBEq, ne_eq, not_false_eq_true, decide_true, decide_false, Int.reduceEq, Int.reduceLE, Int.reduceToNat, Nat.mul_one, *] | skip); first | done | with_reducible rfl)) (h2 : convertA P H t u a = some v := by ((first | simp only [sB, sO, tyF, Nat.reduceBEq, Nat.reduceAdd, Nat.reduceLeDiff, ne_eq, not_false_eq_true, decide_true, decide_false, Int.reduceEq, Int.reduceLE, Int.reduceToNat, Nat.mul_one, *, -hK] | simp only [sB, sO, tyF, Nat.reduceBEq, Nat.reduceAdd, Nat.reduceLeDiff, ne_eq, not_false_eq_true, decide_true, decide_false, Int.reduceEq, Int.reduceLE, Int.reduceToNat, Nat.mul_one, *] | skip); first | done | with_reducible rfl)) (hk : WpL P cfg f l (T.set E d (some v)) H Q) : WpL P cfg f (⟨some d, .convert t u x, none⟩ :: l) E H Q := WpL.convert h h2 hk
theorem Ry.fieldAddr {i : Nat} (h : aeval E x = some a := by ((first | simp only [sB, Nat.reduceBEq, ne_eq, not_false_eq_true, decide_true, decide_false, Int.reduceEq, Int.reduceLE, Int.reduceToNat, Nat.mul_one, *, -hK] | simp only [sB, Nat.reduceBEq, ne_eq, not_false_eq_true, decide_true, decide_false, Int.reduceEq, Int.reduceLE, Int.reduceToNat, Nat.mul_one, *] | skip); first | done | with_reducible rfl)) (h2 : fieldAddrA P t a i = some v := by ((first | simp only [sB, sO, tyF, Nat.reduceBEq, Nat.reduceAdd, Nat.reduceLeDiff, ne_eq, not_false_eq_true, decide_true, decide_false, Int.reduceEq, Int.reduceLE, Int.reduceToNat, Nat.mul_one, *, -hK] | simp only [sB, sO, tyF, Nat.reduceBEq, Nat.reduceAdd, Nat.reduceLeDiff, ne_eq, not_false_eq_true, decide_true, decide_false, Int.reduceEq, Int.reduceLE, Int.reduceToNat, Nat.mul_one, *] | skip); first | done | with_reducible rfl)) (hk : WpL P cfg f l (T.set E d (some v)) H Q) : WpL P cfg f (⟨some d, .fieldAddr t x i, none⟩ :: l) E H Q := WpL.fieldAddr h h2 hk
theorem Ry.field {i : Nat} (h : aeval E x = some a := by ((first | simp only [sB, Nat.reduceBEq, ne_eq, not_false_eq_true, decide_true, decide_false, Int.reduceEq, Int.reduceLE, Int.reduceToNat, Nat.mul_one, *, -hK] | simp only [sB, Nat.reduceBEq, ne_eq, not_false_eq_true, decide_true, decide_false, Int.reduceEq, Int.reduceLE, Int.reduceToNat, Nat.mul_one, *] | skip); first | done | with_reducible rfl)) (h2 : fieldA P t a i = some v := by ((first | simp only [sB, sO, tyF, Nat.reduceBEq, Nat.reduceAdd, Nat.reduceLeDiff, ne_eq, not_false_eq_true, decide_true, decide_false, Int.reduceEq, Int.reduceLE, Int.reduceToNat, Nat.mul_one, *, -hK] | simp only [sB, sO, tyF, Nat.reduceBEq, Nat.reduceAdd, Nat.reduceLeDiff, ne_eq, not_false_eq_true, decide_true, decide_false, Int.reduceEq, Int.reduceLE, Int.reduceToNat, Nat.mul_one, *] | skip); first | done | with_reducible rfl)) (hk : WpL P cfg f l (T.set E d (some v)) H Q) : WpL P cfg f (⟨some d, .field t x i, none⟩ :: l) E H Q := WpL.field h h2 hk
theorem Ry.indexAddr (h : aeval E x = some a := by ((first | simp only [sB, Nat.reduceBEq, ne_eq, not_false_eq_true, decide_true, decide_false, Int.reduceEq, Int.reduceLE, Int.reduceToNat, Nat.mul_one, *, -hK] | simp only [sB, Nat.reduceBEq, ne_eq, not_false_eq_true, decide_true, decide_false, Int.reduceEq, Int.reduceLE, Int.reduceToNat, Nat.mul_one, *] | skip); first | done | with_reducible rfl)) (h1 : aeval E y = some b := by ((first | simp only [sB, Nat.reduceBEq, ne_eq, not_false_eq_true, decide_true, decide_false, Int.reduceEq, Int.reduceLE, Int.reduceToNat, Nat.mul_one, *, -hK] | simp only [sB, Nat.reduceBEq, ne_eq, not_false_eq_true, decide_true, decide_false, Int.reduceEq, Int.reduceLE, Int.reduceToNat, Nat.mul_one, *] | skip); first | done | with_reducible rfl)) (h2 : indexAddrA P t a b = some v := by ((first | simp only [sB, sO, tyF, Nat.reduceBEq, Nat.reduceAdd, Nat.reduceLeDiff, ne_eq, not_false_eq_true, decide_true, decide_false, Int.reduceEq, Int.reduceLE, Int.reduceToNat, Nat.mul_one, *, -hK] | simp only [sB, sO, tyF, Nat.reduceBEq, Nat.reduceAdd, Nat.reduceLeDiff, ne_eq, not_false_eq_true, decide_true, decide_false, Int.reduceEq, Int.reduceLE, Int.reduceToNat, Nat.mul_one, *] | skip); first | done | with_reducible rfl)) (hk : WpL P cfg f l (T.set E d (some v)) H Q) : WpL P cfg f (⟨some d, .indexAddr t x y, none⟩ :: l) E H Q := WpL.indexAddr h h1 h2 hk
theorem Ry.index (h : aeval E x = some a := by ((first | simp only [sB, Nat.reduceBEq, ne_eq, not_false_eq_true, decide_true, decide_false, Int.reduceEq, Int.reduceLE, Int.reduceToNat, Nat.mul_one, *, -hK] | simp only [sB, Nat.reduceBEq, ne_eq, not_false_eq_true, decide_true, decide_false, Int.reduceEq, Int.reduceLE, Int.reduceToNat, Nat.mul_one, *] | skip); first | done | with_reducible rfl)) (h1 : aeval E y = some b := by ((first | simp only [sB, Nat.reduceBEq, ne_eq, not_false_eq_true, decide_true, decide_false, Int.reduceEq, Int.reduceLE, Int.reduceToNat, Nat.mul_one, *, -hK] | simp only [sB, Nat.reduceBEq, ne_eq, not_false_eq_true, decide_true, decide_false, Int.reduceEq, Int.reduceLE, Int.reduceToNat, Nat.mul_one, *] | skip); first | done | with_reducible rfl)) (h2 : indexA P t a b = some v := by ((first | simp only [sB, sO, tyF, Nat.reduceBEq, Nat.reduceAdd, Nat.reduceLeDiff, ne_eq, not_false_eq_true, decide_true, decide_false, Int.reduceEq, Int.reduceLE, Int.reduceToNat, Nat.mul_one, *, -hK] | simp only [sB, sO, tyF, Nat.reduceBEq, Nat.reduceAdd, Nat.reduceLeDiff, ne_eq, not_false_eq_true, decide_true, decide_false, Int.reduceEq, Int.reduceLE, Int.reduceToNat, Nat.mul_one, *] | skip); first | done | with_reducible rfl)) (hk : WpL P cfg f l (T.set E d (some v)) H Q) : WpL P cfg f (⟨some d, .index t x y, none⟩ :: l) E H Q := WpL.index h h1 h2 hk
theorem Ry.extract {i : Nat} (h : aeval E x = some a := by ((first | simp only [sB, Nat.reduceBEq, ne_eq, not_false_eq_true, decide_true, decide_false, Int.reduceEq, Int.reduceLE, Int.reduceToNat, Nat.mul_one, *, -hK] | simp only [sB, Nat.reduceBEq, ne_eq, not_false_eq_true, decide_true, decide_false, Int.reduceEq, Int.reduceLE, Int.reduceToNat, Nat.mul_one, *] | skip); first | done | with_reducible rfl)) (h2 : Ab.extract a i = some v := by ((first | simp only [sB, sO, tyF, Nat.reduceBEq, Nat.reduceAdd, Nat.reduceLeDiff, ne_eq, not_false_eq_true, decide_true, decide_false, Int.reduceEq, Int.reduceLE, Int.reduceToNat, Nat.mul_one, *, -hK] | simp only [sB, sO, tyF, Nat.reduceBEq, Nat.reduceAdd, Nat.reduceLeDiff, ne_eq, not_false_eq_true, decide_true, decide_false, Int.reduceEq, Int.reduceLE, Int.reduceToNat, Nat.mul_one, *] | skip); first | done | with_reducible rfl)) (hk : WpL P cfg f l (T.set E d (some v)) H Q) : WpL P cfg f (⟨some d, .extract x i, none⟩ :: l) E H Q := WpL.extract h h2 hk
theorem Ry.alloc {z : List AV} {n : Nat} (h : zeroA P t = some z := by ((first | simp only [sB, sO, tyF, Nat.reduceBEq, Nat.reduceAdd, Nat.reduceLeDiff, ne_eq, not_false_eq_true, decide_true, decide_false, Int.reduceEq, Int.reduceLE, Int.reduceToNat, Nat.mul_one, *, -hK] | simp only [sB, sO, tyF, Nat.reduceBEq, Nat.reduceAdd, Nat.reduceLeDiff, ne_eq, not_false_eq_true, decide_true, decide_false, Int.reduceEq, Int.reduceLE, Int.reduceToNat, Nat.mul_one, *] | skip); first | done | with_reducible rfl)) (hn : some H.next = some n := by ((try simp only [Hp.next_alloc, Hp.next_set, H0_next, Nat.add_assoc, Nat.reduceAdd, Nat.zero_add]); with_reducible rfl)) (hk : WpL P cfg f l (T.set E d (some (.ptr n 0))) (H.alloc (.cells z 0 true)) Q) : WpL P cfg f (⟨some d, .alloc t, none⟩ :: l) E H Q := WpL.alloc h hn hk
theorem Ry.box {cs : List AV} {n : Nat} (h : aeval E x = some a := by ((first | simp only [sB, Nat.reduceBEq, ne_eq, not_false_eq_true, decide_true, decide_false, Int.reduceEq, Int.reduceLE, Int.reduceToNat, Nat.mul_one, *, -hK] | simp only [sB, Nat.reduceBEq, ne_eq, not_false_eq_true, decide_true, decide_false, Int.reduceEq, Int.reduceLE, Int.reduceToNat, Nat.mul_one, *] | skip); first | done | with_reducible rfl)) (hc : some a.cells = some cs := by ((first | simp only [sB, sO, tyF, Nat.reduceBEq, Nat.reduceAdd, Nat.reduceLeDiff, ne_eq, not_false_eq_true, decide_true, decide_false, Int.reduceEq, Int.reduceLE, Int.reduceToNat, Nat.mul_one, *, -hK] | simp only [sB, sO, tyF, Nat.reduceBEq, Nat.reduceAdd, Nat.reduceLeDiff, ne_eq, not_false_eq_true, decide_true, decide_false, Int.reduceEq, Int.reduceLE, Int.reduceToNat, Nat.mul_one, *] | skip); first | done | with_reducible rfl)) (hn : some H.next = some n := by ((try simp only [Hp.next_alloc, Hp.next_set, H0_next, Nat.add_assoc, Nat.reduceAdd, Nat.zero_add]); with_reducible rfl)) (hk : WpL P cfg f l (T.set E d (some (.ptr n 0))) (H.alloc (.cells cs 0 true)) Q) : WpL P cfg f (⟨some d, .box t x, none⟩ :: l) E H Q := WpL.box h hc hn hk
theorem Ry.build {parts : Array (Nat × Operand)} {ps : List (Nat × AV)} (h : partsA E parts.toList = some ps := by ((first | simp only [sB, Nat.reduceBEq, partsA, ne_eq, not_false_eq_true, decide_true, decide_false, Int.reduceEq, Int.reduceLE, Int.reduceToNat, Nat.mul_one, *, -hK] | simp only [sB, Nat.reduceBEq, partsA, ne_eq, not_false_eq_true, decide_true, decide_false, Int.reduceEq, Int.reduceLE, Int.reduceToNat, Nat.mul_one, *] | skip); first | done | with_reducible rfl)) (h2 : buildA P t ps = some v := by ((first | simp only [sB, sO, tyF, Nat.reduceBEq, Nat.reduceAdd, Nat.reduceLeDiff, ne_eq, not_false_eq_true, decide_true, decide_false, Int.reduceEq, Int.reduceLE, Int.reduceToNat, Nat.mul_one, *, -hK] | simp only [sB, sO, tyF, Nat.reduceBEq, Nat.reduceAdd, Nat.reduceLeDiff, ne_eq, not_false_eq_true, decide_true, decide_false, Int.reduceEq, Int.reduceLE, Int.reduceToNat, Nat.mul_one, *] | skip); first | done | with_reducible rfl)) (hk : WpL P cfg f l (T.set E d (some v)) H Q) : WpL P cfg f (⟨some d, .build t parts, none⟩ :: l) E H Q := WpL.build h h2 hk
theorem Ry.buildSlice {n : Nat} {parts : Array (Nat × Operand)} {ps : List (Nat × AV)} (h : partsA E parts.toList = some ps := by ((first | simp only [sB, Nat.reduceBEq, partsA, ne_eq, not_false_eq_true, decide_true, decide_false, Int.reduceEq, Int.reduceLE, Int.reduceToNat, Nat.mul_one, *, -hK] | simp only [sB, Nat.reduceBEq, partsA, ne_eq, not_false_eq_true, decide_true, decide_false, Int.reduceEq, Int.reduceLE, Int.reduceToNat, Nat.mul_one, *] | skip); first | done | with_reducible rfl)) (h2 : buildSliceA P H t n ps = some (v, H') := by ((first | simp only [sB, sO, tyF, Nat.reduceBEq, Nat.reduceAdd, Nat.reduceLeDiff, ne_eq, not_false_eq_true, decide_true, decide_false, Int.reduceEq, Int.reduceLE, Int.reduceToNat, Nat.mul_one, *, -hK] | simp only [sB, sO, tyF, Nat.reduceBEq, Nat.reduceAdd, Nat.reduceLeDiff, ne_eq, not_false_eq_true, decide_true, decide_false, Int.reduceEq, Int.reduceLE, Int.reduceToNat, Nat.mul_one, *] | skip); first | done | with_reducible rfl)) (hk : WpL P cfg f l (T.set E d (some v)) H' Q) : WpL P cfg f (⟨some d, .buildSlice t n parts, none⟩ :: l) E H Q := WpL.buildSlice h h2 hk
theorem Ry.makeMap {n : Nat} (hn : some H.next = some n := by ((try simp only [Hp.next_alloc, Hp.next_set, H0_next, Nat.add_assoc, Nat.reduceAdd, Nat.zero_add]); with_reducible rfl)) (hk : WpL P cfg f l (T.set E d (some (.map n))) (H.alloc (.map [])) Q) : WpL P cfg f (⟨some d, .makeMap t none, none⟩ :: l) E H Q := WpL.makeMap hn hk
theorem Ry.makeSlice (h : aeval E x = some a := by ((first | simp only [sB, Nat.reduceBEq, ne_eq, not_false_eq_true, decide_true, decide_false, Int.reduceEq, Int.reduceLE, Int.reduceToNat, Nat.mul_one, *, -hK] | simp only [sB, Nat.reduceBEq, ne_eq, not_false_eq_true, decide_true, decide_false, Int.reduceEq, Int.reduceLE, Int.reduceToNat, Nat.mul_one, *] | skip); first | done | with_reducible rfl)) (h1 : aeval E y = some b := by ((first | simp only [sB, Nat.reduceBEq, ne_eq, not_false_eq_true, decide_true, decide_false, Int.reduceEq, Int.reduceLE, Int.reduceToNat, Nat.mul_one, *, -hK] | simp only [sB, Nat.reduceBEq, ne_eq, not_false_eq_true, decide_true, decide_false, Int.reduceEq, Int.reduceLE, Int.reduceToNat, Nat.mul_one, *] | skip); first | done | with_reducible rfl)) (h2 : makeSliceA P H t a b = some (v, H') := by ((first | simp only [sB, sO, tyF, Nat.reduceBEq, Nat.reduceAdd, Nat.reduceLeDiff, ne_eq, not_false_eq_true, decide_true, decide_false, Int.reduceEq, Int.reduceLE, Int.reduceToNat, Nat.mul_one, *, -hK] | simp only [sB, sO, tyF, Nat.reduceBEq, Nat.reduceAdd, Nat.reduceLeDiff, ne_eq, not_false_eq_true, decide_true, decide_false, Int.reduceEq, Int.reduceLE, Int.reduceToNat, Nat.mul_one, *] | skip); first | done | with_reducible rfl)) (hk : WpL P cfg f l (T.set E d (some v)) H' Q) : WpL P cfg f (⟨some d, .makeSlice t x y, none⟩ :: l) E H Q := WpL.makeSlice h h1 h2 hk
theorem Ry.lookup {ok : Bool} (h : aeval E x = some a := by ((first | simp only [sB, Nat.reduceBEq, ne_eq, not_false_eq_true, decide_true, decide_false, Int.reduceEq, Int.reduceLE, Int.reduceToNat, Nat.mul_one, *, -hK] | simp only [sB, Nat.reduceBEq, ne_eq, not_false_eq_true, decide_true, decide_false, Int.reduceEq, Int.reduceLE, Int.reduceToNat, Nat.mul_one, *] | skip); first | done | with_reducible rfl)) (h1 : aeval E y = some b := by ((first | simp only [sB, Nat.reduceBEq, ne_eq, not_false_eq_true, decide_true, decide_false, Int.reduceEq, Int.reduceLE, Int.reduceToNat, Nat.mul_one, *, -hK] | simp only [sB, Nat.reduceBEq, ne_eq, not_false_eq_true, decide_true, decide_false, Int.reduceEq, Int.reduceLE, Int.reduceToNat, Nat.mul_one, *] | skip); first | done | with_reducible rfl)) (h2 : lookupA P H t a b ok = some v := by ((first | simp only [sB, sO, tyF, Nat.reduceBEq, Nat.reduceAdd, Nat.reduceLeDiff, ne_eq, not_false_eq_true, decide_true, decide_false, Int.reduceEq, Int.reduceLE, Int.reduceToNat, Nat.mul_one, *, -hK] | simp only [sB, sO, tyF, Nat.reduceBEq, Nat.reduceAdd, Nat.reduceLeDiff, ne_eq, not_false_eq_true, decide_true, decide_false, Int.reduceEq, Int.reduceLE, Int.reduceToNat, Nat.mul_one, *] | skip); first | done | with_reducible rfl)) (hk : WpL P cfg f l (T.set E d (some v)) H Q) : WpL P cfg f (⟨some d, .lookup t x y ok, none⟩ :: l) E H Q := WpL.lookup h h1 h2 hk
theorem Ry.mapUpdate {z : Operand} {c : AV} (h : aeval E x = some a := by ((first | simp only [sB, Nat.reduceBEq, ne_eq, not_false_eq_true, decide_true, decide_false, Int.reduceEq, Int.reduceLE, Int.reduceToNat, Nat.mul_one, *, -hK] | simp only [sB, Nat.reduceBEq, ne_eq, not_false_eq_true, decide_true, decide_false, Int.reduceEq, Int.reduceLE, Int.reduceToNat, Nat.mul_one, *] | skip); first | done | with_reducible rfl)) (h1 : aeval E y = some b := by ((first | simp only [sB, Nat.reduceBEq, ne_eq, not_false_eq_true, decide_true, decide_false, Int.reduceEq, Int.reduceLE, Int.reduceToNat, Nat.mul_one, *, -hK] | simp only [sB, Nat.reduceBEq, ne_eq, not_false_eq_true, decide_true, decide_false, Int.reduceEq, Int.reduceLE, Int.reduceToNat, Nat.mul_one, *] | skip); first | done | with_reducible rfl)) (h2 : aeval E z = some c := by ((first | simp only [sB, Nat.reduceBEq, ne_eq, not_false_eq_true, decide_true, decide_false, Int.reduceEq, Int.reduceLE, Int.reduceToNat, Nat.mul_one, *, -hK] | simp only [sB, Nat.reduceBEq, ne_eq, not_false_eq_true, decide_true, decide_false, Int.reduceEq, Int.reduceLE, Int.reduceToNat, Nat.mul_one, *] | skip); first | done | with_reducible rfl)) (h3 : mapUpdateA P H t a b c = some H' := by ((first | simp only [sB, sO, tyF, Nat.reduceBEq, Nat.reduceAdd, Nat.reduceLeDiff, ne_eq, not_false_eq_true, decide_true, decide_false, Int.reduceEq, Int.reduceLE, Int.reduceToNat, Nat.mul_one, *, -hK] | simp only [sB, sO, tyF, Nat.reduceBEq, Nat.reduceAdd, Nat.reduceLeDiff, ne_eq, not_false_eq_true, decide_true, decide_false, Int.reduceEq, Int.reduceLE, Int.reduceToNat, Nat.mul_one, *] | skip); first | done | with_reducible rfl)) (hk : WpL P cfg f l E H' Q) : WpL P cfg f (⟨none, .mapUpdate t x y z, none⟩ :: l) E H Q := WpL.mapUpdate h h1 h2 h3 hk
theorem Ry.makeFunc {g : FuncId} {cap : Array Operand} {vs : List AV} (h : aevals E cap.toList = some vs := by ((first | simp only [sB, Nat.reduceBEq, aevals, List.cons_append, List.nil_append, ne_eq, not_false_eq_true, decide_true, decide_false, Int.reduceEq, Int.reduceLE, Int.reduceToNat, Nat.mul_one, *, -hK] | simp only [sB, Nat.reduceBEq, aevals, List.cons_append, List.nil_append, ne_eq, not_false_eq_true, decide_true, decide_false, Int.reduceEq, Int.reduceLE, Int.reduceToNat, Nat.mul_one, *] | skip); first | done | with_reducible rfl)) (hk : WpL P cfg f l (T.set E d (some (.clo g vs))) H Q) : WpL P cfg f (⟨some d, .makeFunc (.func g) #[] cap, none⟩ :: l) E H Q := WpL.makeFunc h hk
theorem Ry.slice {lo hi : Option Operand} {lv hv : Option AV} (h : aeval E x = some a := by ((first | simp only [sB, Nat.reduceBEq, ne_eq, not_false_eq_true, decide_true, decide_false, Int.reduceEq, Int.reduceLE, Int.reduceToNat, Nat.mul_one, *, -hK] | simp only [sB, Nat.reduceBEq, ne_eq, not_false_eq_true, decide_true, decide_false, Int.reduceEq, Int.reduceLE, Int.reduceToNat, Nat.mul_one, *] | skip); first | done | with_reducible rfl)) (h1 : aevalO E lo = some lv := by ((first | simp only [sB, Nat.reduceBEq, aevalO, ne_eq, not_false_eq_true, decide_true, decide_false, Int.reduceEq, Int.reduceLE, Int.reduceToNat, Nat.mul_one, *, -hK] | simp only [sB, Nat.reduceBEq, aevalO, ne_eq, not_false_eq_true, decide_true, decide_false, Int.reduceEq, Int.reduceLE, Int.reduceToNat, Nat.mul_one, *] | skip); first | done | with_reducible rfl)) (h2 : aevalO E hi = some hv := by ((first | simp only [sB, Nat.reduceBEq, aevalO, ne_eq, not_false_eq_true, decide_true, decide_false, Int.reduceEq, Int.reduceLE, Int.reduceToNat, Nat.mul_one, *, -hK] | simp only [sB, Nat.reduceBEq, aevalO, ne_eq, not_false_eq_true, decide_true, decide_false, Int.reduceEq, Int.reduceLE, Int.reduceToNat, Nat.mul_one, *] | skip); first | done | with_reducible rfl)) (h3 : sliceHA P H t a lv hv = some v := by ((first | simp only [sB, sO, tyF, Nat.reduceBEq, Nat.reduceAdd, Nat.reduceLeDiff, ne_eq, not_false_eq_true, decide_true, decide_false, Int.reduceEq, Int.reduceLE, Int.reduceToNat, Nat.mul_one, *, -hK] | simp only [sB, sO, tyF, Nat.reduceBEq, Nat.reduceAdd, Nat.reduceLeDiff, ne_eq, not_false_eq_true, decide_true, decide_false, Int.reduceEq, Int.reduceLE, Int.reduceToNat, Nat.mul_one, *] | skip); first | done | with_reducible rfl)) (hk : WpL P cfg f l (T.set E d (some v)) H Q) : WpL P cfg f (⟨some d, .slice t x lo hi none, none⟩ :: l) E H Q := WpL.slice h h1 h2 h3 hk
theorem Ry.len {c : AV} (h : aeval E x = some a := by ((first | simp only [sB, Nat.reduceBEq, ne_eq, not_false_eq_true, decide_true, decide_false, Int.reduceEq, Int.reduceLE, Int.reduceToNat, Nat.mul_one, *, -hK] | simp only [sB, Nat.reduceBEq, ne_eq, not_false_eq_true, decide_true, decide_false, Int.reduceEq, Int.reduceLE, Int.reduceToNat, Nat.mul_one, *] | skip); first | done | with_reducible rfl)) (h1 : lenAt P H t a = some c := by ((first | simp only [sB, sO, tyF, Nat.reduceBEq, Nat.reduceAdd, Nat.reduceLeDiff, ne_eq, not_false_eq_true, decide_true, decide_false, Int.reduceEq, Int.reduceLE, Int.reduceToNat, Nat.mul_one, *, -hK] | simp only [sB, sO, tyF, Nat.reduceBEq, Nat.reduceAdd, Nat.reduceLeDiff, ne_eq, not_false_eq_true, decide_true, decide_false, Int.reduceEq, Int.reduceLE, Int.reduceToNat, Nat.mul_one, *] | skip); first | done | with_reducible rfl)) (hk : WpL P cfg f l (T.set E d (some c)) H Q) : WpL P cfg f (⟨some d, .call ⟨.builtin .len, #[x], #[t]⟩, none⟩ :: l) E H Q := WpL.len h h1 hk
theorem Ry.append (h : aeval E x = some a := by ((first | simp only [sB, Nat.reduceBEq, ne_eq, not_false_eq_true, decide_true, decide_false, Int.reduceEq, Int.reduceLE, Int.reduceToNat, Nat.mul_one, *, -hK] | simp only [sB, Nat.reduceBEq, ne_eq, not_false_eq_true, decide_true, decide_false, Int.reduceEq, Int.reduceLE, Int.reduceToNat, Nat.mul_one, *] | skip); first | done | with_reducible rfl)) (h1 : aeval E y = some b := by ((first | simp only [sB, Nat.reduceBEq, ne_eq, not_false_eq_true, decide_true, decide_false, Int.reduceEq, Int.reduceLE, Int.reduceToNat, Nat.mul_one, *, -hK] | simp only [sB, Nat.reduceBEq, ne_eq, not_false_eq_true, decide_true, decide_false, Int.reduceEq, Int.reduceLE, Int.reduceToNat, Nat.mul_one, *] | skip); first | done | with_reducible rfl)) (h2 : appendA P (cfg.keep f) H t u a b = some (v, H') := by ((first | simp only [sB, sO, tyF, Nat.reduceBEq, Nat.reduceAdd, Nat.reduceLeDiff, ne_eq, not_false_eq_true, decide_true, decide_false, Int.reduceEq, Int.reduceLE, Int.reduceToNat, Nat.mul_one, *, -hK] | simp only [sB, sO, tyF, Nat.reduceBEq, Nat.reduceAdd, Nat.reduceLeDiff, ne_eq, not_false_eq_true, decide_true, decide_false, Int.reduceEq, Int.reduceLE, Int.reduceToNat, Nat.mul_one, *] | skip); first | done | with_reducible rfl)) (hk : WpL P cfg f l (T.set E d (some v)) H' Q) : WpL P cfg f (⟨some d, .call ⟨.builtin .append, #[x, y], #[t, u]⟩, none⟩ :: l) E H Q := WpL.append h h1 h2 hk
theorem Ry.min2 {ts : Array TypeId} {k k' : IntKind} {na nb : Int} (h : aeval E x = some (.int k na) := by ((first | simp only [sB, Nat.reduceBEq, ne_eq, not_false_eq_true, decide_true, decide_false, Int.reduceEq, Int.reduceLE, Int.reduceToNat, Nat.mul_one, *, -hK] | simp only [sB, Nat.reduceBEq, ne_eq, not_false_eq_true, decide_true, decide_false, Int.reduceEq, Int.reduceLE, Int.reduceToNat, Nat.mul_one, *] | skip); first | done | with_reducible rfl)) (h1 : aeval E y = some (.int k' nb) := by ((first | simp only [sB, Nat.reduceBEq, ne_eq, not_false_eq_true, decide_true, decide_false, Int.reduceEq, Int.reduceLE, Int.reduceToNat, Nat.mul_one, *, -hK] | simp only [sB, Nat.reduceBEq, ne_eq, not_false_eq_true, decide_true, decide_false, Int.reduceEq, Int.reduceLE, Int.reduceToNat, Nat.mul_one, *] | skip); first | done | with_reducible rfl)) (hk : WpL P cfg f l (T.set E d (some (.int k (min na nb)))) H Q) : WpL P cfg f (⟨some d, .call ⟨.builtin .min, #[x, y], ts⟩, none⟩ :: l) E H Q := WpL.min2 h h1 hk
theorem Ry.max2 {ts : Array TypeId} {k k' : IntKind} {na nb : Int} (h : aeval E x = some (.int k na) := by ((first | simp only [sB, Nat.reduceBEq, ne_eq, not_false_eq_true, decide_true, decide_false, Int.reduceEq, Int.reduceLE, Int.reduceToNat, Nat.mul_one, *, -hK] | simp only [sB, Nat.reduceBEq, ne_eq, not_false_eq_true, decide_true, decide_false, Int.reduceEq, Int.reduceLE, Int.reduceToNat, Nat.mul_one, *] | skip); first | done | with_reducible rfl)) (h1 : aeval E y = some (.int k' nb) := by ((first | simp only [sB, Nat.reduceBEq, ne_eq, not_false_eq_true, decide_true, decide_false, Int.reduceEq, Int.reduceLE, Int.reduceToNat, Nat.mul_one, *, -hK] | simp only [sB, Nat.reduceBEq, ne_eq, not_false_eq_true, decide_true, decide_false, Int.reduceEq, Int.reduceLE, Int.reduceToNat, Nat.mul_one, *] | skip); first | done | with_reducible rfl)) (hk : WpL P cfg f l (T.set E d (some (.int k (max na nb)))) H Q) : WpL P cfg f (⟨some d, .call ⟨.builtin .max, #[x, y], ts⟩, none⟩ :: l) E H Q := WpL.max2 h h1 hk
theorem Ry.call {dd : Option Nat} {c : Call} {g : Operand} {k : FuncId} {cap vs : List AV} (hc : c.callee = .value g := by rfl) (hg : aeval E g = some (.clo k cap) := by ((first | simp only [sB, Nat.reduceBEq, ne_eq, not_false_eq_true, decide_true, decide_false, Int.reduceEq, Int.reduceLE, Int.reduceToNat, Nat.mul_one, *, -hK] | simp only [sB, Nat.reduceBEq, ne_eq, not_false_eq_true, decide_true, decide_false, Int.reduceEq, Int.reduceLE, Int.reduceToNat, Nat.mul_one, *] | skip); first | done | with_reducible rfl)) (hv : aevals E c.args.toList = some vs := by ((first | simp only [sB, Nat.reduceBEq, aevals, List.cons_append, List.nil_append, ne_eq, not_false_eq_true, decide_true, decide_false, Int.reduceEq, Int.reduceLE, Int.reduceToNat, Nat.mul_one, *, -hK] | simp only [sB, Nat.reduceBEq, aevals, List.cons_append, List.nil_append, ne_eq, not_false_eq_true, decide_true, decide_false, Int.reduceEq, Int.reduceLE, Int.reduceToNat, Nat.mul_one, *] | skip); first | done | with_reducible rfl)) (hk : WpCall P cfg k (vs ++ cap) H fun v H' => WpL P cfg f l (setO E dd v) H' Q) : WpL P cfg f (⟨dd, .call c, none⟩ :: l) E H Q := WpL.call hc hg hv hk
theorem Ry.guardU {dd : Option Nat} {op : Op} {s : Nat} {t : Bool} {v : AV} (h : some (E.at s) = some v := by ((first | simp only [sB, Nat.reduceBEq, ne_eq, not_false_eq_true, decide_true, decide_false, Int.reduceEq, Int.reduceLE, Int.reduceToNat, Nat.mul_one, *, -hK] | simp only [sB, Nat.reduceBEq, ne_eq, not_false_eq_true, decide_true, decide_false, Int.reduceEq, Int.reduceLE, Int.reduceToNat, Nat.mul_one, *] | skip); first | done | with_reducible rfl)) (hv : v = undefA := by with_reducible rfl) (hk : WpL P cfg f l (setO E dd undefA) H Q) : WpL P cfg f (⟨dd, op, some (s, t)⟩ :: l) E H Q := WpL.guardU h hv hk
theorem Ry.guard {dd : Option Nat} {op : Op} {s : Nat} {tb t : Bool} (h : E.at s = .bool t := by ((first | simp only [sB, Nat.reduceBEq, ne_eq, not_false_eq_true, decide_true, decide_false, Int.reduceEq, Int.reduceLE, Int.reduceToNat, Nat.mul_one, *, -hK] | simp only [sB, Nat.reduceBEq, ne_eq, not_false_eq_true, decide_true, decide_false, Int.reduceEq, Int.reduceLE, Int.reduceToNat, Nat.mul_one, *] | skip); first | done | with_reducible rfl)) (h1 : t = tb → WpL P cfg f (⟨dd, op, none⟩ :: l) E H Q) (h2 : t = !tb → WpL P cfg f l (setO E dd undefA) H Q) : WpL P cfg f (⟨dd, op, some (s, tb)⟩ :: l) E H Q := WpL.guard h h1 h2
theorem Ry.cond {N : Nat} {ca cb : SC} {Q : AX → Env → Hp → Prop} {t : Bool} (hx : aeval E x = some (.bool t) := by ((first | simp only [sB, Nat.reduceBEq, ne_eq, not_false_eq_true, decide_true, decide_false, Int.reduceEq, Int.reduceLE, Int.reduceToNat, Nat.mul_one, *, -hK] | simp only [sB, Nat.reduceBEq, ne_eq, not_false_eq_true, decide_true, decide_false, Int.reduceEq, Int.reduceLE, Int.reduceToNat, Nat.mul_one, *] | skip); first | done | with_reducible rfl)) (h1 : t = true → Wp P cfg f N ca E H Q) (h2 : t = false → Wp P cfg f N cb E H Q) : Wp P cfg f N (.cond x ca cb) E H Q := Wp.cond hx h1 h2
end
end Go.Proofs.Ytjkmbpieknaekaa
namespace Go.Ab
set_option maxRecDepth 20000
set_option linter.unusedVariables false
open Go
variable {P : Program} {cfg : Cfg} {f N : Nat}
/-- A loop that counts slot 'slot' up from 0 to n. 'cs': slots that it leaves asx they are; 'rs': blocks that it leaves asx they are. -/
theorem Wp.forI {a : SC} {E : Env} {H : Hp} {Q : AX → Env → Hp → Prop} (cs rs : List Nat) (slot n : Nat) (J : Nat → Env → Hp → Prop) (h0 : E.at slot = .int .i64 0) (hJ : J 0 E H)
    (h : ∀ (i : Nat) (E' : Env) (H' : Hp), i ≤ n → (∀ k ∈ cs, E'.at k = E.at k) → (∀ r ∈ rs, H'.get r = H.get r) → H.next ≤ H'.next → E'.at slot = .int .i64 i → J i E' H' →
      Wp P cfg f N a E' H' (thenQ Q fun E2 H2 => i < n ∧ (∀ k ∈ cs, E2.at k = E.at k) ∧ (∀ r ∈ rs, H2.get r = H.get r) ∧ H.next ≤ H2.next ∧ E2.at slot = .int .i64 ((i + 1 : Nat) : Int) ∧ J (i + 1) E2 H2)) : Wp P cfg f N (.loop a) E H Q :=
  Wp.loopN (fun i E' H' => (∀ k ∈ cs, E'.at k = E.at k) ∧ (∀ r ∈ rs, H'.get r = H.get r) ∧ H.next ≤ H'.next ∧ E'.at slot = .int .i64 i ∧ J i E' H') n (fun i E' H' hi ⟨h1, h2, h3, h4, h5⟩ => h i E' H' hi h1 h2 h3 h4 h5) ⟨fun _ _ => rfl, fun _ _ => rfl, Nat.le_refl _, h0, hJ⟩
theorem forall_cons {p : Nat → Prop} {a : Nat} {l : List Nat} : (∀ k ∈ a :: l, p k) ↔ p a ∧ ∀ k ∈ l, p k := List.forall_mem_cons
theorem forall_nil {p : Nat → Prop} : (∀ k ∈ ([] : List Nat), p k) ↔ True := ⟨fun _ => trivial, fun _ _ h => by simp at h⟩
theorem ne_beq {a b : Nat} (h : a ≠ b) : (a == b) = false := by simpa using h
theorem i64_succ {i n : Nat} (h : i < n) (hn : n < 2 ^ 62) : AV.int .i64 (IntKind.wrap .i64 ((i : Int) + 1)) = .int .i64 ((i + 1 : Nat) : Int) := by rw [wrap_succ (by omega)]
end Go.Ab
namespace Go.Ab
set_option maxRecDepth 20000
open Go
/-- One fact: the comparison 'op a b' comes to r. -/
structure Fact where
  op : BinOp
  a : Sx
  b : Sx
  r : Bool
theorem KOk.append {P : Program} {ρ : Nat → Int} : ∀ {a b : List (FuncId × List AV × AV)}, KOk P ρ a → KOk P ρ b → KOk P ρ (a ++ b)
  | [], _, _, hb => hb
  | _ :: _, _, ha, hb => ⟨ha.1, KOk.append ha.2 hb⟩
end Go.Ab
namespace Go.Ab
set_option maxRecDepth 20000
set_option linter.unusedVariables false
set_option linter.unusedSectionVars false
open Go
def PureA (v : AV) : Prop := ∃ k, ∀ m, k ≤ m → ∀ H, iceV H m v = some v
def PureL (l : List AV) : Prop := ∀ v ∈ l, PureA v
theorem PureL.nil : PureL [] := fun _ h => by simp at h
theorem PureL.cons {v : AV} {l : List AV} (h : PureA v) (hl : PureL l) : PureL (v :: l) := fun w hw => by
  rcases List.mem_cons.1 hw with rfl | hw
  · exact h
  · exact hl _ hw
theorem PureL.append {a b : List AV} (h : PureL a) (k : PureL b) : PureL (a ++ b) := fun v hv => (List.mem_append.1 hv).elim (h v) (k v)
theorem PureL.bound : ∀ {l : List AV}, PureL l → ∃ k, ∀ m, k ≤ m → ∀ H, iceL (iceV H m) l = some l
  | [], _ => ⟨0, fun _ _ _ => rfl⟩
  | v :: l, h => by
    obtain ⟨k1, h1⟩ := h v List.mem_cons_self
    obtain ⟨k2, h2⟩ := PureL.bound (l := l) fun w hw => h w (List.mem_cons_of_mem _ hw)
    exact ⟨max k1 k2, fun m hm H => by simp only [iceL, h1 m (by omega) H, h2 m (by omega) H]⟩
theorem rows_bound : ∀ {l : List (List AV)}, (∀ row ∈ l, PureL row) → ∃ k, ∀ m, k ≤ m → ∀ H, iceLL (iceV H m) l = some l
  | [], _ => ⟨0, fun _ _ _ => rfl⟩
  | v :: l, h => by
    obtain ⟨k1, h1⟩ := (h v List.mem_cons_self).bound
    obtain ⟨k2, h2⟩ := rows_bound (l := l) fun w hw => h w (List.mem_cons_of_mem _ hw)
    exact ⟨max k1 k2, fun m hm H => by simp only [iceLL, h1 m (by omega) H, h2 m (by omega) H]⟩
theorem PureA.one {v : AV} (h : ∀ m H, iceV H (m + 1) v = some v) : PureA v := ⟨1, fun m hm H => by
  obtain ⟨m, rfl⟩ : ∃ k, m = k + 1 := ⟨m - 1, by omega⟩
  exact h m H⟩
theorem PureA.int (k : IntKind) (n : Int) : PureA (.int k n) := .one fun _ _ => rfl
theorem PureA.bool (b : Bool) : PureA (.bool b) := .one fun _ _ => rfl
theorem PureA.str (s : List UInt8) : PureA (.str s) := .one fun _ _ => rfl
theorem PureA.nilS : PureA .nilS := .one fun _ _ => rfl
theorem PureA.lst {l : List (List AV)} (h : ∀ row ∈ l, PureL row) : PureA (.lst l) := by
  obtain ⟨k, hk⟩ := rows_bound h
  refine ⟨k + 1, fun m hm H => ?_⟩
  obtain ⟨m, rfl⟩ : ∃ k, m = k + 1 := ⟨m - 1, by omega⟩
  simp only [iceV, hk m (by omega) H]
theorem PureA.agg {l : List AV} (h : PureL l) : PureA (.agg l) := by
  obtain ⟨k, hk⟩ := h.bound
  refine ⟨k + 1, fun m hm H => ?_⟩
  obtain ⟨m, rfl⟩ : ∃ k, m = k + 1 := ⟨m - 1, by omega⟩
  simp only [iceV, hk m (by omega) H]
theorem PureA.tup {l : List AV} (h : PureL l) : PureA (.tup l) := by
  obtain ⟨k, hk⟩ := h.bound
  refine ⟨k + 1, fun m hm H => ?_⟩
  obtain ⟨m, rfl⟩ : ∃ k, m = k + 1 := ⟨m - 1, by omega⟩
  simp only [iceV, hk m (by omega) H]
theorem PureA.map {α : Type} {l : List α} {f : α → List AV} (h : ∀ x ∈ l, PureL (f x)) : PureA (.lst (l.map f)) := .lst fun row hr => by
  obtain ⟨x, hx, rfl⟩ := List.mem_map.1 hr
  exact h x hx
theorem pureArgs_of {args : List AV} (h : PureL args) : ∃ k, pureArgs k args = true := by
  obtain ⟨k, hk⟩ := h.bound
  exact ⟨k, by unfold pureArgs; rw [hk k (Nat.le_refl _) H0]; exact AV.beqs_refl args⟩
/-- A function of values, by what its body comes to in an empty heap. -/
theorem Con.of_pure {P : Program} {cfg : Cfg} (fit : Fit P) {ρ : Nat → Int} (hD : DecOk cfg.dec ρ) (hc : ∀ f args r, cfg.call f args = some r → Con P ρ f args r) {g : FuncId} {args : List AV} {r : AV}
    (hp : PureL args) (hr : PureA r) (h : WpCall P cfg g args H0 fun v _ => v = r) : Con P ρ g args r := by
  obtain ⟨k, hk⟩ := pureArgs_of hp
  obtain ⟨m, hm⟩ := hr
  exact Con.of_wp (m := m) fit hD hc hk (WpCall.mono (fun v H' e => by rw [e]; exact hm m (Nat.le_refl _) H') h)
/-- The same, the result in memory. -/
theorem Con.of_made {P : Program} {cfg : Cfg} (fit : Fit P) {ρ : Nat → Int} (hD : DecOk cfg.dec ρ) (hc : ∀ f args r, cfg.call f args = some r → Con P ρ f args r) {g : FuncId} {args : List AV} {r : AV} {m : Nat}
    (hp : PureL args) (h : WpCall P cfg g args H0 fun v H' => iceV H' m v = some r) : Con P ρ g args r := by
  obtain ⟨k, hk⟩ := pureArgs_of hp
  exact Con.of_wp (m := m) fit hD hc hk h
/-- What is known of the calls of f: 'ice': arguments in memory are made unchangeable. -/
structure En where
  f : FuncId
  ice : Bool
  sp : List AV → Option AV
def lookN : List En → FuncId → List AV → Option AV
  | [], _, _ => none
  | e :: l, f, args => match Nat.beq e.f f with
    | true => e.sp args
    | false => lookN l f args
def iceN : List En → FuncId → Bool
  | [], _ => false
  | e :: l, f => match Nat.beq e.f f with
    | true => e.ice
    | false => iceN l f
noncomputable def cfgN (pls : List (Nat × Nat × Plan)) (l : List En) : Cfg := { keep := fun _ => false, call := lookN l, ice := iceN l, plan := planK pls }
def EnOk (P : Program) (ρ : Nat → Int) (e : En) : Prop := ∀ args r, e.sp args = some r → Con P ρ e.f args r
def EnsOk (P : Program) (ρ : Nat → Int) : List En → Prop
  | [] => True
  | e :: l => EnOk P ρ e ∧ EnsOk P ρ l
theorem EnsOk.look {P : Program} {ρ : Nat → Int} : ∀ {l : List En}, EnsOk P ρ l → ∀ f args r, lookN l f args = some r → Con P ρ f args r
  | [], _, _, _, _, h => by simp [lookN] at h
  | e :: l, hl, f, args, r, h => by
    simp only [lookN] at h
    split at h
    · rename_i hf
      rw [← Nat.eq_of_beq_eq_true hf]
      exact hl.1 args r h
    · exact EnsOk.look hl.2 f args r h
theorem EnsOk.append {P : Program} {ρ : Nat → Int} : ∀ {a b : List En}, EnsOk P ρ a → EnsOk P ρ b → EnsOk P ρ (a ++ b)
  | [], _, _, h => h
  | _ :: _, _, h, k => ⟨h.1, EnsOk.append h.2 k⟩
noncomputable def spP {α : Type} (ok : α → Prop) (enc : α → List AV) (out : α → AV) (args : List AV) : Option AV := open Classical in
  if h : ∃ x, ok x ∧ enc x = args then some (out (Classical.choose h)) else none
theorem spP_enc {α : Type} {ok : α → Prop} {enc : α → List AV} {out : α → AV} (inj : ∀ x y, enc x = enc y → x = y) {x : α} (hx : ok x) : spP ok enc out (enc x) = some (out x) := by
  unfold spP
  have h : ∃ y, ok y ∧ enc y = enc x := ⟨x, hx, rfl⟩
  rw [dif_pos h]
  rw [inj _ _ (Classical.choose_spec h).2]
theorem spP_none {α : Type} {ok : α → Prop} {enc : α → List AV} {out : α → AV} {args : List AV} (h : ∀ x, ok x → enc x ≠ args) : spP ok enc out args = none := by
  unfold spP
  rw [dif_neg]
  rintro ⟨x, hx, e⟩
  exact h x hx e
theorem spP_ok {P : Program} {ρ : Nat → Int} {α : Type} {ok : α → Prop} {f : FuncId} {ice : Bool} {enc : α → List AV} {out : α → AV} (h : ∀ x, ok x → Con P ρ f (enc x) (out x)) : EnOk P ρ ⟨f, ice, spP ok enc out⟩ := fun args r hr => by
  change spP ok enc out args = some r at hr
  unfold spP at hr
  split at hr
  · rename_i hx
    simp only [Option.some.injEq] at hr
    subst hr
    have := h (Classical.choose hx) (Classical.choose_spec hx).1
    rw [(Classical.choose_spec hx).2] at this
    exact this
  · simp at hr
attribute [irreducible] spP
theorem WpCall.kn {P : Program} {cfg : Cfg} {g : FuncId} {args : List AV} {r : AV} {H : Hp} (h : cfg.call g args = some r) : WpCall P cfg g args H fun v H' => v = r ∧ H' = H := WpCall.known h ⟨rfl, rfl⟩
/-- A known call by a table's entry. -/
theorem WpCall.en {P : Program} {pls : List (Nat × Nat × Plan)} {l : List En} {α : Type} {ok : α → Prop} {enc : α → List AV} {out : α → AV} (inj : ∀ x y, enc x = enc y → x = y) {g : FuncId} {x : α} (hl : lookN l g (enc x) = spP ok enc out (enc x)) (hx : ok x) {H : Hp} :
    WpCall P (cfgN pls l) g (enc x) H fun v H' => v = out x ∧ H' = H := WpCall.kn (by show lookN l g (enc x) = _; rw [hl]; exact spP_enc inj hx)
/-- The same, the arguments in memory. -/
theorem WpCall.enI {P : Program} {pls : List (Nat × Nat × Plan)} {l : List En} {α : Type} {ok : α → Prop} {enc : α → List AV} {out : α → AV} (inj : ∀ x y, enc x = enc y → x = y) {g : FuncId} {x : α} (hl : ∀ asx, lookN l g asx = spP ok enc out asx) (hi : iceN l g = true) (hx : ok x) {args : List AV} {H H' : Hp}
    (hn : ∀ y, ok y → enc y ≠ args) (ha : iceHL (iceH 100) args H = some (enc x, H')) :
    WpCall P (cfgN pls l) g args H fun v H2 => v = out x ∧ H2 = H' := WpCall.iced (by show lookN l g args = none; rw [hl]; exact spP_none hn) hi rfl ha (by show lookN l g (enc x) = _; rw [hl]; exact spP_enc inj hx) ⟨rfl, rfl⟩
theorem Con.lev {P : Program} {ρ : Nat → Int} (fit : Fit P) {pls : List (Nat × Nat × Plan)} {l : List En} (hl : EnsOk P ρ l) {f : FuncId} {args : List AV} {r : AV} (hp : PureL args) (hr : PureA r) (h : WpCall P (cfgN pls l) f args H0 fun v _ => v = r) : Con P ρ f args r :=
  Con.of_pure fit (noDec ρ) (fun g asx r hg => EnsOk.look hl g asx r hg) hp hr h
end Go.Ab
namespace Go.Ab
set_option maxRecDepth 20000
set_option linter.unusedSimpArgs false
set_option linter.unusedVariables false
set_option linter.unusedSectionVars false
open Go
abbrev w64 (n : Int) : Int := IntKind.wrap .i64 n
section
variable (q : Ex → Int → Bool)
mutual
def walkE : Ex → Int → Bool
  | .mk k n s o ks, d => q (.mk k n s o ks) d && walkEs ks (w64 (d + 1))
def walkEs : List Ex → Int → Bool
  | [], _ => true
  | e :: es, d => walkE e d && walkEs es d
end
theorem walkE_eq (e : Ex) (d : Int) : walkE q e d = (q e d && walkEs q e.kids (w64 (d + 1))) := by
  cases e; simp only [walkE, Ex.kids]
theorem walkEs_drop {l : List Ex} {i : Nat} (h : i < l.length) (d : Int) : walkEs q (l.drop i) d = (walkE q l[i] d && walkEs q (l.drop (i + 1)) d) := by
  rw [List.drop_eq_getElem_cons h, walkEs]
end
section
variable {σ : Type} (q : St → Int → σ → Bool × σ)
mutual
def walk1 : St → Int → σ → Bool × σ
  | .mk k nm to n a v args th el, d, s => match q (.mk k nm to n a v args th el) d s with
    | (false, s) => (false, s)
    | (true, s) => match walkS th (w64 (d + 1)) s with
      | (false, s) => (false, s)
      | (true, s) => walkS el (w64 (d + 1)) s
def walkS : List St → Int → σ → Bool × σ
  | [], _, s => (true, s)
  | x :: l, d, s => match walk1 x d s with
    | (false, s) => (false, s)
    | (true, s) => walkS l d s
end
theorem walk1_eq (x : St) (d : Int) (s : σ) : walk1 q x d s = match q x d s with
    | (false, s) => (false, s)
    | (true, s) => match walkS q x.thn (w64 (d + 1)) s with
      | (false, s) => (false, s)
      | (true, s) => walkS q x.els (w64 (d + 1)) s := by
  cases x; simp only [walk1, St.thn, St.els]
theorem walkS_drop {l : List St} {i : Nat} (h : i < l.length) (d : Int) (s : σ) : walkS q (l.drop i) d s = match walk1 q l[i] d s with
    | (false, s) => (false, s)
    | (true, s) => walkS q (l.drop (i + 1)) d s := by
  rw [List.drop_eq_getElem_cons h, walkS]
end
mutual
def Ex.sz : Ex → Nat
  | .mk _ _ s _ ks => 1 + s.length + exprsSz ks
def exprsSz : List Ex → Nat
  | [] => 0
  | e :: es => 1 + e.sz + exprsSz es
end
mutual
def St.sz : St → Nat
  | .mk _ nm to _ a v args th el => 1 + nm.length + to.length + a.sz + v.sz + exprsSz args + stmtsSz th + stmtsSz el
def stmtsSz : List St → Nat
  | [] => 0
  | x :: l => 1 + x.sz + stmtsSz l
end
def strsSz : List (List UInt8) → Nat
  | [] => 0
  | s :: l => 1 + s.length + strsSz l
def Fu.sz (f : Fu) : Nat := 1 + f.name.length + strsSz f.params + strsSz f.locals + stmtsSz f.body + f.value.sz
def fnsSz : List Fu → Nat
  | [] => 0
  | f :: l => 1 + f.sz + fnsSz l
def arrsSz : List Ar → Nat
  | [] => 0
  | a :: l => 1 + a.name.length + arrsSz l
def Pr.sz (p : Pr) : Nat := 1 + arrsSz p.arrays + fnsSz p.funcs
theorem exprsSz_len : ∀ l : List Ex, l.length ≤ exprsSz l
  | [] => Nat.le_refl _
  | e :: es => by have := exprsSz_len es; simp only [List.length_cons, exprsSz]; omega
theorem stmtsSz_len : ∀ l : List St, l.length ≤ stmtsSz l
  | [] => Nat.le_refl _
  | e :: es => by have := stmtsSz_len es; simp only [List.length_cons, stmtsSz]; omega
theorem strsSz_len : ∀ l : List (List UInt8), l.length ≤ strsSz l
  | [] => Nat.le_refl _
  | e :: es => by have := strsSz_len es; simp only [List.length_cons, strsSz]; omega
theorem fnsSz_len : ∀ l : List Fu, l.length ≤ fnsSz l
  | [] => Nat.le_refl _
  | e :: es => by have := fnsSz_len es; simp only [List.length_cons, fnsSz]; omega
theorem arrsSz_len : ∀ l : List Ar, l.length ≤ arrsSz l
  | [] => Nat.le_refl _
  | e :: es => by have := arrsSz_len es; simp only [List.length_cons, arrsSz]; omega
theorem exprsSz_mem : ∀ {l : List Ex} {x : Ex}, x ∈ l → x.sz < exprsSz l
  | [], _, h => by simp at h
  | e :: es, x, h => by
    rcases List.mem_cons.1 h with rfl | h
    · simp only [exprsSz]; omega
    · have := exprsSz_mem h; simp only [exprsSz]; omega
theorem stmtsSz_mem : ∀ {l : List St} {x : St}, x ∈ l → x.sz < stmtsSz l
  | [], _, h => by simp at h
  | e :: es, x, h => by
    rcases List.mem_cons.1 h with rfl | h
    · simp only [stmtsSz]; omega
    · have := stmtsSz_mem h; simp only [stmtsSz]; omega
theorem strsSz_mem : ∀ {l : List (List UInt8)} {x : List UInt8}, x ∈ l → x.length < strsSz l
  | [], _, h => by simp at h
  | e :: es, x, h => by
    rcases List.mem_cons.1 h with rfl | h
    · simp only [strsSz]; omega
    · have := strsSz_mem h; simp only [strsSz]; omega
theorem fnsSz_mem : ∀ {l : List Fu} {x : Fu}, x ∈ l → x.sz < fnsSz l
  | [], _, h => by simp at h
  | e :: es, x, h => by
    rcases List.mem_cons.1 h with rfl | h
    · simp only [fnsSz]; omega
    · have := fnsSz_mem h; simp only [fnsSz]; omega
theorem Ex.sz_eq (e : Ex) : e.sz = 1 + e.name.length + exprsSz e.kids := by cases e; simp only [Ex.sz, Ex.name, Ex.kids]
theorem St.sz_eq (x : St) : x.sz = 1 + x.name.length + x.to.length + x.at_.sz + x.value.sz + exprsSz x.args + stmtsSz x.thn + stmtsSz x.els := by cases x; simp only [St.sz, St.name, St.to, St.at_, St.value, St.args, St.thn, St.els]
/-- What a call leaves alone: all blocks from 'base' on. -/
structure FrB (base : Nat) (H H' : Hp) : Prop where
  next : H.next ≤ H'.next
  get : ∀ r, base ≤ r → r < H.next → H'.get r = H.get r
theorem FrB.refl (base : Nat) (H : Hp) : FrB base H H := ⟨Nat.le_refl _, fun _ _ _ => rfl⟩
theorem FrB.trans {base : Nat} {a b c : Hp} (h : FrB base a b) (k : FrB base b c) : FrB base a c := ⟨Nat.le_trans h.next k.next, fun r h1 h2 => (k.get r h1 (Nat.lt_of_lt_of_le h2 h.next)).trans (h.get r h1 h2)⟩
theorem FrB.alloc {base : Nat} {a b : Hp} (h : FrB base a b) (x : HB) : FrB base a (b.alloc x) := ⟨Nat.le_trans h.next (Nat.le_succ _), fun r h1 h2 => by
  have := h.next
  rw [Hp.get_alloc, if_neg (by omega)]; exact h.get r h1 h2⟩
theorem FrB.set {base r : Nat} {a b : Hp} (h : FrB base a b) (hr : a.next ≤ r ∨ r < base) (x : HB) : FrB base a (b.set r x) := ⟨h.next, fun k h1 h2 => by
  rw [Hp.get_set, if_neg (by omega)]; exact h.get k h1 h2⟩
/-- The blocks below 'base' are asx they were. -/
def Low (base : Nat) (H H' : Hp) : Prop := ∀ r, r < base → H'.get r = H.get r
theorem Low.refl (base : Nat) (H : Hp) : Low base H H := fun _ _ => rfl
theorem Low.trans {base : Nat} {a b c : Hp} (h : Low base a b) (k : Low base b c) : Low base a c := fun r hr => (k r hr).trans (h r hr)
theorem Low.alloc {base : Nat} {a b : Hp} (h : Low base a b) (hb : base ≤ b.next) (x : HB) : Low base a (b.alloc x) := fun r hr => by rw [Hp.get_alloc, if_neg (by omega)]; exact h r hr
theorem Low.set {base r : Nat} {a b : Hp} (h : Low base a b) (hr : base ≤ r) (x : HB) : Low base a (b.set r x) := fun k hk => by rw [Hp.get_set, if_neg (by omega)]; exact h k hk
end Go.Ab
namespace Go.Ab
set_option maxRecDepth 20000
open Go
theorem FrB.weak {base base' : Nat} (h : base ≤ base') {a b : Hp} (k : FrB base a b) : FrB base' a b := ⟨k.next, fun r h1 h2 => k.get r (Nat.le_trans h h1) h2⟩
theorem Low.weak {base base' : Nat} (h : base ≤ base') {a b : Hp} (k : Low base' a b) : Low base a b := fun r hr => k r (Nat.lt_of_lt_of_le hr h)
def limS (x : St) (d : Int) (s : Int × Int) : Bool × (Int × Int) :=
  let n := w64 (s.1 + 1)
  let l := if x.kind = 4 then w64 (s.2 + 1) else s.2
  (decide (d ≤ 20) && decide (n ≤ 200) && decide (l ≤ 16), (n, l))
def limE (_ : Ex) (d : Int) : Bool := decide (d ≤ 20)
/-- A visit of the expressions of a statement. -/
def inSt (q : Ex → Int → Bool) (x : St) (_ : Int) (s : Unit) : Bool × Unit := (walkE q x.at_ 0 && walkE q x.value 0 && walkEs q x.args 0, s)
def walkFn (q : Ex → Int → Bool) (f : Fu) : Bool := walkE q f.value 0 && (walkS (inSt q) f.body 0 ()).1
def limFn (f : Fu) : Bool := decide ((f.params.length : Int) ≤ 6) && decide ((f.locals.length : Int) ≤ 8) && (walkS limS f.body 0 (0, 0)).1 && walkFn limE f
def limP (p : Pr) : Bool := !decide (4 < (p.arrays.length : Int)) && !decide (8 < (p.funcs.length : Int)) && p.arrays.all (fun a => !decide (a.len < 1) && !decide (16 < a.len)) && p.funcs.all limFn
end Go.Ab
namespace Go.Ab
set_option maxRecDepth 20000
set_option linter.unusedVariables false
open Go
theorem Ex.pure (x : Ex) : PureL x.cells := by
  have key : ∀ n (x : Ex), x.sz < n → PureL x.cells := by
    intro n
    induction n with
    | zero => intro x h; omega
    | succ n ih =>
      intro x h
      rw [Ex.cells_eq]
      refine .cons (.int _ _) (.cons (.int _ _) (.cons (.str _) (.cons (.int _ _) (.cons (.map fun y hy => ih y ?_) .nil))))
      have := exprsSz_mem hy
      have := x.sz_eq
      omega
  exact key _ x (Nat.lt_succ_self _)
theorem exs_pure (l : List Ex) : PureA (.lst (l.map Ex.cells)) := .map fun x _ => x.pure
theorem St.pure (x : St) : PureL x.cells := by
  have key : ∀ n (x : St), x.sz < n → PureL x.cells := by
    intro n
    induction n with
    | zero => intro x h; omega
    | succ n ih =>
      intro x h
      rw [St.cells_eq]
      have := x.sz_eq
      refine .cons (.int _ _) (.cons (.str _) (.cons (.str _) (.cons (.int _ _) (.cons (.int _ _) (.cons (.int _ _) (.cons (.str _) (.cons (.int _ _) (.cons (exs_pure _) (.cons (.int _ _) (.cons (.int _ _) (.cons (.str _) (.cons (.int _ _) (.cons (exs_pure _) (.cons (exs_pure _) (.cons (.map fun y hy => ih y ?_) (.cons (.map fun y hy => ih y ?_) .nil))))))))))))))))
      · have := stmtsSz_mem hy; omega
      · have := stmtsSz_mem hy; omega
  exact key _ x (Nat.lt_succ_self _)
theorem sts_pure (l : List St) : PureA (.lst (l.map St.cells)) := .map fun x _ => x.pure
theorem strs_pure (l : List (List UInt8)) : PureA (lstS l) := .map fun x _ => .cons (.str _) .nil
theorem Fu.pure (x : Fu) : PureL x.cells := by
  rw [Fu.cells_eq]
  exact .cons (.str _) (.cons (strs_pure _) (.cons (strs_pure _) (.cons (sts_pure _) (.cons (.int _ _) (.cons (.int _ _) (.cons (.str _) (.cons (.int _ _) (.cons (exs_pure _) .nil))))))))
theorem Ar.pure (x : Ar) : PureL x.cells := .cons (.str _) (.cons (.int _ _) .nil)
theorem Pr.pure (x : Pr) : PureL x.cells := .cons (.map fun x _ => x.pure) (.cons (.map fun x _ => x.pure) .nil)
theorem map_inj {α β : Type} {f : α → β} : ∀ {a b : List α}, (∀ x ∈ a, ∀ y, f x = f y → x = y) → a.map f = b.map f → a = b
  | [], [], _, _ => rfl
  | [], _ :: _, _, h => by simp at h
  | _ :: _, [], _, h => by simp at h
  | x :: a, y :: b, hf, h => by
    simp only [List.map_cons, List.cons.injEq] at h
    rw [hf x List.mem_cons_self y h.1, map_inj (fun z hz => hf z (List.mem_cons_of_mem _ hz)) h.2]
theorem Ex.ext' {x y : Ex} (h0 : x.kind = y.kind) (h1 : x.n = y.n) (h2 : x.name = y.name) (h3 : x.op = y.op) (h4 : x.kids = y.kids) : x = y := by
  cases x; cases y; simp only [Ex.kind, Ex.n, Ex.name, Ex.op, Ex.kids] at *; simp [*]
theorem Ex.inj {x y : Ex} (h : x.cells = y.cells) : x = y := by
  have key : ∀ n (x : Ex), x.sz < n → ∀ y, x.cells = y.cells → x = y := by
    intro n
    induction n with
    | zero => intro x h; omega
    | succ n ih =>
      intro x h y e
      rw [Ex.cells_eq, Ex.cells_eq] at e
      simp only [List.cons.injEq, AV.int.injEq, AV.str.injEq, AV.lst.injEq, true_and, and_true] at e
      obtain ⟨e0, e1, e2, e3, e4⟩ := e
      refine Ex.ext' e0 e1 e2 e3 (map_inj (fun z hz => ih z ?_) e4)
      have := exprsSz_mem hz
      have := x.sz_eq
      omega
  exact key _ x (Nat.lt_succ_self _) y h
theorem exs_inj {a b : List Ex} (h : a.map Ex.cells = b.map Ex.cells) : a = b := map_inj (fun _ _ _ => Ex.inj) h
theorem St.ext' {x y : St} (h0 : x.kind = y.kind) (h1 : x.name = y.name) (h2 : x.to = y.to) (h3 : x.n = y.n) (h4 : x.at_ = y.at_) (h5 : x.value = y.value) (h6 : x.args = y.args) (h7 : x.thn = y.thn) (h8 : x.els = y.els) : x = y := by
  cases x; cases y; simp only [St.kind, St.name, St.to, St.n, St.at_, St.value, St.args, St.thn, St.els] at *; simp [*]
theorem St.inj {x y : St} (h : x.cells = y.cells) : x = y := by
  have key : ∀ n (x : St), x.sz < n → ∀ y, x.cells = y.cells → x = y := by
    intro n
    induction n with
    | zero => intro x h; omega
    | succ n ih =>
      intro x h y e
      have hs := x.sz_eq
      rw [St.cells_eq, St.cells_eq] at e
      simp only [List.cons.injEq, AV.int.injEq, AV.str.injEq, AV.lst.injEq, true_and, and_true] at e
      obtain ⟨e0, e1, e2, e3, a0, a1, a2, a3, a4, b0, b1, b2, b3, b4, e6, e7, e8⟩ := e
      refine St.ext' e0 e1 e2 e3 (Ex.ext' a0 a1 a2 a3 (exs_inj a4)) (Ex.ext' b0 b1 b2 b3 (exs_inj b4)) (exs_inj e6) (map_inj (fun z hz => ih z ?_) e7) (map_inj (fun z hz => ih z ?_) e8)
      · have := stmtsSz_mem hz; omega
      · have := stmtsSz_mem hz; omega
  exact key _ x (Nat.lt_succ_self _) y h
theorem sts_inj {a b : List St} (h : a.map St.cells = b.map St.cells) : a = b := map_inj (fun _ _ _ => St.inj) h
theorem strs_inj {a b : List (List UInt8)} (h : (a.map fun s => [AV.str s]) = b.map fun s => [AV.str s]) : a = b := map_inj (fun x _ y e => by simpa using e) h
theorem Fu.inj {x y : Fu} (h : x.cells = y.cells) : x = y := by
  obtain ⟨n, p, l, b, v⟩ := x
  obtain ⟨n', p', l', b', v'⟩ := y
  rw [Fu.cells_eq, Fu.cells_eq] at h
  simp only [List.cons.injEq, AV.int.injEq, AV.str.injEq, AV.lst.injEq, true_and, and_true] at h
  obtain ⟨e0, e1, e2, e3, b0, b1, b2, b3, b4⟩ := h
  rw [e0, strs_inj e1, strs_inj e2, sts_inj e3, Ex.ext' b0 b1 b2 b3 (exs_inj b4)]
theorem Ar.inj {x y : Ar} (h : x.cells = y.cells) : x = y := by
  obtain ⟨n, p⟩ := x
  obtain ⟨n', p'⟩ := y
  simp only [Ar.cells, List.cons.injEq, AV.int.injEq, AV.str.injEq, true_and, and_true] at h
  rw [h.1, h.2]
theorem Pr.inj {x y : Pr} (h : x.cells = y.cells) : x = y := by
  obtain ⟨n, p⟩ := x
  obtain ⟨n', p'⟩ := y
  simp only [Pr.cells, List.cons.injEq, AV.lst.injEq, true_and, and_true] at h
  rw [map_inj (fun _ _ _ => Ar.inj) h.1, map_inj (fun _ _ _ => Fu.inj) h.2]
end Go.Ab
