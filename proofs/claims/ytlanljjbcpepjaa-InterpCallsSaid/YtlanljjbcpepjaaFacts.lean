/- Facts on the program's types, by program; the rules of the walk in two rows. -/
import Derived.Test.YtlanljjbcpepjaaRows
import Derived.Test.YtlanljjbcpepjaaAbWt
import Derived.Test.YtlanljjbcpepjaaTree
import Derived.Test.YtlanljjbcpepjaaPls
import Derived.KernelRfl
namespace Go.Proofs.Ytlanljjbcpepjaa
set_option linter.unusedSimpArgs false
set_option linter.unusedVariables false
set_option linter.unusedSectionVars false
set_option linter.defProp false
open Go Go.Ab

def sB := And.intro @aeval_ns (And.intro @List.toList_toArray.{0} (And.intro @H0_next (And.intro @bsel_true (And.intro @bsel_false (And.intro @Bool.not_true (And.intro @Bool.not_false (And.intro @List.length_map.{0, 0} (And.intro @Int.natCast_zero (And.intro @aeval_t (And.intro @aeval_i (And.intro @aeval_b (And.intro @aeval_f (And.intro @aeval_s (And.intro @at_set (And.intro @cond_true.{1} (And.intro @cond_false.{1} (@Nat.zero_add)))))))))))))))))
def sO := And.intro @Ex.clen (And.intro @Ex.c0 (And.intro @Ex.c1 (And.intro @Ex.c2 (And.intro @Ex.c3 (And.intro @Ex.c4 (And.intro @Ex.whole (And.intro @Ex.one (And.intro @St.clen (And.intro @St.c0 (And.intro @St.c1 (And.intro @St.c2 (And.intro @St.c3 (And.intro @St.c4 (And.intro @St.c5 (And.intro @St.c6 (And.intro @St.c7 (And.intro @St.c8 (And.intro @St.c9 (And.intro @St.c10 (And.intro @St.c11 (And.intro @St.c12 (And.intro @St.c13 (And.intro @St.c14 (And.intro @St.c15 (And.intro @St.c16 (And.intro @St.whole (And.intro @St.one (And.intro @St.part_at_ (And.intro @St.part_value (And.intro @Fu.clen (And.intro @Fu.c0 (And.intro @Fu.c1 (And.intro @Fu.c2 (And.intro @Fu.c3 (And.intro @Fu.c4 (And.intro @Fu.c5 (And.intro @Fu.c6 (And.intro @Fu.c7 (And.intro @Fu.c8 (And.intro @Fu.whole (And.intro @Fu.one (And.intro @Fu.part_value (And.intro @Ar.clen (And.intro @Ar.c0 (And.intro @Ar.c1 (And.intro @Ar.whole (And.intro @Ar.one (And.intro @Pr.clen (And.intro @Pr.c0 (And.intro @Pr.c1 (And.intro @Pr.whole (And.intro @Pr.one (And.intro @Tk.clen (And.intro @Tk.c0 (And.intro @Tk.c1 (And.intro @Tk.c2 (And.intro @Tk.whole (And.intro @Tk.one (And.intro @sliceH_str (And.intro @sliceH_lst (And.intro @sliceH_sl (And.intro @sliceH_nil (And.intro @List.getElem?_drop.{0} (And.intro @Nat.add_zero (And.intro @if_true.{1} (And.intro @astore_p (And.intro @storeC_cells (And.intro @splice_eq (And.intro @cells_agg (And.intro @cells_int (And.intro @cells_bool (And.intro @cells_str (And.intro @cells_lst (And.intro @cells_sl (And.intro @cells_nilS (And.intro @cells_ptr (And.intro @cells_map (And.intro @cells_clo (And.intro @one_int (And.intro @one_bool (And.intro @one_str (And.intro @one_lst (And.intro @one_sl (And.intro @one_nilS (And.intro @one_ptr (And.intro @one_map (And.intro @one_clo (And.intro @List.all_cons.{0} (And.intro @List.all_nil.{0} (And.intro @Bool.and_true (And.intro @Bool.true_and (And.intro @and_true (And.intro @true_and (And.intro @Nat.zero_le (And.intro @Nat.le_refl (And.intro @List.nil_append.{0} (And.intro @List.append_nil.{0} (And.intro @List.cons_append.{0} (And.intro @Hp.next_alloc (And.intro @Hp.next_set (And.intro @H0_next (And.intro @beq_self_eq_true.{0} (And.intro @nb1 (And.intro @nb2 (And.intro @nb3 (And.intro @Nat.add_assoc (And.intro @List.getElem?_map.{0, 0} (And.intro @Option.map_some.{0, 0} (And.intro @aload_p (And.intro @aload_c (And.intro @loadC_cells (And.intro @rowA_some (And.intro @byteA_some (And.intro @get_set (And.intro @get_alloc (And.intro @List.getElem?_cons_succ.{0} (And.intro @List.getElem?_cons_zero.{0} (And.intro @List.drop_succ_cons.{0} (And.intro @List.drop_zero.{0} (And.intro @List.take_succ_cons.{0} (And.intro @List.take_zero.{0} (And.intro @List.length_cons.{0} (And.intro @List.length_nil.{0} (And.intro @Int.natCast_nonneg (And.intro @Int.toNat_natCast (And.intro @bin_add (And.intro @bin_sub (And.intro @bin_mul (And.intro @bin_and (And.intro @bin_or (And.intro @bin_xor (And.intro @bin_eql (And.intro @bin_neq (And.intro @bin_lss (And.intro @bin_leq (And.intro @bin_gtr (And.intro @bin_geq (And.intro @bin_seq (And.intro @bin_sne (And.intro @un_not (@un_neg)))))))))))))))))))))))))))))))))))))))))))))))))))))))))))))))))))))))))))))))))))))))))))))))))))))))))))))))))))))))))))))))))))))))))))))
structure Plain (cfg : Cfg) (f : FuncId) : Prop where
  call : ∀ args, cfg.call f args = none
  ice : cfg.ice f = false
  froz : cfg.froz f = false
theorem sz2 : sizeA Try.prog 2 = some 1 := by kernel_rfl
theorem bt2 : bytesA Try.prog 2 = some 8 := by kernel_rfl
theorem pt2 (cs : List AV) (o : Nat) : partA Try.prog 2 cs o = cs[o]? := part_one Try.underlying2 rfl cs o
theorem zr2 : zeroA Try.prog 2 = some [(.int .i64 0)] := by kernel_rfl
theorem sz3 : sizeA Try.prog 3 = some 1 := by kernel_rfl
theorem bt3 : bytesA Try.prog 3 = some 8 := by kernel_rfl
theorem pt3 (cs : List AV) (o : Nat) : partA Try.prog 3 cs o = cs[o]? := part_one Try.underlying3 rfl cs o
theorem zr3 : zeroA Try.prog 3 = some [(.int .i64 0)] := by kernel_rfl
theorem sz4 : sizeA Try.prog 4 = some 1 := by kernel_rfl
theorem bt4 : bytesA Try.prog 4 = some 1 := by kernel_rfl
theorem pt4 (cs : List AV) (o : Nat) : partA Try.prog 4 cs o = cs[o]? := part_one Try.underlying4 rfl cs o
theorem zr4 : zeroA Try.prog 4 = some [(.bool false)] := by kernel_rfl
theorem sz5 : sizeA Try.prog 5 = some 1 := by kernel_rfl
theorem bt5 : bytesA Try.prog 5 = some 1 := by kernel_rfl
theorem pt5 (cs : List AV) (o : Nat) : partA Try.prog 5 cs o = cs[o]? := part_one Try.underlying5 rfl cs o
theorem zr5 : zeroA Try.prog 5 = some [(.int .u8 0)] := by kernel_rfl
theorem sz9 : sizeA Try.prog 9 = some 1 := by kernel_rfl
theorem bt9 : bytesA Try.prog 9 = some 16 := by kernel_rfl
theorem pt9 (cs : List AV) (o : Nat) : partA Try.prog 9 cs o = cs[o]? := part_one Try.underlying9 rfl cs o
theorem zr9 : zeroA Try.prog 9 = some [(.str [])] := by kernel_rfl
theorem ln9 (H : Hp) (s : List UInt8) : lenAt Try.prog H 9 (.str s) = some (.int .i64 s.length) := lenAt_str Try.underlying9 s
theorem ix9 (s : List UInt8) {n : Int} (hn : 0 ≤ n) (k : IntKind) : indexA Try.prog 9 (.str s) (.int k n) = byteA (s[n.toNat]?) := index_str Try.underlying9 s hn k
theorem sz22 : sizeA Try.prog 22 = some 1 := by kernel_rfl
theorem bt22 : bytesA Try.prog 22 = some 24 := by kernel_rfl
theorem pt22 (cs : List AV) (o : Nat) : partA Try.prog 22 cs o = cs[o]? := part_one Try.underlying22 rfl cs o
theorem zr22 : zeroA Try.prog 22 = some [.nilS] := by kernel_rfl
theorem ix22l (xs : List (List AV)) {n : Int} (hn : 0 ≤ n) (k : IntKind) : indexAddrA Try.prog 22 (.lst xs) (.int k n) = rowA 2 (xs[n.toNat]?) := index_lst' Try.underlying22 (show sizeA Try.prog 44 = some 2 from by kernel_rfl) xs hn k
theorem ix22s (r o l z : Nat) {n : Int} (hn : 0 ≤ n) (k : IntKind) : indexAddrA Try.prog 22 (.sl r o l z) (.int k n) = bif decide (n.toNat < l) then some (.ptr r (o + n.toNat * 2)) else none := index_sl' Try.underlying22 (show sizeA Try.prog 44 = some 2 from by kernel_rfl) r o l z hn k
theorem ln22l (H : Hp) (xs : List (List AV)) : lenAt Try.prog H 22 (.lst xs) = some (.int .i64 xs.length) := lenAt_lst Try.underlying22 xs
theorem ln22s (H : Hp) (r o n z : Nat) : lenAt Try.prog H 22 (.sl r o n z) = some (.int .i64 n) := lenAt_sl Try.underlying22 r o n z
theorem ln22n (H : Hp) : lenAt Try.prog H 22 .nilS = some (.int .i64 0) := lenAt_nil Try.underlying22
theorem sz23 : sizeA Try.prog 23 = some 1 := by kernel_rfl
theorem bt23 : bytesA Try.prog 23 = some 24 := by kernel_rfl
theorem pt23 (cs : List AV) (o : Nat) : partA Try.prog 23 cs o = cs[o]? := part_one Try.underlying23 rfl cs o
theorem zr23 : zeroA Try.prog 23 = some [.nilS] := by kernel_rfl
theorem ix23l (xs : List (List AV)) {n : Int} (hn : 0 ≤ n) (k : IntKind) : indexAddrA Try.prog 23 (.lst xs) (.int k n) = rowA 9 (xs[n.toNat]?) := index_lst' Try.underlying23 (show sizeA Try.prog 41 = some 9 from by kernel_rfl) xs hn k
theorem ix23s (r o l z : Nat) {n : Int} (hn : 0 ≤ n) (k : IntKind) : indexAddrA Try.prog 23 (.sl r o l z) (.int k n) = bif decide (n.toNat < l) then some (.ptr r (o + n.toNat * 9)) else none := index_sl' Try.underlying23 (show sizeA Try.prog 41 = some 9 from by kernel_rfl) r o l z hn k
theorem ln23l (H : Hp) (xs : List (List AV)) : lenAt Try.prog H 23 (.lst xs) = some (.int .i64 xs.length) := lenAt_lst Try.underlying23 xs
theorem ln23s (H : Hp) (r o n z : Nat) : lenAt Try.prog H 23 (.sl r o n z) = some (.int .i64 n) := lenAt_sl Try.underlying23 r o n z
theorem ln23n (H : Hp) : lenAt Try.prog H 23 .nilS = some (.int .i64 0) := lenAt_nil Try.underlying23
theorem sz25 : sizeA Try.prog 25 = some 2 := by kernel_rfl
theorem bt25 : bytesA Try.prog 25 = some 48 := by kernel_rfl
theorem pt25 (cs : List AV) (o : Nat) : partA Try.prog 25 cs o = aggA 2 (cs.drop o) := part_agg Try.underlying25 rfl sz25 cs o
theorem zr25 : zeroA Try.prog 25 = some [.nilS, .nilS] := by kernel_rfl
theorem fa25_0p (r o : Nat) : fieldAddrA Try.prog 25 (.ptr r o) 0 = some (.ptr r (o + 0)) := by kernel_rfl
theorem fa25_0c (cs : List AV) : fieldAddrA Try.prog 25 (.iptr cs) 0 = some (.iptr (cs.drop 0)) := by kernel_rfl
theorem fd25_0 (cs : List AV) : fieldA Try.prog 25 (.agg cs) 0 = partA Try.prog 22 cs 0 := by kernel_rfl
theorem fa25_1p (r o : Nat) : fieldAddrA Try.prog 25 (.ptr r o) 1 = some (.ptr r (o + 1)) := by kernel_rfl
theorem fa25_1c (cs : List AV) : fieldAddrA Try.prog 25 (.iptr cs) 1 = some (.iptr (cs.drop 1)) := by kernel_rfl
theorem fd25_1 (cs : List AV) : fieldA Try.prog 25 (.agg cs) 1 = partA Try.prog 23 cs 1 := by kernel_rfl
theorem sz26 : sizeA Try.prog 26 = some 1 := by kernel_rfl
theorem bt26 : bytesA Try.prog 26 = some 24 := by kernel_rfl
theorem pt26 (cs : List AV) (o : Nat) : partA Try.prog 26 cs o = cs[o]? := part_one Try.underlying26 rfl cs o
theorem zr26 : zeroA Try.prog 26 = some [.nilS] := by kernel_rfl
theorem ix26l (xs : List (List AV)) {n : Int} (hn : 0 ≤ n) (k : IntKind) : indexAddrA Try.prog 26 (.lst xs) (.int k n) = rowA 1 (xs[n.toNat]?) := index_lst' Try.underlying26 (show sizeA Try.prog 3 = some 1 from by kernel_rfl) xs hn k
theorem ix26s (r o l z : Nat) {n : Int} (hn : 0 ≤ n) (k : IntKind) : indexAddrA Try.prog 26 (.sl r o l z) (.int k n) = bif decide (n.toNat < l) then some (.ptr r (o + n.toNat * 1)) else none := index_sl' Try.underlying26 (show sizeA Try.prog 3 = some 1 from by kernel_rfl) r o l z hn k
theorem ln26l (H : Hp) (xs : List (List AV)) : lenAt Try.prog H 26 (.lst xs) = some (.int .i64 xs.length) := lenAt_lst Try.underlying26 xs
theorem ln26s (H : Hp) (r o n z : Nat) : lenAt Try.prog H 26 (.sl r o n z) = some (.int .i64 n) := lenAt_sl Try.underlying26 r o n z
theorem ln26n (H : Hp) : lenAt Try.prog H 26 .nilS = some (.int .i64 0) := lenAt_nil Try.underlying26
theorem sz29 : sizeA Try.prog 29 = some 1 := by kernel_rfl
theorem bt29 : bytesA Try.prog 29 = some 24 := by kernel_rfl
theorem pt29 (cs : List AV) (o : Nat) : partA Try.prog 29 cs o = cs[o]? := part_one Try.underlying29 rfl cs o
theorem zr29 : zeroA Try.prog 29 = some [.nilS] := by kernel_rfl
theorem ix29l (xs : List (List AV)) {n : Int} (hn : 0 ≤ n) (k : IntKind) : indexAddrA Try.prog 29 (.lst xs) (.int k n) = rowA 2 (xs[n.toNat]?) := index_lst' Try.underlying29 (show sizeA Try.prog 25 = some 2 from by kernel_rfl) xs hn k
theorem ix29s (r o l z : Nat) {n : Int} (hn : 0 ≤ n) (k : IntKind) : indexAddrA Try.prog 29 (.sl r o l z) (.int k n) = bif decide (n.toNat < l) then some (.ptr r (o + n.toNat * 2)) else none := index_sl' Try.underlying29 (show sizeA Try.prog 25 = some 2 from by kernel_rfl) r o l z hn k
theorem ln29l (H : Hp) (xs : List (List AV)) : lenAt Try.prog H 29 (.lst xs) = some (.int .i64 xs.length) := lenAt_lst Try.underlying29 xs
theorem ln29s (H : Hp) (r o n z : Nat) : lenAt Try.prog H 29 (.sl r o n z) = some (.int .i64 n) := lenAt_sl Try.underlying29 r o n z
theorem ln29n (H : Hp) : lenAt Try.prog H 29 .nilS = some (.int .i64 0) := lenAt_nil Try.underlying29
theorem sz30 : sizeA Try.prog 30 = some 1 := by kernel_rfl
theorem bt30 : bytesA Try.prog 30 = some 8 := by kernel_rfl
theorem pt30 (cs : List AV) (o : Nat) : partA Try.prog 30 cs o = cs[o]? := part_one Try.underlying30 rfl cs o
theorem zr30 : zeroA Try.prog 30 = some [(.int .i64 0)] := by kernel_rfl
theorem sz35 : sizeA Try.prog 35 = some 1 := by kernel_rfl
theorem bt35 : bytesA Try.prog 35 = some 24 := by kernel_rfl
theorem pt35 (cs : List AV) (o : Nat) : partA Try.prog 35 cs o = cs[o]? := part_one Try.underlying35 rfl cs o
theorem zr35 : zeroA Try.prog 35 = some [.nilS] := by kernel_rfl
theorem ix35l (xs : List (List AV)) {n : Int} (hn : 0 ≤ n) (k : IntKind) : indexAddrA Try.prog 35 (.lst xs) (.int k n) = rowA 1 (xs[n.toNat]?) := index_lst' Try.underlying35 (show sizeA Try.prog 9 = some 1 from by kernel_rfl) xs hn k
theorem ix35s (r o l z : Nat) {n : Int} (hn : 0 ≤ n) (k : IntKind) : indexAddrA Try.prog 35 (.sl r o l z) (.int k n) = bif decide (n.toNat < l) then some (.ptr r (o + n.toNat * 1)) else none := index_sl' Try.underlying35 (show sizeA Try.prog 9 = some 1 from by kernel_rfl) r o l z hn k
theorem ln35l (H : Hp) (xs : List (List AV)) : lenAt Try.prog H 35 (.lst xs) = some (.int .i64 xs.length) := lenAt_lst Try.underlying35 xs
theorem ln35s (H : Hp) (r o n z : Nat) : lenAt Try.prog H 35 (.sl r o n z) = some (.int .i64 n) := lenAt_sl Try.underlying35 r o n z
theorem ln35n (H : Hp) : lenAt Try.prog H 35 .nilS = some (.int .i64 0) := lenAt_nil Try.underlying35
theorem sz36 : sizeA Try.prog 36 = some 1 := by kernel_rfl
theorem bt36 : bytesA Try.prog 36 = some 24 := by kernel_rfl
theorem pt36 (cs : List AV) (o : Nat) : partA Try.prog 36 cs o = cs[o]? := part_one Try.underlying36 rfl cs o
theorem zr36 : zeroA Try.prog 36 = some [.nilS] := by kernel_rfl
theorem ix36l (xs : List (List AV)) {n : Int} (hn : 0 ≤ n) (k : IntKind) : indexAddrA Try.prog 36 (.lst xs) (.int k n) = rowA 17 (xs[n.toNat]?) := index_lst' Try.underlying36 (show sizeA Try.prog 46 = some 17 from by kernel_rfl) xs hn k
theorem ix36s (r o l z : Nat) {n : Int} (hn : 0 ≤ n) (k : IntKind) : indexAddrA Try.prog 36 (.sl r o l z) (.int k n) = bif decide (n.toNat < l) then some (.ptr r (o + n.toNat * 17)) else none := index_sl' Try.underlying36 (show sizeA Try.prog 46 = some 17 from by kernel_rfl) r o l z hn k
theorem ln36l (H : Hp) (xs : List (List AV)) : lenAt Try.prog H 36 (.lst xs) = some (.int .i64 xs.length) := lenAt_lst Try.underlying36 xs
theorem ln36s (H : Hp) (r o n z : Nat) : lenAt Try.prog H 36 (.sl r o n z) = some (.int .i64 n) := lenAt_sl Try.underlying36 r o n z
theorem ln36n (H : Hp) : lenAt Try.prog H 36 .nilS = some (.int .i64 0) := lenAt_nil Try.underlying36
theorem sz37 : sizeA Try.prog 37 = some 1 := by kernel_rfl
theorem bt37 : bytesA Try.prog 37 = some 24 := by kernel_rfl
theorem pt37 (cs : List AV) (o : Nat) : partA Try.prog 37 cs o = cs[o]? := part_one Try.underlying37 rfl cs o
theorem zr37 : zeroA Try.prog 37 = some [.nilS] := by kernel_rfl
theorem ix37l (xs : List (List AV)) {n : Int} (hn : 0 ≤ n) (k : IntKind) : indexAddrA Try.prog 37 (.lst xs) (.int k n) = rowA 5 (xs[n.toNat]?) := index_lst' Try.underlying37 (show sizeA Try.prog 39 = some 5 from by kernel_rfl) xs hn k
theorem ix37s (r o l z : Nat) {n : Int} (hn : 0 ≤ n) (k : IntKind) : indexAddrA Try.prog 37 (.sl r o l z) (.int k n) = bif decide (n.toNat < l) then some (.ptr r (o + n.toNat * 5)) else none := index_sl' Try.underlying37 (show sizeA Try.prog 39 = some 5 from by kernel_rfl) r o l z hn k
theorem ln37l (H : Hp) (xs : List (List AV)) : lenAt Try.prog H 37 (.lst xs) = some (.int .i64 xs.length) := lenAt_lst Try.underlying37 xs
theorem ln37s (H : Hp) (r o n z : Nat) : lenAt Try.prog H 37 (.sl r o n z) = some (.int .i64 n) := lenAt_sl Try.underlying37 r o n z
theorem ln37n (H : Hp) : lenAt Try.prog H 37 .nilS = some (.int .i64 0) := lenAt_nil Try.underlying37
theorem sz39 : sizeA Try.prog 39 = some 5 := by kernel_rfl
theorem bt39 : bytesA Try.prog 39 = some 64 := by kernel_rfl
theorem pt39 (cs : List AV) (o : Nat) : partA Try.prog 39 cs o = aggA 5 (cs.drop o) := part_agg Try.underlying39 rfl sz39 cs o
theorem zr39 : zeroA Try.prog 39 = some [(.int .i64 0), (.int .i64 0), (.str []), (.int .i64 0), .nilS] := by kernel_rfl
theorem fa39_0p (r o : Nat) : fieldAddrA Try.prog 39 (.ptr r o) 0 = some (.ptr r (o + 0)) := by kernel_rfl
theorem fa39_0c (cs : List AV) : fieldAddrA Try.prog 39 (.iptr cs) 0 = some (.iptr (cs.drop 0)) := by kernel_rfl
theorem fd39_0 (cs : List AV) : fieldA Try.prog 39 (.agg cs) 0 = partA Try.prog 3 cs 0 := by kernel_rfl
theorem fa39_1p (r o : Nat) : fieldAddrA Try.prog 39 (.ptr r o) 1 = some (.ptr r (o + 1)) := by kernel_rfl
theorem fa39_1c (cs : List AV) : fieldAddrA Try.prog 39 (.iptr cs) 1 = some (.iptr (cs.drop 1)) := by kernel_rfl
theorem fd39_1 (cs : List AV) : fieldA Try.prog 39 (.agg cs) 1 = partA Try.prog 2 cs 1 := by kernel_rfl
theorem fa39_2p (r o : Nat) : fieldAddrA Try.prog 39 (.ptr r o) 2 = some (.ptr r (o + 2)) := by kernel_rfl
theorem fa39_2c (cs : List AV) : fieldAddrA Try.prog 39 (.iptr cs) 2 = some (.iptr (cs.drop 2)) := by kernel_rfl
theorem fd39_2 (cs : List AV) : fieldA Try.prog 39 (.agg cs) 2 = partA Try.prog 9 cs 2 := by kernel_rfl
theorem fa39_3p (r o : Nat) : fieldAddrA Try.prog 39 (.ptr r o) 3 = some (.ptr r (o + 3)) := by kernel_rfl
theorem fa39_3c (cs : List AV) : fieldAddrA Try.prog 39 (.iptr cs) 3 = some (.iptr (cs.drop 3)) := by kernel_rfl
theorem fd39_3 (cs : List AV) : fieldA Try.prog 39 (.agg cs) 3 = partA Try.prog 3 cs 3 := by kernel_rfl
theorem fa39_4p (r o : Nat) : fieldAddrA Try.prog 39 (.ptr r o) 4 = some (.ptr r (o + 4)) := by kernel_rfl
theorem fa39_4c (cs : List AV) : fieldAddrA Try.prog 39 (.iptr cs) 4 = some (.iptr (cs.drop 4)) := by kernel_rfl
theorem fd39_4 (cs : List AV) : fieldA Try.prog 39 (.agg cs) 4 = partA Try.prog 37 cs 4 := by kernel_rfl
theorem sz41 : sizeA Try.prog 41 = some 9 := by kernel_rfl
theorem bt41 : bytesA Try.prog 41 = some 152 := by kernel_rfl
theorem pt41 (cs : List AV) (o : Nat) : partA Try.prog 41 cs o = aggA 9 (cs.drop o) := part_agg Try.underlying41 rfl sz41 cs o
theorem zr41 : zeroA Try.prog 41 = some [(.str []), .nilS, .nilS, .nilS, (.int .i64 0), (.int .i64 0), (.str []), (.int .i64 0), .nilS] := by kernel_rfl
theorem fa41_0p (r o : Nat) : fieldAddrA Try.prog 41 (.ptr r o) 0 = some (.ptr r (o + 0)) := by kernel_rfl
theorem fa41_0c (cs : List AV) : fieldAddrA Try.prog 41 (.iptr cs) 0 = some (.iptr (cs.drop 0)) := by kernel_rfl
theorem fd41_0 (cs : List AV) : fieldA Try.prog 41 (.agg cs) 0 = partA Try.prog 9 cs 0 := by kernel_rfl
theorem fa41_1p (r o : Nat) : fieldAddrA Try.prog 41 (.ptr r o) 1 = some (.ptr r (o + 1)) := by kernel_rfl
theorem fa41_1c (cs : List AV) : fieldAddrA Try.prog 41 (.iptr cs) 1 = some (.iptr (cs.drop 1)) := by kernel_rfl
theorem fd41_1 (cs : List AV) : fieldA Try.prog 41 (.agg cs) 1 = partA Try.prog 35 cs 1 := by kernel_rfl
theorem fa41_2p (r o : Nat) : fieldAddrA Try.prog 41 (.ptr r o) 2 = some (.ptr r (o + 2)) := by kernel_rfl
theorem fa41_2c (cs : List AV) : fieldAddrA Try.prog 41 (.iptr cs) 2 = some (.iptr (cs.drop 2)) := by kernel_rfl
theorem fd41_2 (cs : List AV) : fieldA Try.prog 41 (.agg cs) 2 = partA Try.prog 35 cs 2 := by kernel_rfl
theorem fa41_3p (r o : Nat) : fieldAddrA Try.prog 41 (.ptr r o) 3 = some (.ptr r (o + 3)) := by kernel_rfl
theorem fa41_3c (cs : List AV) : fieldAddrA Try.prog 41 (.iptr cs) 3 = some (.iptr (cs.drop 3)) := by kernel_rfl
theorem fd41_3 (cs : List AV) : fieldA Try.prog 41 (.agg cs) 3 = partA Try.prog 36 cs 3 := by kernel_rfl
theorem fa41_4p (r o : Nat) : fieldAddrA Try.prog 41 (.ptr r o) 4 = some (.ptr r (o + 4)) := by kernel_rfl
theorem fa41_4c (cs : List AV) : fieldAddrA Try.prog 41 (.iptr cs) 4 = some (.iptr (cs.drop 4)) := by kernel_rfl
theorem fd41_4 (cs : List AV) : fieldA Try.prog 41 (.agg cs) 4 = partA Try.prog 39 cs 4 := by kernel_rfl
theorem sz44 : sizeA Try.prog 44 = some 2 := by kernel_rfl
theorem bt44 : bytesA Try.prog 44 = some 24 := by kernel_rfl
theorem pt44 (cs : List AV) (o : Nat) : partA Try.prog 44 cs o = aggA 2 (cs.drop o) := part_agg Try.underlying44 rfl sz44 cs o
theorem zr44 : zeroA Try.prog 44 = some [(.str []), (.int .i64 0)] := by kernel_rfl
theorem fa44_0p (r o : Nat) : fieldAddrA Try.prog 44 (.ptr r o) 0 = some (.ptr r (o + 0)) := by kernel_rfl
theorem fa44_0c (cs : List AV) : fieldAddrA Try.prog 44 (.iptr cs) 0 = some (.iptr (cs.drop 0)) := by kernel_rfl
theorem fd44_0 (cs : List AV) : fieldA Try.prog 44 (.agg cs) 0 = partA Try.prog 9 cs 0 := by kernel_rfl
theorem fa44_1p (r o : Nat) : fieldAddrA Try.prog 44 (.ptr r o) 1 = some (.ptr r (o + 1)) := by kernel_rfl
theorem fa44_1c (cs : List AV) : fieldAddrA Try.prog 44 (.iptr cs) 1 = some (.iptr (cs.drop 1)) := by kernel_rfl
theorem fd44_1 (cs : List AV) : fieldA Try.prog 44 (.agg cs) 1 = partA Try.prog 3 cs 1 := by kernel_rfl
theorem sz46 : sizeA Try.prog 46 = some 17 := by kernel_rfl
theorem bt46 : bytesA Try.prog 46 = some 248 := by kernel_rfl
theorem pt46 (cs : List AV) (o : Nat) : partA Try.prog 46 cs o = aggA 17 (cs.drop o) := part_agg Try.underlying46 rfl sz46 cs o
theorem zr46 : zeroA Try.prog 46 = some [(.int .i64 0), (.str []), (.str []), (.int .i64 0), (.int .i64 0), (.int .i64 0), (.str []), (.int .i64 0), .nilS, (.int .i64 0), (.int .i64 0), (.str []), (.int .i64 0), .nilS, .nilS, .nilS, .nilS] := by kernel_rfl
theorem fa46_0p (r o : Nat) : fieldAddrA Try.prog 46 (.ptr r o) 0 = some (.ptr r (o + 0)) := by kernel_rfl
theorem fa46_0c (cs : List AV) : fieldAddrA Try.prog 46 (.iptr cs) 0 = some (.iptr (cs.drop 0)) := by kernel_rfl
theorem fd46_0 (cs : List AV) : fieldA Try.prog 46 (.agg cs) 0 = partA Try.prog 3 cs 0 := by kernel_rfl
theorem fa46_1p (r o : Nat) : fieldAddrA Try.prog 46 (.ptr r o) 1 = some (.ptr r (o + 1)) := by kernel_rfl
theorem fa46_1c (cs : List AV) : fieldAddrA Try.prog 46 (.iptr cs) 1 = some (.iptr (cs.drop 1)) := by kernel_rfl
theorem fd46_1 (cs : List AV) : fieldA Try.prog 46 (.agg cs) 1 = partA Try.prog 9 cs 1 := by kernel_rfl
theorem fa46_2p (r o : Nat) : fieldAddrA Try.prog 46 (.ptr r o) 2 = some (.ptr r (o + 2)) := by kernel_rfl
theorem fa46_2c (cs : List AV) : fieldAddrA Try.prog 46 (.iptr cs) 2 = some (.iptr (cs.drop 2)) := by kernel_rfl
theorem fd46_2 (cs : List AV) : fieldA Try.prog 46 (.agg cs) 2 = partA Try.prog 9 cs 2 := by kernel_rfl
theorem fa46_3p (r o : Nat) : fieldAddrA Try.prog 46 (.ptr r o) 3 = some (.ptr r (o + 3)) := by kernel_rfl
theorem fa46_3c (cs : List AV) : fieldAddrA Try.prog 46 (.iptr cs) 3 = some (.iptr (cs.drop 3)) := by kernel_rfl
theorem fd46_3 (cs : List AV) : fieldA Try.prog 46 (.agg cs) 3 = partA Try.prog 3 cs 3 := by kernel_rfl
theorem fa46_4p (r o : Nat) : fieldAddrA Try.prog 46 (.ptr r o) 4 = some (.ptr r (o + 4)) := by kernel_rfl
theorem fa46_4c (cs : List AV) : fieldAddrA Try.prog 46 (.iptr cs) 4 = some (.iptr (cs.drop 4)) := by kernel_rfl
theorem fd46_4 (cs : List AV) : fieldA Try.prog 46 (.agg cs) 4 = partA Try.prog 39 cs 4 := by kernel_rfl
theorem fa46_5p (r o : Nat) : fieldAddrA Try.prog 46 (.ptr r o) 5 = some (.ptr r (o + 9)) := by kernel_rfl
theorem fa46_5c (cs : List AV) : fieldAddrA Try.prog 46 (.iptr cs) 5 = some (.iptr (cs.drop 9)) := by kernel_rfl
theorem fd46_5 (cs : List AV) : fieldA Try.prog 46 (.agg cs) 5 = partA Try.prog 39 cs 9 := by kernel_rfl
theorem fa46_6p (r o : Nat) : fieldAddrA Try.prog 46 (.ptr r o) 6 = some (.ptr r (o + 14)) := by kernel_rfl
theorem fa46_6c (cs : List AV) : fieldAddrA Try.prog 46 (.iptr cs) 6 = some (.iptr (cs.drop 14)) := by kernel_rfl
theorem fd46_6 (cs : List AV) : fieldA Try.prog 46 (.agg cs) 6 = partA Try.prog 37 cs 14 := by kernel_rfl
theorem fa46_7p (r o : Nat) : fieldAddrA Try.prog 46 (.ptr r o) 7 = some (.ptr r (o + 15)) := by kernel_rfl
theorem fa46_7c (cs : List AV) : fieldAddrA Try.prog 46 (.iptr cs) 7 = some (.iptr (cs.drop 15)) := by kernel_rfl
theorem fd46_7 (cs : List AV) : fieldA Try.prog 46 (.agg cs) 7 = partA Try.prog 36 cs 15 := by kernel_rfl
theorem fa46_8p (r o : Nat) : fieldAddrA Try.prog 46 (.ptr r o) 8 = some (.ptr r (o + 16)) := by kernel_rfl
theorem fa46_8c (cs : List AV) : fieldAddrA Try.prog 46 (.iptr cs) 8 = some (.iptr (cs.drop 16)) := by kernel_rfl
theorem fd46_8 (cs : List AV) : fieldA Try.prog 46 (.agg cs) 8 = partA Try.prog 36 cs 16 := by kernel_rfl
theorem sz50 : sizeA Try.prog 50 = some 1 := by kernel_rfl
theorem bt50 : bytesA Try.prog 50 = some 24 := by kernel_rfl
theorem pt50 (cs : List AV) (o : Nat) : partA Try.prog 50 cs o = cs[o]? := part_one Try.underlying50 rfl cs o
theorem zr50 : zeroA Try.prog 50 = some [.nilS] := by kernel_rfl
theorem ix50l (xs : List (List AV)) {n : Int} (hn : 0 ≤ n) (k : IntKind) : indexAddrA Try.prog 50 (.lst xs) (.int k n) = rowA 1 (xs[n.toNat]?) := index_lst' Try.underlying50 (show sizeA Try.prog 5 = some 1 from by kernel_rfl) xs hn k
theorem ix50s (r o l z : Nat) {n : Int} (hn : 0 ≤ n) (k : IntKind) : indexAddrA Try.prog 50 (.sl r o l z) (.int k n) = bif decide (n.toNat < l) then some (.ptr r (o + n.toNat * 1)) else none := index_sl' Try.underlying50 (show sizeA Try.prog 5 = some 1 from by kernel_rfl) r o l z hn k
theorem ln50l (H : Hp) (xs : List (List AV)) : lenAt Try.prog H 50 (.lst xs) = some (.int .i64 xs.length) := lenAt_lst Try.underlying50 xs
theorem ln50s (H : Hp) (r o n z : Nat) : lenAt Try.prog H 50 (.sl r o n z) = some (.int .i64 n) := lenAt_sl Try.underlying50 r o n z
theorem ln50n (H : Hp) : lenAt Try.prog H 50 .nilS = some (.int .i64 0) := lenAt_nil Try.underlying50
theorem sz52 : sizeA Try.prog 52 = some 1 := by kernel_rfl
theorem bt52 : bytesA Try.prog 52 = some 24 := by kernel_rfl
theorem pt52 (cs : List AV) (o : Nat) : partA Try.prog 52 cs o = cs[o]? := part_one Try.underlying52 rfl cs o
theorem zr52 : zeroA Try.prog 52 = some [.nilS] := by kernel_rfl
theorem ix52l (xs : List (List AV)) {n : Int} (hn : 0 ≤ n) (k : IntKind) : indexAddrA Try.prog 52 (.lst xs) (.int k n) = rowA 1 (xs[n.toNat]?) := index_lst' Try.underlying52 (show sizeA Try.prog 2 = some 1 from by kernel_rfl) xs hn k
theorem ix52s (r o l z : Nat) {n : Int} (hn : 0 ≤ n) (k : IntKind) : indexAddrA Try.prog 52 (.sl r o l z) (.int k n) = bif decide (n.toNat < l) then some (.ptr r (o + n.toNat * 1)) else none := index_sl' Try.underlying52 (show sizeA Try.prog 2 = some 1 from by kernel_rfl) r o l z hn k
theorem ln52l (H : Hp) (xs : List (List AV)) : lenAt Try.prog H 52 (.lst xs) = some (.int .i64 xs.length) := lenAt_lst Try.underlying52 xs
theorem ln52s (H : Hp) (r o n z : Nat) : lenAt Try.prog H 52 (.sl r o n z) = some (.int .i64 n) := lenAt_sl Try.underlying52 r o n z
theorem ln52n (H : Hp) : lenAt Try.prog H 52 .nilS = some (.int .i64 0) := lenAt_nil Try.underlying52
theorem sz56 : sizeA Try.prog 56 = some 4 := by kernel_rfl
theorem bt56 : bytesA Try.prog 56 = some 48 := by kernel_rfl
theorem pt56 (cs : List AV) (o : Nat) : partA Try.prog 56 cs o = aggA 4 (cs.drop o) := part_agg Try.underlying56 rfl sz56 cs o
theorem zr56 : zeroA Try.prog 56 = some [(.int .i64 0), (.int .i64 0), .nilS, (.int .i64 0)] := by kernel_rfl
theorem fa56_0p (r o : Nat) : fieldAddrA Try.prog 56 (.ptr r o) 0 = some (.ptr r (o + 0)) := by kernel_rfl
theorem fa56_0c (cs : List AV) : fieldAddrA Try.prog 56 (.iptr cs) 0 = some (.iptr (cs.drop 0)) := by kernel_rfl
theorem fd56_0 (cs : List AV) : fieldA Try.prog 56 (.agg cs) 0 = partA Try.prog 3 cs 0 := by kernel_rfl
theorem fa56_1p (r o : Nat) : fieldAddrA Try.prog 56 (.ptr r o) 1 = some (.ptr r (o + 1)) := by kernel_rfl
theorem fa56_1c (cs : List AV) : fieldAddrA Try.prog 56 (.iptr cs) 1 = some (.iptr (cs.drop 1)) := by kernel_rfl
theorem fd56_1 (cs : List AV) : fieldA Try.prog 56 (.agg cs) 1 = partA Try.prog 3 cs 1 := by kernel_rfl
theorem fa56_2p (r o : Nat) : fieldAddrA Try.prog 56 (.ptr r o) 2 = some (.ptr r (o + 2)) := by kernel_rfl
theorem fa56_2c (cs : List AV) : fieldAddrA Try.prog 56 (.iptr cs) 2 = some (.iptr (cs.drop 2)) := by kernel_rfl
theorem fd56_2 (cs : List AV) : fieldA Try.prog 56 (.agg cs) 2 = partA Try.prog 52 cs 2 := by kernel_rfl
theorem fa56_3p (r o : Nat) : fieldAddrA Try.prog 56 (.ptr r o) 3 = some (.ptr r (o + 3)) := by kernel_rfl
theorem fa56_3c (cs : List AV) : fieldAddrA Try.prog 56 (.iptr cs) 3 = some (.iptr (cs.drop 3)) := by kernel_rfl
theorem fd56_3 (cs : List AV) : fieldA Try.prog 56 (.agg cs) 3 = partA Try.prog 2 cs 3 := by kernel_rfl
theorem sz61 : sizeA Try.prog 61 = some 2 := by kernel_rfl
theorem bt61 : bytesA Try.prog 61 = some 16 := by kernel_rfl
theorem pt61 (cs : List AV) (o : Nat) : partA Try.prog 61 cs o = aggA 2 (cs.drop o) := part_agg Try.underlying61 rfl sz61 cs o
theorem zr61 : zeroA Try.prog 61 = some [(.int .i64 0), (.int .i64 0)] := by kernel_rfl
theorem fa61_0p (r o : Nat) : fieldAddrA Try.prog 61 (.ptr r o) 0 = some (.ptr r (o + 0)) := by kernel_rfl
theorem fa61_0c (cs : List AV) : fieldAddrA Try.prog 61 (.iptr cs) 0 = some (.iptr (cs.drop 0)) := by kernel_rfl
theorem fd61_0 (cs : List AV) : fieldA Try.prog 61 (.agg cs) 0 = partA Try.prog 30 cs 0 := by kernel_rfl
theorem fa61_1p (r o : Nat) : fieldAddrA Try.prog 61 (.ptr r o) 1 = some (.ptr r (o + 1)) := by kernel_rfl
theorem fa61_1c (cs : List AV) : fieldAddrA Try.prog 61 (.iptr cs) 1 = some (.iptr (cs.drop 1)) := by kernel_rfl
theorem fd61_1 (cs : List AV) : fieldA Try.prog 61 (.agg cs) 1 = partA Try.prog 3 cs 1 := by kernel_rfl
theorem sz72 : sizeA Try.prog 72 = some 2 := by kernel_rfl
theorem bt72 : bytesA Try.prog 72 = some 32 := by kernel_rfl
theorem pt72 (cs : List AV) (o : Nat) : partA Try.prog 72 cs o = aggA 2 (cs.drop o) := part_agg Try.underlying72 rfl sz72 cs o
theorem zr72 : zeroA Try.prog 72 = some [.nilS, (.int .i64 0)] := by kernel_rfl
theorem fa72_0p (r o : Nat) : fieldAddrA Try.prog 72 (.ptr r o) 0 = some (.ptr r (o + 0)) := by kernel_rfl
theorem fa72_0c (cs : List AV) : fieldAddrA Try.prog 72 (.iptr cs) 0 = some (.iptr (cs.drop 0)) := by kernel_rfl
theorem fd72_0 (cs : List AV) : fieldA Try.prog 72 (.agg cs) 0 = partA Try.prog 26 cs 0 := by kernel_rfl
theorem fa72_1p (r o : Nat) : fieldAddrA Try.prog 72 (.ptr r o) 1 = some (.ptr r (o + 1)) := by kernel_rfl
theorem fa72_1c (cs : List AV) : fieldAddrA Try.prog 72 (.iptr cs) 1 = some (.iptr (cs.drop 1)) := by kernel_rfl
theorem fd72_1 (cs : List AV) : fieldA Try.prog 72 (.agg cs) 1 = partA Try.prog 3 cs 1 := by kernel_rfl
theorem sz80 : sizeA Try.prog 80 = some 4 := by kernel_rfl
theorem bt80 : bytesA Try.prog 80 = some 96 := by kernel_rfl
theorem pt80 (cs : List AV) (o : Nat) : partA Try.prog 80 cs o = aggA 4 (cs.drop o) := part_agg Try.underlying80 rfl sz80 cs o
theorem zr80 : zeroA Try.prog 80 = some [.nilS, .nilS, .nilS, .nilS] := by kernel_rfl
theorem fa80_0p (r o : Nat) : fieldAddrA Try.prog 80 (.ptr r o) 0 = some (.ptr r (o + 0)) := by kernel_rfl
theorem fa80_0c (cs : List AV) : fieldAddrA Try.prog 80 (.iptr cs) 0 = some (.iptr (cs.drop 0)) := by kernel_rfl
theorem fd80_0 (cs : List AV) : fieldA Try.prog 80 (.agg cs) 0 = partA Try.prog 35 cs 0 := by kernel_rfl
theorem fa80_1p (r o : Nat) : fieldAddrA Try.prog 80 (.ptr r o) 1 = some (.ptr r (o + 1)) := by kernel_rfl
theorem fa80_1c (cs : List AV) : fieldAddrA Try.prog 80 (.iptr cs) 1 = some (.iptr (cs.drop 1)) := by kernel_rfl
theorem fd80_1 (cs : List AV) : fieldA Try.prog 80 (.agg cs) 1 = partA Try.prog 35 cs 1 := by kernel_rfl
theorem fa80_2p (r o : Nat) : fieldAddrA Try.prog 80 (.ptr r o) 2 = some (.ptr r (o + 2)) := by kernel_rfl
theorem fa80_2c (cs : List AV) : fieldAddrA Try.prog 80 (.iptr cs) 2 = some (.iptr (cs.drop 2)) := by kernel_rfl
theorem fd80_2 (cs : List AV) : fieldA Try.prog 80 (.agg cs) 2 = partA Try.prog 25 cs 2 := by kernel_rfl
theorem sz85 : sizeA Try.prog 85 = some 1 := by kernel_rfl
theorem bt85 : bytesA Try.prog 85 = some 8 := by kernel_rfl
theorem pt85 (cs : List AV) (o : Nat) : partA Try.prog 85 cs o = cs[o]? := part_one Try.underlying85 rfl cs o
theorem zr85 : zeroA Try.prog 85 = some [.nilM] := by kernel_rfl
theorem sz86 : sizeA Try.prog 86 = some 1 := by kernel_rfl
theorem bt86 : bytesA Try.prog 86 = some 8 := by kernel_rfl
theorem pt86 (cs : List AV) (o : Nat) : partA Try.prog 86 cs o = cs[o]? := part_one Try.underlying86 rfl cs o
theorem zr86 : zeroA Try.prog 86 = some [.nilM] := by kernel_rfl
theorem sz88 : sizeA Try.prog 88 = some 8 := by kernel_rfl
theorem bt88 : bytesA Try.prog 88 = some 112 := by kernel_rfl
theorem pt88 (cs : List AV) (o : Nat) : partA Try.prog 88 cs o = aggA 8 (cs.drop o) := part_agg Try.underlying88 rfl sz88 cs o
theorem zr88 : zeroA Try.prog 88 = some [.nilS, .nilS, .nilM, .nilM, (.int .i64 0), (.int .i64 0), (.int .i64 0), .nilS] := by kernel_rfl
theorem fa88_0p (r o : Nat) : fieldAddrA Try.prog 88 (.ptr r o) 0 = some (.ptr r (o + 0)) := by kernel_rfl
theorem fa88_0c (cs : List AV) : fieldAddrA Try.prog 88 (.iptr cs) 0 = some (.iptr (cs.drop 0)) := by kernel_rfl
theorem fd88_0 (cs : List AV) : fieldA Try.prog 88 (.agg cs) 0 = partA Try.prog 25 cs 0 := by kernel_rfl
theorem fa88_1p (r o : Nat) : fieldAddrA Try.prog 88 (.ptr r o) 1 = some (.ptr r (o + 2)) := by kernel_rfl
theorem fa88_1c (cs : List AV) : fieldAddrA Try.prog 88 (.iptr cs) 1 = some (.iptr (cs.drop 2)) := by kernel_rfl
theorem fd88_1 (cs : List AV) : fieldA Try.prog 88 (.agg cs) 1 = partA Try.prog 85 cs 2 := by kernel_rfl
theorem fa88_2p (r o : Nat) : fieldAddrA Try.prog 88 (.ptr r o) 2 = some (.ptr r (o + 3)) := by kernel_rfl
theorem fa88_2c (cs : List AV) : fieldAddrA Try.prog 88 (.iptr cs) 2 = some (.iptr (cs.drop 3)) := by kernel_rfl
theorem fd88_2 (cs : List AV) : fieldA Try.prog 88 (.agg cs) 2 = partA Try.prog 86 cs 3 := by kernel_rfl
theorem fa88_3p (r o : Nat) : fieldAddrA Try.prog 88 (.ptr r o) 3 = some (.ptr r (o + 4)) := by kernel_rfl
theorem fa88_3c (cs : List AV) : fieldAddrA Try.prog 88 (.iptr cs) 3 = some (.iptr (cs.drop 4)) := by kernel_rfl
theorem fd88_3 (cs : List AV) : fieldA Try.prog 88 (.agg cs) 3 = partA Try.prog 3 cs 4 := by kernel_rfl
theorem fa88_4p (r o : Nat) : fieldAddrA Try.prog 88 (.ptr r o) 4 = some (.ptr r (o + 5)) := by kernel_rfl
theorem fa88_4c (cs : List AV) : fieldAddrA Try.prog 88 (.iptr cs) 4 = some (.iptr (cs.drop 5)) := by kernel_rfl
theorem fd88_4 (cs : List AV) : fieldA Try.prog 88 (.agg cs) 4 = partA Try.prog 3 cs 5 := by kernel_rfl
theorem fa88_5p (r o : Nat) : fieldAddrA Try.prog 88 (.ptr r o) 5 = some (.ptr r (o + 6)) := by kernel_rfl
theorem fa88_5c (cs : List AV) : fieldAddrA Try.prog 88 (.iptr cs) 5 = some (.iptr (cs.drop 6)) := by kernel_rfl
theorem fd88_5 (cs : List AV) : fieldA Try.prog 88 (.agg cs) 5 = partA Try.prog 3 cs 6 := by kernel_rfl
theorem fa88_6p (r o : Nat) : fieldAddrA Try.prog 88 (.ptr r o) 6 = some (.ptr r (o + 7)) := by kernel_rfl
theorem fa88_6c (cs : List AV) : fieldAddrA Try.prog 88 (.iptr cs) 6 = some (.iptr (cs.drop 7)) := by kernel_rfl
theorem fd88_6 (cs : List AV) : fieldA Try.prog 88 (.agg cs) 6 = partA Try.prog 52 cs 7 := by kernel_rfl
theorem sz91 : sizeA Try.prog 91 = some 1 := by kernel_rfl
theorem bt91 : bytesA Try.prog 91 = some 24 := by kernel_rfl
theorem pt91 (cs : List AV) (o : Nat) : partA Try.prog 91 cs o = cs[o]? := part_one Try.underlying91 rfl cs o
theorem zr91 : zeroA Try.prog 91 = some [.nilS] := by kernel_rfl
theorem ix91l (xs : List (List AV)) {n : Int} (hn : 0 ≤ n) (k : IntKind) : indexAddrA Try.prog 91 (.lst xs) (.int k n) = rowA 3 (xs[n.toNat]?) := index_lst' Try.underlying91 (show sizeA Try.prog 127 = some 3 from by kernel_rfl) xs hn k
theorem ix91s (r o l z : Nat) {n : Int} (hn : 0 ≤ n) (k : IntKind) : indexAddrA Try.prog 91 (.sl r o l z) (.int k n) = bif decide (n.toNat < l) then some (.ptr r (o + n.toNat * 3)) else none := index_sl' Try.underlying91 (show sizeA Try.prog 127 = some 3 from by kernel_rfl) r o l z hn k
theorem ln91l (H : Hp) (xs : List (List AV)) : lenAt Try.prog H 91 (.lst xs) = some (.int .i64 xs.length) := lenAt_lst Try.underlying91 xs
theorem ln91s (H : Hp) (r o n z : Nat) : lenAt Try.prog H 91 (.sl r o n z) = some (.int .i64 n) := lenAt_sl Try.underlying91 r o n z
theorem ln91n (H : Hp) : lenAt Try.prog H 91 .nilS = some (.int .i64 0) := lenAt_nil Try.underlying91
theorem sz96 : sizeA Try.prog 96 = some 5 := by kernel_rfl
theorem bt96 : bytesA Try.prog 96 = some 56 := by kernel_rfl
theorem pt96 (cs : List AV) (o : Nat) : partA Try.prog 96 cs o = aggA 5 (cs.drop o) := part_agg Try.underlying96 rfl sz96 cs o
theorem zr96 : zeroA Try.prog 96 = some [.nilS, (.int .i64 0), (.int .i64 0), (.int .i64 0), (.int .i64 0)] := by kernel_rfl
theorem fa96_0p (r o : Nat) : fieldAddrA Try.prog 96 (.ptr r o) 0 = some (.ptr r (o + 0)) := by kernel_rfl
theorem fa96_0c (cs : List AV) : fieldAddrA Try.prog 96 (.iptr cs) 0 = some (.iptr (cs.drop 0)) := by kernel_rfl
theorem fd96_0 (cs : List AV) : fieldA Try.prog 96 (.agg cs) 0 = partA Try.prog 91 cs 0 := by kernel_rfl
theorem fa96_1p (r o : Nat) : fieldAddrA Try.prog 96 (.ptr r o) 1 = some (.ptr r (o + 1)) := by kernel_rfl
theorem fa96_1c (cs : List AV) : fieldAddrA Try.prog 96 (.iptr cs) 1 = some (.iptr (cs.drop 1)) := by kernel_rfl
theorem fd96_1 (cs : List AV) : fieldA Try.prog 96 (.agg cs) 1 = partA Try.prog 3 cs 1 := by kernel_rfl
theorem fa96_2p (r o : Nat) : fieldAddrA Try.prog 96 (.ptr r o) 2 = some (.ptr r (o + 2)) := by kernel_rfl
theorem fa96_2c (cs : List AV) : fieldAddrA Try.prog 96 (.iptr cs) 2 = some (.iptr (cs.drop 2)) := by kernel_rfl
theorem fd96_2 (cs : List AV) : fieldA Try.prog 96 (.agg cs) 2 = partA Try.prog 3 cs 2 := by kernel_rfl
theorem fa96_3p (r o : Nat) : fieldAddrA Try.prog 96 (.ptr r o) 3 = some (.ptr r (o + 3)) := by kernel_rfl
theorem fa96_3c (cs : List AV) : fieldAddrA Try.prog 96 (.iptr cs) 3 = some (.iptr (cs.drop 3)) := by kernel_rfl
theorem fd96_3 (cs : List AV) : fieldA Try.prog 96 (.agg cs) 3 = partA Try.prog 61 cs 3 := by kernel_rfl
theorem sz107 : sizeA Try.prog 107 = some 1 := by kernel_rfl
theorem bt107 : bytesA Try.prog 107 = some 8 := by kernel_rfl
theorem pt107 (cs : List AV) (o : Nat) : partA Try.prog 107 cs o = cs[o]? := part_one Try.underlying107 rfl cs o
theorem zr107 : zeroA Try.prog 107 = some [.nilF] := by kernel_rfl
theorem sz114 : sizeA Try.prog 114 = some 1 := by kernel_rfl
theorem bt114 : bytesA Try.prog 114 = some 8 := by kernel_rfl
theorem pt114 (cs : List AV) (o : Nat) : partA Try.prog 114 cs o = cs[o]? := part_one Try.underlying114 rfl cs o
theorem zr114 : zeroA Try.prog 114 = some [.nilM] := by kernel_rfl
theorem sz123 : sizeA Try.prog 123 = some 1 := by kernel_rfl
theorem bt123 : bytesA Try.prog 123 = some 8 := by kernel_rfl
theorem pt123 (cs : List AV) (o : Nat) : partA Try.prog 123 cs o = cs[o]? := part_one Try.underlying123 rfl cs o
theorem zr123 : zeroA Try.prog 123 = some [.nilM] := by kernel_rfl
theorem sz127 : sizeA Try.prog 127 = some 3 := by kernel_rfl
theorem bt127 : bytesA Try.prog 127 = some 32 := by kernel_rfl
theorem pt127 (cs : List AV) (o : Nat) : partA Try.prog 127 cs o = aggA 3 (cs.drop o) := part_agg Try.underlying127 rfl sz127 cs o
theorem zr127 : zeroA Try.prog 127 = some [(.int .i64 0), (.str []), (.int .i64 0)] := by kernel_rfl
theorem fa127_0p (r o : Nat) : fieldAddrA Try.prog 127 (.ptr r o) 0 = some (.ptr r (o + 0)) := by kernel_rfl
theorem fa127_0c (cs : List AV) : fieldAddrA Try.prog 127 (.iptr cs) 0 = some (.iptr (cs.drop 0)) := by kernel_rfl
theorem fd127_0 (cs : List AV) : fieldA Try.prog 127 (.agg cs) 0 = partA Try.prog 3 cs 0 := by kernel_rfl
theorem fa127_1p (r o : Nat) : fieldAddrA Try.prog 127 (.ptr r o) 1 = some (.ptr r (o + 1)) := by kernel_rfl
theorem fa127_1c (cs : List AV) : fieldAddrA Try.prog 127 (.iptr cs) 1 = some (.iptr (cs.drop 1)) := by kernel_rfl
theorem fd127_1 (cs : List AV) : fieldA Try.prog 127 (.agg cs) 1 = partA Try.prog 9 cs 1 := by kernel_rfl
theorem fa127_2p (r o : Nat) : fieldAddrA Try.prog 127 (.ptr r o) 2 = some (.ptr r (o + 2)) := by kernel_rfl
theorem fa127_2c (cs : List AV) : fieldAddrA Try.prog 127 (.iptr cs) 2 = some (.iptr (cs.drop 2)) := by kernel_rfl
theorem fd127_2 (cs : List AV) : fieldA Try.prog 127 (.agg cs) 2 = partA Try.prog 3 cs 2 := by kernel_rfl
theorem sz129 : sizeA Try.prog 129 = some 1 := by kernel_rfl
theorem bt129 : bytesA Try.prog 129 = some 8 := by kernel_rfl
theorem pt129 (cs : List AV) (o : Nat) : partA Try.prog 129 cs o = cs[o]? := part_one Try.underlying129 rfl cs o
theorem zr129 : zeroA Try.prog 129 = some [(.int .u64 0)] := by kernel_rfl
theorem sz136 : sizeA Try.prog 136 = some 1 := by kernel_rfl
theorem bt136 : bytesA Try.prog 136 = some 8 := by kernel_rfl
theorem pt136 (cs : List AV) (o : Nat) : partA Try.prog 136 cs o = cs[o]? := part_one Try.underlying136 rfl cs o
theorem zr136 : zeroA Try.prog 136 = some [(.int .u64 0)] := by kernel_rfl
theorem sz139 : sizeA Try.prog 139 = some 8 := by kernel_rfl
theorem bt139 : bytesA Try.prog 139 = some 8 := by kernel_rfl
theorem pt139 (cs : List AV) (o : Nat) : partA Try.prog 139 cs o = aggA 8 (cs.drop o) := part_agg Try.underlying139 rfl sz139 cs o
theorem zr139 : zeroA Try.prog 139 = some [(.bool false), (.bool false), (.bool false), (.bool false), (.bool false), (.bool false), (.bool false), (.bool false)] := by kernel_rfl
theorem fa139_0p (r o : Nat) : fieldAddrA Try.prog 139 (.ptr r o) 0 = some (.ptr r (o + 0)) := by kernel_rfl
theorem fa139_0c (cs : List AV) : fieldAddrA Try.prog 139 (.iptr cs) 0 = some (.iptr (cs.drop 0)) := by kernel_rfl
theorem fd139_0 (cs : List AV) : fieldA Try.prog 139 (.agg cs) 0 = partA Try.prog 4 cs 0 := by kernel_rfl
theorem fa139_1p (r o : Nat) : fieldAddrA Try.prog 139 (.ptr r o) 1 = some (.ptr r (o + 1)) := by kernel_rfl
theorem fa139_1c (cs : List AV) : fieldAddrA Try.prog 139 (.iptr cs) 1 = some (.iptr (cs.drop 1)) := by kernel_rfl
theorem fd139_1 (cs : List AV) : fieldA Try.prog 139 (.agg cs) 1 = partA Try.prog 4 cs 1 := by kernel_rfl
theorem fa139_2p (r o : Nat) : fieldAddrA Try.prog 139 (.ptr r o) 2 = some (.ptr r (o + 2)) := by kernel_rfl
theorem fa139_2c (cs : List AV) : fieldAddrA Try.prog 139 (.iptr cs) 2 = some (.iptr (cs.drop 2)) := by kernel_rfl
theorem fd139_2 (cs : List AV) : fieldA Try.prog 139 (.agg cs) 2 = partA Try.prog 4 cs 2 := by kernel_rfl
theorem fa139_3p (r o : Nat) : fieldAddrA Try.prog 139 (.ptr r o) 3 = some (.ptr r (o + 3)) := by kernel_rfl
theorem fa139_3c (cs : List AV) : fieldAddrA Try.prog 139 (.iptr cs) 3 = some (.iptr (cs.drop 3)) := by kernel_rfl
theorem fd139_3 (cs : List AV) : fieldA Try.prog 139 (.agg cs) 3 = partA Try.prog 4 cs 3 := by kernel_rfl
theorem fa139_4p (r o : Nat) : fieldAddrA Try.prog 139 (.ptr r o) 4 = some (.ptr r (o + 4)) := by kernel_rfl
theorem fa139_4c (cs : List AV) : fieldAddrA Try.prog 139 (.iptr cs) 4 = some (.iptr (cs.drop 4)) := by kernel_rfl
theorem fd139_4 (cs : List AV) : fieldA Try.prog 139 (.agg cs) 4 = partA Try.prog 4 cs 4 := by kernel_rfl
theorem fa139_5p (r o : Nat) : fieldAddrA Try.prog 139 (.ptr r o) 5 = some (.ptr r (o + 5)) := by kernel_rfl
theorem fa139_5c (cs : List AV) : fieldAddrA Try.prog 139 (.iptr cs) 5 = some (.iptr (cs.drop 5)) := by kernel_rfl
theorem fd139_5 (cs : List AV) : fieldA Try.prog 139 (.agg cs) 5 = partA Try.prog 4 cs 5 := by kernel_rfl
theorem fa139_6p (r o : Nat) : fieldAddrA Try.prog 139 (.ptr r o) 6 = some (.ptr r (o + 6)) := by kernel_rfl
theorem fa139_6c (cs : List AV) : fieldAddrA Try.prog 139 (.iptr cs) 6 = some (.iptr (cs.drop 6)) := by kernel_rfl
theorem fd139_6 (cs : List AV) : fieldA Try.prog 139 (.agg cs) 6 = partA Try.prog 4 cs 6 := by kernel_rfl
theorem fa139_7p (r o : Nat) : fieldAddrA Try.prog 139 (.ptr r o) 7 = some (.ptr r (o + 7)) := by kernel_rfl
theorem fa139_7c (cs : List AV) : fieldAddrA Try.prog 139 (.iptr cs) 7 = some (.iptr (cs.drop 7)) := by kernel_rfl
theorem fd139_7 (cs : List AV) : fieldA Try.prog 139 (.agg cs) 7 = partA Try.prog 4 cs 7 := by kernel_rfl
theorem sz144 : sizeA Try.prog 144 = some 1 := by kernel_rfl
theorem bt144 : bytesA Try.prog 144 = some 24 := by kernel_rfl
theorem pt144 (cs : List AV) (o : Nat) : partA Try.prog 144 cs o = cs[o]? := part_one Try.underlying144 rfl cs o
theorem zr144 : zeroA Try.prog 144 = some [.nilS] := by kernel_rfl
theorem ix144l (xs : List (List AV)) {n : Int} (hn : 0 ≤ n) (k : IntKind) : indexAddrA Try.prog 144 (.lst xs) (.int k n) = rowA 1 (xs[n.toNat]?) := index_lst' Try.underlying144 (show sizeA Try.prog 35 = some 1 from by kernel_rfl) xs hn k
theorem ix144s (r o l z : Nat) {n : Int} (hn : 0 ≤ n) (k : IntKind) : indexAddrA Try.prog 144 (.sl r o l z) (.int k n) = bif decide (n.toNat < l) then some (.ptr r (o + n.toNat * 1)) else none := index_sl' Try.underlying144 (show sizeA Try.prog 35 = some 1 from by kernel_rfl) r o l z hn k
theorem ln144l (H : Hp) (xs : List (List AV)) : lenAt Try.prog H 144 (.lst xs) = some (.int .i64 xs.length) := lenAt_lst Try.underlying144 xs
theorem ln144s (H : Hp) (r o n z : Nat) : lenAt Try.prog H 144 (.sl r o n z) = some (.int .i64 n) := lenAt_sl Try.underlying144 r o n z
theorem ln144n (H : Hp) : lenAt Try.prog H 144 .nilS = some (.int .i64 0) := lenAt_nil Try.underlying144
theorem sz155 : sizeA Try.prog 155 = some 7 := by kernel_rfl
theorem bt155 : bytesA Try.prog 155 = some 112 := by kernel_rfl
theorem pt155 (cs : List AV) (o : Nat) : partA Try.prog 155 cs o = aggA 7 (cs.drop o) := part_agg Try.underlying155 rfl sz155 cs o
theorem zr155 : zeroA Try.prog 155 = some [(.str []), (.str []), (.str []), (.str []), (.str []), (.str []), (.str [])] := by kernel_rfl
theorem cv2_129 (H : Hp) (k : IntKind) (n : Int) : convertA Try.prog H 2 129 (.int k n) = some (.int .u64 (IntKind.wrap .u64 n)) := by cases k <;> kernel_rfl
theorem cv2_136 (H : Hp) (k : IntKind) (n : Int) : convertA Try.prog H 2 136 (.int k n) = some (.int .u64 (IntKind.wrap .u64 n)) := by cases k <;> kernel_rfl
theorem cv3_5 (H : Hp) (k : IntKind) (n : Int) : convertA Try.prog H 3 5 (.int k n) = some (.int .u8 (IntKind.wrap .u8 n)) := by cases k <;> kernel_rfl
theorem cv5_129 (H : Hp) (k : IntKind) (n : Int) : convertA Try.prog H 5 129 (.int k n) = some (.int .u64 (IntKind.wrap .u64 n)) := by cases k <;> kernel_rfl
theorem cv129_2 (H : Hp) (k : IntKind) (n : Int) : convertA Try.prog H 129 2 (.int k n) = some (.int .i64 (IntKind.wrap .i64 n)) := by cases k <;> kernel_rfl
theorem cv129_3 (H : Hp) (k : IntKind) (n : Int) : convertA Try.prog H 129 3 (.int k n) = some (.int .i64 (IntKind.wrap .i64 n)) := by cases k <;> kernel_rfl
end Go.Proofs.Ytlanljjbcpepjaa
