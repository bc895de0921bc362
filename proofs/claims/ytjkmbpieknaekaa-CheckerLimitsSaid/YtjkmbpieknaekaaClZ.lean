/-
  The Go function fullinglaw4.CheckerLimits returns true whatever its two arguments are, and leaves all memory that was there as it was. Conditions: none.
-/
import Derived.OpenShut
import Derived.ProofKit
import Derived.Test.YtjkmbpieknaekaaClL
import Derived.WalkKit
set_option linter.unusedSimpArgs false
set_option linter.unusedVariables false
set_option linter.unusedSectionVars false
set_option linter.defProp false
namespace Go.Proofs.Ytjkmbpieknaekaa.checkerLimits
set_option maxRecDepth 20000
set_option linter.unusedVariables false
set_option linter.unusedSimpArgs false
set_option linter.unusedSectionVars false
set_option linter.defProp false
open Go Go.Ab
namespace tyCheckerLimits
def tyF := And.intro @sz2 (And.intro @pt2 (And.intro @bt2 (And.intro @zr2 (And.intro @sz3 (And.intro @pt3 (And.intro @bt3 (And.intro @zr3 (And.intro @sz5 (And.intro @pt5 (And.intro @bt5 (And.intro @zr5 (And.intro @sz9 (And.intro @pt9 (And.intro @bt9 (And.intro @zr9 (And.intro @ln9 (And.intro @ix9 (And.intro @sz22 (And.intro @pt22 (And.intro @bt22 (And.intro @zr22 (And.intro @ix22l (And.intro @ix22s (And.intro @ln22l (And.intro @ln22s (And.intro @ln22n (And.intro @sz23 (And.intro @pt23 (And.intro @bt23 (And.intro @zr23 (And.intro @ix23l (And.intro @ix23s (And.intro @ln23l (And.intro @ln23s (And.intro @ln23n (And.intro @sz25 (And.intro @pt25 (And.intro @bt25 (And.intro @zr25 (And.intro @fa25_0p (And.intro @fa25_0c (And.intro @fd25_0 (And.intro @fa25_1p (And.intro @fa25_1c (And.intro @fd25_1 (And.intro @sz30 (And.intro @pt30 (And.intro @bt30 (And.intro @zr30 (And.intro @sz35 (And.intro @pt35 (And.intro @bt35 (And.intro @zr35 (And.intro @ix35l (And.intro @ix35s (And.intro @ln35l (And.intro @ln35s (And.intro @ln35n (And.intro @sz36 (And.intro @pt36 (And.intro @bt36 (And.intro @zr36 (And.intro @ix36l (And.intro @ix36s (And.intro @ln36l (And.intro @ln36s (And.intro @ln36n (And.intro @sz37 (And.intro @pt37 (And.intro @bt37 (And.intro @zr37 (And.intro @ix37l (And.intro @ix37s (And.intro @ln37l (And.intro @ln37s (And.intro @ln37n (And.intro @sz39 (And.intro @pt39 (And.intro @bt39 (And.intro @zr39 (And.intro @fa39_0p (And.intro @fa39_0c (And.intro @fd39_0 (And.intro @fa39_1p (And.intro @fa39_1c (And.intro @fd39_1 (And.intro @fa39_2p (And.intro @fa39_2c (And.intro @fd39_2 (And.intro @fa39_3p (And.intro @fa39_3c (And.intro @fd39_3 (And.intro @fa39_4p (And.intro @fa39_4c (And.intro @fd39_4 (And.intro @sz41 (And.intro @pt41 (And.intro @bt41 (And.intro @zr41 (And.intro @fa41_0p (And.intro @fa41_0c (And.intro @fd41_0 (And.intro @fa41_1p (And.intro @fa41_1c (And.intro @fd41_1 (And.intro @fa41_2p (And.intro @fa41_2c (And.intro @fd41_2 (And.intro @fa41_3p (And.intro @fa41_3c (And.intro @fd41_3 (And.intro @fa41_4p (And.intro @fa41_4c (And.intro @fd41_4 (And.intro @sz46 (And.intro @pt46 (And.intro @bt46 (And.intro @zr46 (And.intro @fa46_0p (And.intro @fa46_0c (And.intro @fd46_0 (And.intro @fa46_1p (And.intro @fa46_1c (And.intro @fd46_1 (And.intro @fa46_2p (And.intro @fa46_2c (And.intro @fd46_2 (And.intro @fa46_3p (And.intro @fa46_3c (And.intro @fd46_3 (And.intro @fa46_4p (And.intro @fa46_4c (And.intro @fd46_4 (And.intro @fa46_5p (And.intro @fa46_5c (And.intro @fd46_5 (And.intro @fa46_6p (And.intro @fa46_6c (And.intro @fd46_6 (And.intro @fa46_7p (And.intro @fa46_7c (And.intro @fd46_7 (And.intro @fa46_8p (And.intro @fa46_8c (And.intro @fd46_8 (And.intro @sz50 (And.intro @pt50 (And.intro @bt50 (And.intro @zr50 (And.intro @ix50l (And.intro @ix50s (And.intro @ln50l (And.intro @ln50s (And.intro @ln50n (And.intro @cv3_5 (And.intro @agg5 (@bsS1')))))))))))))))))))))))))))))))))))))))))))))))))))))))))))))))))))))))))))))))))))))))))))))))))))))))))))))))))))))))))))))))))))))))))))))))))))))))))))))
end tyCheckerLimits
open tyCheckerLimits Go.ChangeShapes Go.WideShapes Go.ChangeAt Go.RowKit
theorem own : ownKnob Try.prog.godebug = none := by kernel_rfl
noncomputable def code6 : { c : SC // slim 114 (Try.f6.body.getD .skip) = c } := by
  refine ⟨?_, ?_⟩
  rotate_left
  · simp only [Try.f6, Option.getD_some, slim, slimR, slimL, slimD, slimG, Nat.blt, Nat.ble]
    rfl
def spT : List AV → Option AV
  | [] => some (.bool true)
  | _ => none
def enT : En := ⟨16, false, spT⟩
theorem enT_ok (ρ : Nat → Int) : EnOk Try.prog ρ enT := fun args r hr => by
  cases args with
  | nil =>
    simp only [enT, spT, Option.some.injEq] at hr
    subst hr
    exact (knCEx.ok ρ).1
  | cons a l => simp [enT, spT] at hr
noncomputable def levT : List En := [enPick, enW enChkP, enT]
theorem levT_ok (ρ : Nat → Int) : EnsOk Try.prog ρ levT := ⟨enPick_ok ρ, enW_ok (enChkP_ok ρ), enT_ok ρ, trivial⟩
theorem u8_all : ((List.range 20).all fun i => decide (UInt8.ofNat (IntKind.wrap .u8 (97 + (i : Int))).toNat = UInt8.ofNat (97 + i))) = true := by kernel_rfl
theorem u8_at {i : Nat} (h : i < 20) : UInt8.ofNat (IntKind.wrap .u8 (97 + (i : Int))).toNat = UInt8.ofNat (97 + i) := by
  have := u8_all
  simp only [List.all_eq_true, List.mem_range, decide_eq_true_eq] at this
  exact this i h
theorem kT (H : Hp) : WpCall Try.prog (cfgN pls levT) 16 [] H fun v H' => v = .bool true ∧ H' = H := WpCall.kn rfl
theorem bN : buildA Try.prog 39 [(0, .int .i64 1)] = some (.agg [.int .i64 1, .int .i64 0, .str [], .int .i64 0, .nilS]) := by kernel_rfl
theorem bF (s : List UInt8) (a b c d e : AV) : buildA Try.prog 41 [(0, .str s), (4, .agg [a, b, c, d, e])] = some (.agg [.str s, .nilS, .nilS, .nilS, a, b, c, d, e]) := by kernel_rfl
theorem bT : buildA Try.prog 46 [(0, .int .i64 7)] = some (.agg [.int .i64 7, .str [], .str [], .int .i64 0, .int .i64 0, .int .i64 0, .str [], .int .i64 0, .nilS, .int .i64 0, .int .i64 0, .str [], .int .i64 0, .nilS, .nilS, .nilS, .nilS]) := by kernel_rfl
theorem bW (a b c d e : AV) : buildA Try.prog 46 [(0, .int .i64 4), (5, .agg [a, b, c, d, e])] = some (.agg [.int .i64 4, .str [], .str [], .int .i64 0, .int .i64 0, .int .i64 0, .str [], .int .i64 0, .nilS, a, b, c, d, e, .nilS, .nilS, .nilS]) := by kernel_rfl
theorem bI (a b c d e : AV) (q : Nat) : buildA Try.prog 46 [(0, .int .i64 3), (5, .agg [a, b, c, d, e]), (8, .sl q 0 1 17)] = some (.agg [.int .i64 3, .str [], .str [], .int .i64 0, .int .i64 0, .int .i64 0, .str [], .int .i64 0, .nilS, a, b, c, d, e, .nilS, .nilS, .sl q 0 1 17]) := by kernel_rfl
theorem bC (q : Nat) : buildA Try.prog 39 [(0, .int .i64 5), (4, .sl q 0 3 5)] = some (.agg [.int .i64 5, .int .i64 0, .str [], .int .i64 0, .sl q 0 3 5]) := by kernel_rfl
theorem bP (q : Nat) : buildA Try.prog 25 [(1, .sl q 0 1 9)] = some (.agg [.nilS, .sl q 0 1 9]) := by kernel_rfl
theorem bsF1 (H : Hp) (a0 a1 a2 a3 a4 a5 a6 a7 a8 : AV) : buildSliceA Try.prog H 23 1 [(0, .agg [a0, a1, a2, a3, a4, a5, a6, a7, a8])] = some (.sl H.next 0 1 9, H.alloc (.cells [a0, a1, a2, a3, a4, a5, a6, a7, a8] 0 true)) := by kernel_rfl
theorem bsU1 (H : Hp) (n : Int) : buildSliceA Try.prog H 50 1 [(0, .int .u8 n)] = some (.sl H.next 0 1 1, H.alloc (.cells [.int .u8 n] 0 true)) := by kernel_rfl
theorem bsSt (H : Hp) (c0 c1 c2 c3 c4 c5 c6 c7 c8 c9 d0 d1 d2 d3 d4 d5 d6 : AV) : buildSliceA Try.prog H 36 1 [(0, .agg [c0, c1, c2, c3, c4, c5, c6, c7, c8, c9, d0, d1, d2, d3, d4, d5, d6])] = some (.sl H.next 0 1 17, H.alloc (.cells [c0, c1, c2, c3, c4, c5, c6, c7, c8, c9, d0, d1, d2, d3, d4, d5, d6] 0 true)) := by kernel_rfl
theorem bsE3 (H : Hp) (a0 a1 a2 a3 a4 b0 b1 b2 b3 b4 c0 c1 c2 c3 c4 : AV) : buildSliceA Try.prog H 37 3 [(0, .agg [a0, a1, a2, a3, a4]), (1, .agg [b0, b1, b2, b3, b4]), (2, .agg [c0, c1, c2, c3, c4])] = some (.sl H.next 0 3 5, H.alloc (.cells [a0, a1, a2, a3, a4, b0, b1, b2, b3, b4, c0, c1, c2, c3, c4] 0 true)) := by kernel_rfl
theorem ag9 (a0 a1 a2 a3 a4 a5 a6 a7 a8 : AV) : aggA 9 [a0, a1, a2, a3, a4, a5, a6, a7, a8] = some (.agg [a0, a1, a2, a3, a4, a5, a6, a7, a8]) := rfl
theorem cvU {H : Hp} {r : Nat} {n : Int} (hg : H.get r = some (.cells [.int .u8 n] 0 true)) : convertA Try.prog H 50 9 (.sl r 0 1 1) = some (.str [UInt8.ofNat n.toNat]) := by
  have hx : srcCells H 1 (.sl r 0 1 1) = some (1, [.int .u8 n]) := src_sl (H := H) (r := r) (o := 0) (n := 1) (z := 1) (s := 1) hg (by simp)
  simp only [convertA, Try.underlying50, Try.underlying9, Try.underlying5, hx]
  rfl
def num5 : List AV := [.int .i64 1, .int .i64 0, .str [], .int .i64 0, .nilS]
/-- The end of the law: the program's check. -/
structure AtL (H : Hp) (lv bv v0 v1 v2 v3 v4 : AV) (f : Fu) (n : Nat) : Prop where
  g1 : H.get 1 = some (.cells [.str [102], .nilS, lv, bv, v0, v1, v2, v3, v4] 0 true)
  l1 : 2 ≤ H.next
  hn : n < 57
  hf : f.name = [102] ∧ f.params = []
  h1 : RdW (fun q => 2 ≤ q) (n + 1) H lv (lstS f.locals)
  h2 : RdW (fun q => 2 ≤ q) (n + 1) H bv (.lst (f.body.map St.cells))
  h3 : CellsW (fun q => 2 ≤ q) (n + 1) H [v0, v1, v2, v3, v4] f.value.cells
theorem AtL.cells {H : Hp} {lv bv v0 v1 v2 v3 v4 : AV} {f : Fu} {n : Nat} (h : AtL H lv bv v0 v1 v2 v3 v4 f n) : CellsW (fun q => 2 ≤ q) (n + 2) (H.alloc (.cells [.str [102], .nilS, lv, bv, v0, v1, v2, v3, v4] 0 true)) [.nilS, .sl H.next 0 1 9] (Pr.mk [] [f]).cells := by
  obtain ⟨g1, l1, hn, ⟨hf1, hf2⟩, h1, h2, h3⟩ := h
  have hk : ∀ q, 2 ≤ q → q < H.next → (H.alloc (.cells [.str [102], .nilS, lv, bv, v0, v1, v2, v3, v4] 0 true)).get q = H.get q := fun q _ hq => by rw [Hp.get_alloc, if_neg (by omega)]
  have hc : CellsW (fun q => 2 ≤ q) (n + 1) (H.alloc (.cells [.str [102], .nilS, lv, bv, v0, v1, v2, v3, v4] 0 true)) [.str [102], .nilS, lv, bv, v0, v1, v2, v3, v4] f.cells :=
    fu_node [102] hf1 (by rw [hf2]; exact .nilS) (h1.keep (fun _ h => h) (Nat.le_succ _) hk) (h2.keep (fun _ h => h) (Nat.le_succ _) hk) (h3.keep (fun _ h => h) (Nat.le_succ _) hk)
  exact .cons .nilS (.cons (RdW.rows (n := n + 1) (a := [[.str [102], .nilS, lv, bv, v0, v1, v2, v3, v4]]) (imm := 0) (tip := true) l1 (Nat.lt_succ_self _) (by rw [Hp.get_alloc, if_pos rfl]; simp) (by simp) ⟨⟨rfl, hc⟩, trivial⟩) .nil)
set_option maxRecDepth 100000 in
set_option maxHeartbeats 32000000 in
theorem law (n which : Int) : WpCall Try.prog (cfgN pls levT) 6 [.int .i64 n, .int .i64 which] H0 fun v _ => v = .bool true := by
  have hw : Plain (cfgN pls levT) 6 := plainN (fun _ => rfl) rfl
  have hkeep : (cfgN pls levT).keep 6 = false := rfl
  have hp5 := pickG_range (n := which) (m := 5) (by omega) (by omega)
  have hp20 := pickG_range (n := n) (m := 20) (by omega) (by omega)
  have hp400 := pickG_range (n := n) (m := 400) (by omega) (by omega)
  have hp40 := pickG_range (n := n) (m := 40) (by omega) (by omega)
  have hp50 := pickG_range (n := n) (m := 50) (by omega) (by omega)
  refine WpCall.slim (M := 114) (rs := [.tmp 4]) (hw.call _) hw.ice hw.froz Try.func6 rfl rfl code6.2 rfl ?_; dsimp only [code6, envOf, Nat.reduceAdd]
  have gh0 := @bN
  have gh1 := @bF
  have gh2 := @bT
  have gh3 := @bsSt
  repeat' (first
     | (refine WpL.nil (hK _ _ ?_); clear hK K; try dsimp only [thenQ, blockQ]) | refine Rx.move (hk := ?_) | refine Rx.assign (hk := ?_) | refine Rx.load (hk := ?_) | refine Rx.bin (hk := ?_) | refine Rx.fieldAddr (hk := ?_) | refine Rx.pick (hk := ?_) | refine Rx.alloc (hk := ?_) | refine Rx.store (hk := ?_) | refine Rx.convert (hk := ?_) | refine Rx.build (hk := ?_) | refine Rx.buildSlice (hk := ?_) | (refine Rx.call (hk := ?_); simp only [List.cons_append, List.nil_append, List.append_nil]; refine WpCall.mono ?_ (pick_en (fun _ => rfl) _ _ (by decide) _); rintro _ _ ⟨rfl, rfl⟩; try dsimp only [setO]) | refine Rx.append (hk := ?_) | (refine Rx.guardU (hk := ?_); dsimp only [setO]) | (refine Rx.guard (h1 := fun hg => ?_) (h2 := fun hg => ?_) <;> (try simp only [Bool.not_true, Bool.not_false, reduceCtorEq] at hg) <;> (try (cases hg; done)) <;> (try have hgp := hg) <;> (try simp only [decide_eq_true_eq, decide_eq_false_iff_not] at hgp) <;> (try dsimp only [setO])) | (refine Rx.cond (h1 := fun hb => ?_) (h2 := fun hb => ?_) <;> (try simp only [Bool.not_true, Bool.not_false, reduceCtorEq] at hb) <;> (try (cases hb; done)) <;> (try have hbp := hb) <;> (try simp only [decide_eq_true_eq, decide_eq_false_iff_not] at hbp)) | refine Wp.seq ?_ | (refine Wp.ops' fun K hK => ?_) | refine Wp.block ?_ | (refine Wp.skip ?_; try dsimp only [thenQ, blockQ]) | (refine Wp.ret ?_; try dsimp only [thenQ, blockQ]) | (refine Wp.exit ?_; try simp only [thenQ, blockQ, reduceIte]))
  · -- case 0
    obtain ⟨N, hN⟩ : ∃ N : Nat, pickG n 20 = (N : Int) := ⟨(pickG n 20).toNat, by omega⟩
    have hNl : N < 20 := by omega
    have hgd := lim_good (k := 0) (i := N) (by omega) hNl
    clear hp5 hp20 hp400 hp40 hp50
    refine Wp.forI [0, 5, 6, 7] [0] 8 N (fun i E H => ∃ lv, H.get 1 = some (.cells [.str [102], .nilS, lv, .nilS, .int .i64 1, .int .i64 0, .str [], .int .i64 0, .nilS] 0 true) ∧ RowOwn (fun q => 2 ≤ q) 1 H 1 lv ((nmL i).map fun s => [.str s])) (by first | (simp only [sB, Nat.reduceBEq, *]; done) | rfl) ⟨.nilS, by rw [Hp.get_set, if_pos rfl], .inl ⟨rfl, rfl⟩⟩ ?_
    rintro i E H3 hi hcE hrH hnH hsI ⟨lv, g1, hJ⟩
    (try simp only [forall_cons, forall_nil, and_true, sB, sO, Nat.reduceBEq, Nat.reduceAdd, Nat.reduceLeDiff, tyF, *] at hcE)
    (try simp only [forall_cons, forall_nil, and_true, sB, sO, Nat.reduceBEq, Nat.reduceAdd, Nat.reduceLeDiff, tyF, *] at hrH)
    (try simp only [Hp.next_alloc, Hp.next_set, H0_next, Nat.zero_add, Nat.reduceAdd] at hnH)
    have hB0 : (0 == H3.next) = false := ne_beq (by omega)
    have hC0 : (H3.next == 0) = false := ne_beq (by omega)
    have h2 : 2 ≤ H3.next := by simpa using hnH
    obtain ⟨p1, p2⟩ := hJ.one
    repeat' (first
       | (refine WpL.nil (hK _ _ ?_); clear hK K; try dsimp only [thenQ, blockQ]) | refine Rx.move (hk := ?_) | refine Rx.assign (hk := ?_) | refine Rx.load (hk := ?_) | refine Rx.bin (hk := ?_) | refine Rx.fieldAddr (hk := ?_) | refine Rx.pick (hk := ?_) | refine Rx.alloc (hk := ?_) | refine Rx.store (hk := ?_) | refine Rx.convert (hk := ?_) | refine Rx.build (hk := ?_) | refine Rx.buildSlice (hk := ?_) | refine Rx.append (hk := ?_) | (refine Rx.guardU (hk := ?_); dsimp only [setO]) | (refine Rx.guard (h1 := fun hg => ?_) (h2 := fun hg => ?_) <;> (try simp only [Bool.not_true, Bool.not_false, reduceCtorEq] at hg) <;> (try (cases hg; done)) <;> (try have hgp := hg) <;> (try simp only [decide_eq_true_eq, decide_eq_false_iff_not] at hgp) <;> (try dsimp only [setO])) | (refine Rx.cond (h1 := fun hb => ?_) (h2 := fun hb => ?_) <;> (try simp only [Bool.not_true, Bool.not_false, reduceCtorEq] at hb) <;> (try (cases hb; done)) <;> (try have hbp := hb) <;> (try simp only [decide_eq_true_eq, decide_eq_false_iff_not] at hbp)) | refine Wp.seq ?_ | (refine Wp.ops' fun K hK => ?_) | refine Wp.block ?_ | (refine Wp.skip ?_; try dsimp only [thenQ, blockQ]) | (refine Wp.ret ?_; try dsimp only [thenQ, blockQ]) | (refine Wp.exit ?_; try simp only [thenQ, blockQ, reduceIte]))
    · have hlt : i < N := by omega
      have hw97 : IntKind.wrap .i64 (97 + (i : Int)) = 97 + (i : Int) := i64_id (by omega) (by omega)
      have hcv := fun H => cv3_5 H .i64 (97 + (i : Int))
      generalize hmm : IntKind.wrap .u8 (97 + (i : Int)) = mm at hcv
      have hmc : UInt8.ofNat mm.toNat = UInt8.ofNat (97 + i) := by rw [← hmm]; exact u8_at (by omega)
      have hg3 : (H3.alloc (.cells [.int .u8 mm] 0 true)).get H3.next = some (.cells [.int .u8 mm] 0 true) := by rw [Hp.get_alloc, if_pos rfl]
      have hcu := cvU hg3
      rw [hmc] at hcu
      have hcat : ∀ D t, binA Try.prog D .add t (.str [118]) (.str [UInt8.ofNat (97 + i)]) = some (.str [118, UInt8.ofNat (97 + i)]) := fun D t => bin_sadd (by simp [maxRoom])
      have hlv : ∀ q o m z', lv = .sl q o m z' → 2 ≤ q ∧ q < H3.next := fun q o m z' e => by
        rcases hJ with ⟨rfl, _⟩ | ⟨q', imm, rows, rfl, e1, e2, _⟩
        · cases e
        · simp only [AV.sl.injEq] at e
          rw [← e.1]; exact ⟨e1, e2⟩
      generalize hHb : (H3.alloc (.cells [.int .u8 mm] 0 true)).alloc (.cells [.str [118, UInt8.ofNat (97 + i)]] 0 true) = Hb
      have nb : Hb.next = H3.next + 2 := by rw [← hHb]; rfl
      have ob : ∀ q, q < H3.next → Hb.get q = H3.get q := fun q hq => by rw [← hHb, Hp.get_alloc, if_neg (by simp only [Hp.next_alloc]; omega), Hp.get_alloc, if_neg (by omega)]
      have gs : Hb.get (H3.next + 1) = some (.cells [.str [118, UInt8.ofNat (97 + i)]] 0 true) := by rw [← hHb, Hp.get_alloc, if_pos (by rfl)]
      obtain ⟨v5, H5, a5, s5, n5, f5, q5⟩ := RowOwn.push (P := Try.prog) (t := 35) Try.underlying35 sz9 bt9 zr9 rfl (by kernel_rfl)  (hJ.keep (fun _ _ h => h) (by omega) fun q h1 h2 => ob q h2) (by omega) (r := H3.next + 1) (imm := 0) (row := [.str [118, UInt8.ofNat (97 + i)]]) (w := [.str [118, UInt8.ofNat (97 + i)]]) gs rfl rfl (CellsW.strs _) (by simp [nmL, maxRoom]; omega) (by simp [nmL, maxRoom]; omega)
      obtain ⟨t1, t2⟩ := s5.one
      have g5 : H5.get 1 = some (.cells [.str [102], .nilS, lv, .nilS, .int .i64 1, .int .i64 0, .str [], .int .i64 0, .nilS] 0 true) := by rw [f5 _ (by omega) (fun o m z' e => by have := hlv _ o m z' e; omega), ob _ (by omega)]; exact g1
      have g50 : H5.get 0 = some (.cells [.int .i64 1, .int .i64 0, .str [], .int .i64 0, .nilS] 0 true) := by rw [f5 _ (by omega) (fun o m z' e => by have := hlv _ o m z' e; omega), ob _ (by omega)]; exact hrH
      have n5' : H3.next ≤ H5.next := by omega
      clear f5 q5 n5 hlv gs hJ
      rw [← hHb] at a5
      clear hHb ob nb
      have gh0 := @bsU1
      repeat' (first
         | (refine WpL.nil (hK _ _ ?_); clear hK K; try dsimp only [thenQ, blockQ]) | refine Rx.move (hk := ?_) | refine Rx.assign (hk := ?_) | refine Rx.load (hk := ?_) | refine Rx.bin (hk := ?_) | refine Rx.fieldAddr (hk := ?_) | refine Rx.pick (hk := ?_) | refine Rx.alloc (hk := ?_) | refine Rx.store (hk := ?_) | refine Rx.convert (hk := ?_) | refine Rx.build (hk := ?_) | refine Rx.buildSlice (hk := ?_) | refine Rx.append (hk := ?_) | (refine Rx.guardU (hk := ?_); dsimp only [setO]) | (refine Rx.guard (h1 := fun hg => ?_) (h2 := fun hg => ?_) <;> (try simp only [Bool.not_true, Bool.not_false, reduceCtorEq] at hg) <;> (try (cases hg; done)) <;> (try have hgp := hg) <;> (try simp only [decide_eq_true_eq, decide_eq_false_iff_not] at hgp) <;> (try dsimp only [setO])) | (refine Rx.cond (h1 := fun hb => ?_) (h2 := fun hb => ?_) <;> (try simp only [Bool.not_true, Bool.not_false, reduceCtorEq] at hb) <;> (try (cases hb; done)) <;> (try have hbp := hb) <;> (try simp only [decide_eq_true_eq, decide_eq_false_iff_not] at hbp)) | refine Wp.seq ?_ | (refine Wp.ops' fun K hK => ?_) | refine Wp.block ?_ | (refine Wp.skip ?_; try dsimp only [thenQ, blockQ]) | (refine Wp.ret ?_; try dsimp only [thenQ, blockQ]) | (refine Wp.exit ?_; try simp only [thenQ, blockQ, reduceIte]))
      refine ⟨by omega, (by simp only [forall_cons, forall_nil, and_true, sB, sO, Nat.reduceBEq, Nat.reduceAdd, Nat.reduceLeDiff, tyF, g50, *]), (by simp only [forall_cons, forall_nil, and_true, sB, sO, Nat.reduceBEq, Nat.reduceAdd, Nat.reduceLeDiff, tyF, g50, *]), by (try simp only [Hp.next_alloc, Hp.next_set, H0_next, Nat.zero_add, Nat.reduceAdd]); omega, (by simp only [sB, Nat.reduceBEq, *]; exact i64_succ (n := N) (by omega) (by omega)), ?_⟩
      refine ⟨v5, by rw [Hp.get_set, if_pos rfl], ?_⟩
      have hnm : (nmL (i + 1)).map (fun s => [AV.str s]) = (nmL i).map (fun s => [AV.str s]) ++ [[AV.str [118, UInt8.ofNat (97 + i)]]] := by simp [nmL, List.range_succ]
      rw [hnm]
      exact s5.keep (fun _ _ h => h) (Nat.le_refl _) fun q h1 h2 => by rw [Hp.get_set, if_neg (by omega)]
    all_goals
      have hie : i = N := by omega
      subst hie
      have hat : AtL H3 lv .nilS (.int .i64 1) (.int .i64 0) (.str []) (.int .i64 0) .nilS (limF 0 i) 1 := ⟨g1, h2, by omega, ⟨rfl, rfl⟩, hJ.rd, .nilS, ex_leaf 1 0 0 []⟩
      have hcl := hat.cells
      have hgc := hat.g1
      clear hi hsI hJ
      have gh0 := @ag9
      have gh1 := @bsF1
      have gh2 := @bP
      repeat' (first
         | (refine WpL.nil (hK _ _ ?_); clear hK K; try dsimp only [thenQ, blockQ]) | refine Rx.move (hk := ?_) | refine Rx.assign (hk := ?_) | refine Rx.load (hk := ?_) | refine Rx.bin (hk := ?_) | refine Rx.fieldAddr (hk := ?_) | refine Rx.pick (hk := ?_) | refine Rx.alloc (hk := ?_) | refine Rx.store (hk := ?_) | refine Rx.convert (hk := ?_) | refine Rx.build (hk := ?_) | refine Rx.buildSlice (hk := ?_) | refine Rx.append (hk := ?_) | (refine Rx.guardU (hk := ?_); dsimp only [setO]) | (refine Rx.guard (h1 := fun hg => ?_) (h2 := fun hg => ?_) <;> (try simp only [Bool.not_true, Bool.not_false, reduceCtorEq] at hg) <;> (try (cases hg; done)) <;> (try have hgp := hg) <;> (try simp only [decide_eq_true_eq, decide_eq_false_iff_not] at hgp) <;> (try dsimp only [setO])) | (refine Rx.cond (h1 := fun hb => ?_) (h2 := fun hb => ?_) <;> (try simp only [Bool.not_true, Bool.not_false, reduceCtorEq] at hb) <;> (try (cases hb; done)) <;> (try have hbp := hb) <;> (try simp only [decide_eq_true_eq, decide_eq_false_iff_not] at hbp)) | refine Wp.seq ?_ | (refine Wp.ops' fun K hK => ?_) | refine Wp.block ?_ | (refine Wp.skip ?_; try dsimp only [thenQ, blockQ]) | (refine Wp.ret ?_; try dsimp only [thenQ, blockQ]) | (refine Wp.exit ?_; try simp only [thenQ, blockQ, reduceIte]))
      refine WpL.call rfl (by (try simp only [sB, Nat.reduceBEq, *, -hK]); first | done | with_reducible rfl) (by (try simp only [sB, Nat.reduceBEq, aevals, List.cons_append, List.nil_append, *, -hK]); first | done | with_reducible rfl) ?_; simp only [List.cons_append, List.nil_append, List.append_nil]
      refine WpCall.mono ?_ (checkM (p := limPr 0 i) (fun _ => rfl) rfl (by have := hat.hn; omega) hcl (List.mem_cons_of_mem _ List.mem_cons_self) hgd.2)
      rintro v H5 ⟨rfl, hy⟩
      clear hcl hat hgc hy
      first
      | (have hrc : refCheck (limPr 0 i) = 6 := by rw [hgd.1, if_pos (by show 8 < i; omega)])
      | (have hrc : refCheck (limPr 0 i) = 0 := by rw [hgd.1, if_neg (by show ¬ 8 < i; omega)])
      clear hgd
      dsimp only [setO]
      repeat' (first
         | (refine WpL.nil (hK _ _ ?_); clear hK K; try dsimp only [thenQ, blockQ]) | refine Ry.move (hk := ?_) | refine Ry.assign (hk := ?_) | refine Ry.load (hk := ?_) | refine Ry.bin (hk := ?_) | refine Ry.fieldAddr (hk := ?_) | refine Ry.pick (hk := ?_) | refine Ry.alloc (hk := ?_) | refine Ry.store (hk := ?_) | refine Ry.convert (hk := ?_) | refine Ry.build (hk := ?_) | refine Ry.buildSlice (hk := ?_) | (refine Ry.call (hk := ?_); simp only [List.cons_append, List.nil_append, List.append_nil]; refine WpCall.mono ?_ (kT _); rintro _ _ ⟨rfl, rfl⟩; try dsimp only [setO]) | refine Ry.append (hk := ?_) | (refine Ry.guardU (hk := ?_); dsimp only [setO]) | (refine Ry.guard (h1 := fun hg => ?_) (h2 := fun hg => ?_) <;> (try simp only [Bool.not_true, Bool.not_false, reduceCtorEq] at hg) <;> (try (cases hg; done)) <;> (try have hgp := hg) <;> (try simp only [decide_eq_true_eq, decide_eq_false_iff_not] at hgp) <;> (try dsimp only [setO])) | (refine Ry.cond (h1 := fun hb => ?_) (h2 := fun hb => ?_) <;> (try simp only [Bool.not_true, Bool.not_false, reduceCtorEq] at hb) <;> (try (cases hb; done)) <;> (try have hbp := hb) <;> (try simp only [decide_eq_true_eq, decide_eq_false_iff_not] at hbp)) | refine Wp.seq ?_ | (refine Wp.ops' fun K hK => ?_) | refine Wp.block ?_ | (refine Wp.skip ?_; try dsimp only [thenQ, blockQ]) | (refine Wp.ret ?_; try dsimp only [thenQ, blockQ]) | (refine Wp.exit ?_; try simp only [thenQ, blockQ, reduceIte]))
      all_goals (refine ⟨by first | exact .inl rfl | exact .inr rfl | exact .inl trivial | exact .inr trivial, _, (by (try simp only [sB, Nat.reduceBEq, resultsA, resultA, *]); first | done | with_reducible rfl), ?_⟩; try simp only [oneOr])
  · -- case 1
    obtain ⟨N, hN⟩ : ∃ N : Nat, pickG n 400 = (N : Int) := ⟨(pickG n 400).toNat, by omega⟩
    have hNl : N < 400 := by omega
    have hgd := lim_good (k := 1) (i := N) (by omega) hNl
    clear hp5 hp20 hp400 hp40 hp50
    refine Wp.forI [0, 5, 6, 7] [0] 9 N (fun i E H => ∃ lv, H.get 1 = some (.cells [.str [102], .nilS, .nilS, lv, .int .i64 1, .int .i64 0, .str [], .int .i64 0, .nilS] 0 true) ∧ RowOwn (fun q => 2 ≤ q) 1 H 17 lv ((List.replicate i trapS).map St.cells)) (by first | (simp only [sB, Nat.reduceBEq, *]; done) | rfl) ⟨.nilS, by rw [Hp.get_set, if_pos rfl], .inl ⟨rfl, rfl⟩⟩ ?_
    rintro i E H3 hi hcE hrH hnH hsI ⟨lv, g1, hJ⟩
    (try simp only [forall_cons, forall_nil, and_true, sB, sO, Nat.reduceBEq, Nat.reduceAdd, Nat.reduceLeDiff, tyF, *] at hcE)
    (try simp only [forall_cons, forall_nil, and_true, sB, sO, Nat.reduceBEq, Nat.reduceAdd, Nat.reduceLeDiff, tyF, *] at hrH)
    (try simp only [Hp.next_alloc, Hp.next_set, H0_next, Nat.zero_add, Nat.reduceAdd] at hnH)
    have hB0 : (0 == H3.next) = false := ne_beq (by omega)
    have hC0 : (H3.next == 0) = false := ne_beq (by omega)
    have h2 : 2 ≤ H3.next := by simpa using hnH
    obtain ⟨p1, p2⟩ := hJ.one
    repeat' (first
       | (refine WpL.nil (hK _ _ ?_); clear hK K; try dsimp only [thenQ, blockQ]) | refine Rx.move (hk := ?_) | refine Rx.assign (hk := ?_) | refine Rx.load (hk := ?_) | refine Rx.bin (hk := ?_) | refine Rx.fieldAddr (hk := ?_) | refine Rx.pick (hk := ?_) | refine Rx.alloc (hk := ?_) | refine Rx.store (hk := ?_) | refine Rx.convert (hk := ?_) | refine Rx.build (hk := ?_) | refine Rx.buildSlice (hk := ?_) | refine Rx.append (hk := ?_) | (refine Rx.guardU (hk := ?_); dsimp only [setO]) | (refine Rx.guard (h1 := fun hg => ?_) (h2 := fun hg => ?_) <;> (try simp only [Bool.not_true, Bool.not_false, reduceCtorEq] at hg) <;> (try (cases hg; done)) <;> (try have hgp := hg) <;> (try simp only [decide_eq_true_eq, decide_eq_false_iff_not] at hgp) <;> (try dsimp only [setO])) | (refine Rx.cond (h1 := fun hb => ?_) (h2 := fun hb => ?_) <;> (try simp only [Bool.not_true, Bool.not_false, reduceCtorEq] at hb) <;> (try (cases hb; done)) <;> (try have hbp := hb) <;> (try simp only [decide_eq_true_eq, decide_eq_false_iff_not] at hbp)) | refine Wp.seq ?_ | (refine Wp.ops' fun K hK => ?_) | refine Wp.block ?_ | (refine Wp.skip ?_; try dsimp only [thenQ, blockQ]) | (refine Wp.ret ?_; try dsimp only [thenQ, blockQ]) | (refine Wp.exit ?_; try simp only [thenQ, blockQ, reduceIte]))
    · have hlt : i < N := by omega
      have hlv : ∀ q o m z', lv = .sl q o m z' → 2 ≤ q ∧ q < H3.next := fun q o m z' e => by
        rcases hJ with ⟨rfl, _⟩ | ⟨q', imm, rows, rfl, e1, e2, _⟩
        · cases e
        · simp only [AV.sl.injEq] at e
          rw [← e.1]; exact ⟨e1, e2⟩
      have ob : ∀ q, q < H3.next → (H3.alloc (.cells [.int .i64 7, .str [], .str [], .int .i64 0, .int .i64 0, .int .i64 0, .str [], .int .i64 0, .nilS, .int .i64 0, .int .i64 0, .str [], .int .i64 0, .nilS, .nilS, .nilS, .nilS] 0 true)).get q = H3.get q := fun q hq => by rw [Hp.get_alloc, if_neg (by omega)]
      obtain ⟨v5, H5, a5, s5, n5, f5, q5⟩ := RowOwn.push (P := Try.prog) (t := 36) Try.underlying36 sz46 bt46 zr46 rfl (by kernel_rfl)  (hJ.keep (fun _ _ h => h) (Nat.le_succ _) fun q h1 h2 => ob q h2) (by simp only [Hp.next_alloc]; omega) (r := H3.next) (imm := 0) (row := [.int .i64 7, .str [], .str [], .int .i64 0, .int .i64 0, .int .i64 0, .str [], .int .i64 0, .nilS, .int .i64 0, .int .i64 0, .str [], .int .i64 0, .nilS, .nilS, .nilS, .nilS]) (w := (trapS).cells) (by rw [Hp.get_alloc, if_pos rfl]) rfl rfl (st_node (n := 0) 7 [] [] 0 zC_w zC_w .nilS .nilS .nilS) (by simp [maxRoom]; omega) (by simp [maxRoom]; omega)
      simp only [Hp.next_alloc] at n5 f5
      obtain ⟨t1, t2⟩ := s5.one
      have g5 : H5.get 1 = some (.cells [.str [102], .nilS, .nilS, lv, .int .i64 1, .int .i64 0, .str [], .int .i64 0, .nilS] 0 true) := by rw [f5 _ (by omega) (fun o m z' e => by have := hlv _ o m z' e; omega), ob _ (by omega)]; exact g1
      have g50 : H5.get 0 = some (.cells [.int .i64 1, .int .i64 0, .str [], .int .i64 0, .nilS] 0 true) := by rw [f5 _ (by omega) (fun o m z' e => by have := hlv _ o m z' e; omega), ob _ (by omega)]; exact hrH
      have n5' : H3.next ≤ H5.next := by omega
      clear f5 q5 n5 hlv hJ ob
      have gh0 := @bT
      have gh1 := @bsSt
      repeat' (first
         | (refine WpL.nil (hK _ _ ?_); clear hK K; try dsimp only [thenQ, blockQ]) | refine Rx.move (hk := ?_) | refine Rx.assign (hk := ?_) | refine Rx.load (hk := ?_) | refine Rx.bin (hk := ?_) | refine Rx.fieldAddr (hk := ?_) | refine Rx.pick (hk := ?_) | refine Rx.alloc (hk := ?_) | refine Rx.store (hk := ?_) | refine Rx.convert (hk := ?_) | refine Rx.build (hk := ?_) | refine Rx.buildSlice (hk := ?_) | refine Rx.append (hk := ?_) | (refine Rx.guardU (hk := ?_); dsimp only [setO]) | (refine Rx.guard (h1 := fun hg => ?_) (h2 := fun hg => ?_) <;> (try simp only [Bool.not_true, Bool.not_false, reduceCtorEq] at hg) <;> (try (cases hg; done)) <;> (try have hgp := hg) <;> (try simp only [decide_eq_true_eq, decide_eq_false_iff_not] at hgp) <;> (try dsimp only [setO])) | (refine Rx.cond (h1 := fun hb => ?_) (h2 := fun hb => ?_) <;> (try simp only [Bool.not_true, Bool.not_false, reduceCtorEq] at hb) <;> (try (cases hb; done)) <;> (try have hbp := hb) <;> (try simp only [decide_eq_true_eq, decide_eq_false_iff_not] at hbp)) | refine Wp.seq ?_ | (refine Wp.ops' fun K hK => ?_) | refine Wp.block ?_ | (refine Wp.skip ?_; try dsimp only [thenQ, blockQ]) | (refine Wp.ret ?_; try dsimp only [thenQ, blockQ]) | (refine Wp.exit ?_; try simp only [thenQ, blockQ, reduceIte]))
      refine ⟨by omega, (by simp only [forall_cons, forall_nil, and_true, sB, sO, Nat.reduceBEq, Nat.reduceAdd, Nat.reduceLeDiff, tyF, g50, *]), (by simp only [forall_cons, forall_nil, and_true, sB, sO, Nat.reduceBEq, Nat.reduceAdd, Nat.reduceLeDiff, tyF, g50, *]), by (try simp only [Hp.next_alloc, Hp.next_set, H0_next, Nat.zero_add, Nat.reduceAdd]); omega, (by simp only [sB, Nat.reduceBEq, *]; exact i64_succ (n := N) (by omega) (by omega)), ?_⟩
      refine ⟨v5, by rw [Hp.get_set, if_pos rfl], ?_⟩
      have hnm : (List.replicate (i + 1) trapS).map St.cells = (List.replicate i trapS).map St.cells ++ [(trapS).cells] := by rw [List.replicate_succ', List.map_append]; rfl
      rw [hnm]
      exact s5.keep (fun _ _ h => h) (Nat.le_refl _) fun q h1 h2 => by rw [Hp.get_set, if_neg (by omega)]
    all_goals
      have hie : i = N := by omega
      subst hie
      have hat : AtL H3 .nilS lv (.int .i64 1) (.int .i64 0) (.str []) (.int .i64 0) .nilS (limF 1 i) 1 := ⟨g1, h2, by omega, ⟨rfl, rfl⟩, .nilS, hJ.rd, ex_leaf 1 0 0 []⟩
      have hcl := hat.cells
      have hgc := hat.g1
      clear hi hsI hJ
      have gh0 := @ag9
      have gh1 := @bsF1
      have gh2 := @bP
      repeat' (first
         | (refine WpL.nil (hK _ _ ?_); clear hK K; try dsimp only [thenQ, blockQ]) | refine Rx.move (hk := ?_) | refine Rx.assign (hk := ?_) | refine Rx.load (hk := ?_) | refine Rx.bin (hk := ?_) | refine Rx.fieldAddr (hk := ?_) | refine Rx.pick (hk := ?_) | refine Rx.alloc (hk := ?_) | refine Rx.store (hk := ?_) | refine Rx.convert (hk := ?_) | refine Rx.build (hk := ?_) | refine Rx.buildSlice (hk := ?_) | refine Rx.append (hk := ?_) | (refine Rx.guardU (hk := ?_); dsimp only [setO]) | (refine Rx.guard (h1 := fun hg => ?_) (h2 := fun hg => ?_) <;> (try simp only [Bool.not_true, Bool.not_false, reduceCtorEq] at hg) <;> (try (cases hg; done)) <;> (try have hgp := hg) <;> (try simp only [decide_eq_true_eq, decide_eq_false_iff_not] at hgp) <;> (try dsimp only [setO])) | (refine Rx.cond (h1 := fun hb => ?_) (h2 := fun hb => ?_) <;> (try simp only [Bool.not_true, Bool.not_false, reduceCtorEq] at hb) <;> (try (cases hb; done)) <;> (try have hbp := hb) <;> (try simp only [decide_eq_true_eq, decide_eq_false_iff_not] at hbp)) | refine Wp.seq ?_ | (refine Wp.ops' fun K hK => ?_) | refine Wp.block ?_ | (refine Wp.skip ?_; try dsimp only [thenQ, blockQ]) | (refine Wp.ret ?_; try dsimp only [thenQ, blockQ]) | (refine Wp.exit ?_; try simp only [thenQ, blockQ, reduceIte]))
      refine WpL.call rfl (by (try simp only [sB, Nat.reduceBEq, *, -hK]); first | done | with_reducible rfl) (by (try simp only [sB, Nat.reduceBEq, aevals, List.cons_append, List.nil_append, *, -hK]); first | done | with_reducible rfl) ?_; simp only [List.cons_append, List.nil_append, List.append_nil]
      refine WpCall.mono ?_ (checkM (p := limPr 1 i) (fun _ => rfl) rfl (by have := hat.hn; omega) hcl (List.mem_cons_of_mem _ List.mem_cons_self) hgd.2)
      rintro v H5 ⟨rfl, hy⟩
      clear hcl hat hgc hy
      first
      | (have hrc : refCheck (limPr 1 i) = 6 := by rw [hgd.1, if_pos (by show 200 < i; omega)])
      | (have hrc : refCheck (limPr 1 i) = 0 := by rw [hgd.1, if_neg (by show ¬ 200 < i; omega)])
      clear hgd
      dsimp only [setO]
      repeat' (first
         | (refine WpL.nil (hK _ _ ?_); clear hK K; try dsimp only [thenQ, blockQ]) | refine Ry.move (hk := ?_) | refine Ry.assign (hk := ?_) | refine Ry.load (hk := ?_) | refine Ry.bin (hk := ?_) | refine Ry.fieldAddr (hk := ?_) | refine Ry.pick (hk := ?_) | refine Ry.alloc (hk := ?_) | refine Ry.store (hk := ?_) | refine Ry.convert (hk := ?_) | refine Ry.build (hk := ?_) | refine Ry.buildSlice (hk := ?_) | (refine Ry.call (hk := ?_); simp only [List.cons_append, List.nil_append, List.append_nil]; refine WpCall.mono ?_ (kT _); rintro _ _ ⟨rfl, rfl⟩; try dsimp only [setO]) | refine Ry.append (hk := ?_) | (refine Ry.guardU (hk := ?_); dsimp only [setO]) | (refine Ry.guard (h1 := fun hg => ?_) (h2 := fun hg => ?_) <;> (try simp only [Bool.not_true, Bool.not_false, reduceCtorEq] at hg) <;> (try (cases hg; done)) <;> (try have hgp := hg) <;> (try simp only [decide_eq_true_eq, decide_eq_false_iff_not] at hgp) <;> (try dsimp only [setO])) | (refine Ry.cond (h1 := fun hb => ?_) (h2 := fun hb => ?_) <;> (try simp only [Bool.not_true, Bool.not_false, reduceCtorEq] at hb) <;> (try (cases hb; done)) <;> (try have hbp := hb) <;> (try simp only [decide_eq_true_eq, decide_eq_false_iff_not] at hbp)) | refine Wp.seq ?_ | (refine Wp.ops' fun K hK => ?_) | refine Wp.block ?_ | (refine Wp.skip ?_; try dsimp only [thenQ, blockQ]) | (refine Wp.ret ?_; try dsimp only [thenQ, blockQ]) | (refine Wp.exit ?_; try simp only [thenQ, blockQ, reduceIte]))
      all_goals (refine ⟨by first | exact .inl rfl | exact .inr rfl | exact .inl trivial | exact .inr trivial, _, (by (try simp only [sB, Nat.reduceBEq, resultsA, resultA, *]); first | done | with_reducible rfl), ?_⟩; try simp only [oneOr])
  · -- case 2
    obtain ⟨N, hN⟩ : ∃ N : Nat, pickG n 40 = (N : Int) := ⟨(pickG n 40).toNat, by omega⟩
    have hNl : N < 40 := by omega
    have hgd := lim_good (k := 2) (i := N) (by omega) hNl
    clear hp5 hp20 hp400 hp40 hp50
    refine Wp.forI [0, 5, 6, 7] [0] 10 N (fun i E H => ∃ lv, H.get 1 = some (.cells [.str [102], .nilS, .nilS, lv, .int .i64 1, .int .i64 0, .str [], .int .i64 0, .nilS] 0 true) ∧ RowOwn (fun q => 2 ≤ q) 1 H 17 lv ((List.replicate i whileS).map St.cells)) (by first | (simp only [sB, Nat.reduceBEq, *]; done) | rfl) ⟨.nilS, by rw [Hp.get_set, if_pos rfl], .inl ⟨rfl, rfl⟩⟩ ?_
    rintro i E H3 hi hcE hrH hnH hsI ⟨lv, g1, hJ⟩
    (try simp only [forall_cons, forall_nil, and_true, sB, sO, Nat.reduceBEq, Nat.reduceAdd, Nat.reduceLeDiff, tyF, *] at hcE)
    (try simp only [forall_cons, forall_nil, and_true, sB, sO, Nat.reduceBEq, Nat.reduceAdd, Nat.reduceLeDiff, tyF, *] at hrH)
    (try simp only [Hp.next_alloc, Hp.next_set, H0_next, Nat.zero_add, Nat.reduceAdd] at hnH)
    have hB0 : (0 == H3.next) = false := ne_beq (by omega)
    have hC0 : (H3.next == 0) = false := ne_beq (by omega)
    have h2 : 2 ≤ H3.next := by simpa using hnH
    obtain ⟨p1, p2⟩ := hJ.one
    repeat' (first
       | (refine WpL.nil (hK _ _ ?_); clear hK K; try dsimp only [thenQ, blockQ]) | refine Rx.move (hk := ?_) | refine Rx.assign (hk := ?_) | refine Rx.load (hk := ?_) | refine Rx.bin (hk := ?_) | refine Rx.fieldAddr (hk := ?_) | refine Rx.pick (hk := ?_) | refine Rx.alloc (hk := ?_) | refine Rx.store (hk := ?_) | refine Rx.convert (hk := ?_) | refine Rx.build (hk := ?_) | refine Rx.buildSlice (hk := ?_) | refine Rx.append (hk := ?_) | (refine Rx.guardU (hk := ?_); dsimp only [setO]) | (refine Rx.guard (h1 := fun hg => ?_) (h2 := fun hg => ?_) <;> (try simp only [Bool.not_true, Bool.not_false, reduceCtorEq] at hg) <;> (try (cases hg; done)) <;> (try have hgp := hg) <;> (try simp only [decide_eq_true_eq, decide_eq_false_iff_not] at hgp) <;> (try dsimp only [setO])) | (refine Rx.cond (h1 := fun hb => ?_) (h2 := fun hb => ?_) <;> (try simp only [Bool.not_true, Bool.not_false, reduceCtorEq] at hb) <;> (try (cases hb; done)) <;> (try have hbp := hb) <;> (try simp only [decide_eq_true_eq, decide_eq_false_iff_not] at hbp)) | refine Wp.seq ?_ | (refine Wp.ops' fun K hK => ?_) | refine Wp.block ?_ | (refine Wp.skip ?_; try dsimp only [thenQ, blockQ]) | (refine Wp.ret ?_; try dsimp only [thenQ, blockQ]) | (refine Wp.exit ?_; try simp only [thenQ, blockQ, reduceIte]))
    · have hlt : i < N := by omega
      have hlv : ∀ q o m z', lv = .sl q o m z' → 2 ≤ q ∧ q < H3.next := fun q o m z' e => by
        rcases hJ with ⟨rfl, _⟩ | ⟨q', imm, rows, rfl, e1, e2, _⟩
        · cases e
        · simp only [AV.sl.injEq] at e
          rw [← e.1]; exact ⟨e1, e2⟩
      have ob : ∀ q, q < H3.next → (H3.alloc (.cells [.int .i64 4, .str [], .str [], .int .i64 0, .int .i64 0, .int .i64 0, .str [], .int .i64 0, .nilS, .int .i64 1, .int .i64 0, .str [], .int .i64 0, .nilS, .nilS, .nilS, .nilS] 0 true)).get q = H3.get q := fun q hq => by rw [Hp.get_alloc, if_neg (by omega)]
      obtain ⟨v5, H5, a5, s5, n5, f5, q5⟩ := RowOwn.push (P := Try.prog) (t := 36) Try.underlying36 sz46 bt46 zr46 rfl (by kernel_rfl)  (hJ.keep (fun _ _ h => h) (Nat.le_succ _) fun q h1 h2 => ob q h2) (by simp only [Hp.next_alloc]; omega) (r := H3.next) (imm := 0) (row := [.int .i64 4, .str [], .str [], .int .i64 0, .int .i64 0, .int .i64 0, .str [], .int .i64 0, .nilS, .int .i64 1, .int .i64 0, .str [], .int .i64 0, .nilS, .nilS, .nilS, .nilS]) (w := (whileS).cells) (by rw [Hp.get_alloc, if_pos rfl]) rfl rfl (st_node (n := 0) 4 [] [] 0 zC_w (ex_leaf 1 0 0 []) .nilS .nilS .nilS) (by simp [maxRoom]; omega) (by simp [maxRoom]; omega)
      simp only [Hp.next_alloc] at n5 f5
      obtain ⟨t1, t2⟩ := s5.one
      have g5 : H5.get 1 = some (.cells [.str [102], .nilS, .nilS, lv, .int .i64 1, .int .i64 0, .str [], .int .i64 0, .nilS] 0 true) := by rw [f5 _ (by omega) (fun o m z' e => by have := hlv _ o m z' e; omega), ob _ (by omega)]; exact g1
      have g50 : H5.get 0 = some (.cells [.int .i64 1, .int .i64 0, .str [], .int .i64 0, .nilS] 0 true) := by rw [f5 _ (by omega) (fun o m z' e => by have := hlv _ o m z' e; omega), ob _ (by omega)]; exact hrH
      have n5' : H3.next ≤ H5.next := by omega
      clear f5 q5 n5 hlv hJ ob
      have gh0 := @bW
      have gh1 := @bsSt
      repeat' (first
         | (refine WpL.nil (hK _ _ ?_); clear hK K; try dsimp only [thenQ, blockQ]) | refine Rx.move (hk := ?_) | refine Rx.assign (hk := ?_) | refine Rx.load (hk := ?_) | refine Rx.bin (hk := ?_) | refine Rx.fieldAddr (hk := ?_) | refine Rx.pick (hk := ?_) | refine Rx.alloc (hk := ?_) | refine Rx.store (hk := ?_) | refine Rx.convert (hk := ?_) | refine Rx.build (hk := ?_) | refine Rx.buildSlice (hk := ?_) | refine Rx.append (hk := ?_) | (refine Rx.guardU (hk := ?_); dsimp only [setO]) | (refine Rx.guard (h1 := fun hg => ?_) (h2 := fun hg => ?_) <;> (try simp only [Bool.not_true, Bool.not_false, reduceCtorEq] at hg) <;> (try (cases hg; done)) <;> (try have hgp := hg) <;> (try simp only [decide_eq_true_eq, decide_eq_false_iff_not] at hgp) <;> (try dsimp only [setO])) | (refine Rx.cond (h1 := fun hb => ?_) (h2 := fun hb => ?_) <;> (try simp only [Bool.not_true, Bool.not_false, reduceCtorEq] at hb) <;> (try (cases hb; done)) <;> (try have hbp := hb) <;> (try simp only [decide_eq_true_eq, decide_eq_false_iff_not] at hbp)) | refine Wp.seq ?_ | (refine Wp.ops' fun K hK => ?_) | refine Wp.block ?_ | (refine Wp.skip ?_; try dsimp only [thenQ, blockQ]) | (refine Wp.ret ?_; try dsimp only [thenQ, blockQ]) | (refine Wp.exit ?_; try simp only [thenQ, blockQ, reduceIte]))
      refine ⟨by omega, (by simp only [forall_cons, forall_nil, and_true, sB, sO, Nat.reduceBEq, Nat.reduceAdd, Nat.reduceLeDiff, tyF, g50, *]), (by simp only [forall_cons, forall_nil, and_true, sB, sO, Nat.reduceBEq, Nat.reduceAdd, Nat.reduceLeDiff, tyF, g50, *]), by (try simp only [Hp.next_alloc, Hp.next_set, H0_next, Nat.zero_add, Nat.reduceAdd]); omega, (by simp only [sB, Nat.reduceBEq, *]; exact i64_succ (n := N) (by omega) (by omega)), ?_⟩
      refine ⟨v5, by rw [Hp.get_set, if_pos rfl], ?_⟩
      have hnm : (List.replicate (i + 1) whileS).map St.cells = (List.replicate i whileS).map St.cells ++ [(whileS).cells] := by rw [List.replicate_succ', List.map_append]; rfl
      rw [hnm]
      exact s5.keep (fun _ _ h => h) (Nat.le_refl _) fun q h1 h2 => by rw [Hp.get_set, if_neg (by omega)]
    all_goals
      have hie : i = N := by omega
      subst hie
      have hat : AtL H3 .nilS lv (.int .i64 1) (.int .i64 0) (.str []) (.int .i64 0) .nilS (limF 2 i) 1 := ⟨g1, h2, by omega, ⟨rfl, rfl⟩, .nilS, hJ.rd, ex_leaf 1 0 0 []⟩
      have hcl := hat.cells
      have hgc := hat.g1
      clear hi hsI hJ
      have gh0 := @ag9
      have gh1 := @bsF1
      have gh2 := @bP
      repeat' (first
         | (refine WpL.nil (hK _ _ ?_); clear hK K; try dsimp only [thenQ, blockQ]) | refine Rx.move (hk := ?_) | refine Rx.assign (hk := ?_) | refine Rx.load (hk := ?_) | refine Rx.bin (hk := ?_) | refine Rx.fieldAddr (hk := ?_) | refine Rx.pick (hk := ?_) | refine Rx.alloc (hk := ?_) | refine Rx.store (hk := ?_) | refine Rx.convert (hk := ?_) | refine Rx.build (hk := ?_) | refine Rx.buildSlice (hk := ?_) | refine Rx.append (hk := ?_) | (refine Rx.guardU (hk := ?_); dsimp only [setO]) | (refine Rx.guard (h1 := fun hg => ?_) (h2 := fun hg => ?_) <;> (try simp only [Bool.not_true, Bool.not_false, reduceCtorEq] at hg) <;> (try (cases hg; done)) <;> (try have hgp := hg) <;> (try simp only [decide_eq_true_eq, decide_eq_false_iff_not] at hgp) <;> (try dsimp only [setO])) | (refine Rx.cond (h1 := fun hb => ?_) (h2 := fun hb => ?_) <;> (try simp only [Bool.not_true, Bool.not_false, reduceCtorEq] at hb) <;> (try (cases hb; done)) <;> (try have hbp := hb) <;> (try simp only [decide_eq_true_eq, decide_eq_false_iff_not] at hbp)) | refine Wp.seq ?_ | (refine Wp.ops' fun K hK => ?_) | refine Wp.block ?_ | (refine Wp.skip ?_; try dsimp only [thenQ, blockQ]) | (refine Wp.ret ?_; try dsimp only [thenQ, blockQ]) | (refine Wp.exit ?_; try simp only [thenQ, blockQ, reduceIte]))
      refine WpL.call rfl (by (try simp only [sB, Nat.reduceBEq, *, -hK]); first | done | with_reducible rfl) (by (try simp only [sB, Nat.reduceBEq, aevals, List.cons_append, List.nil_append, *, -hK]); first | done | with_reducible rfl) ?_; simp only [List.cons_append, List.nil_append, List.append_nil]
      refine WpCall.mono ?_ (checkM (p := limPr 2 i) (fun _ => rfl) rfl (by have := hat.hn; omega) hcl (List.mem_cons_of_mem _ List.mem_cons_self) hgd.2)
      rintro v H5 ⟨rfl, hy⟩
      clear hcl hat hgc hy
      first
      | (have hrc : refCheck (limPr 2 i) = 6 := by rw [hgd.1, if_pos (by show 16 < i; omega)])
      | (have hrc : refCheck (limPr 2 i) = 0 := by rw [hgd.1, if_neg (by show ¬ 16 < i; omega)])
      clear hgd
      dsimp only [setO]
      repeat' (first
         | (refine WpL.nil (hK _ _ ?_); clear hK K; try dsimp only [thenQ, blockQ]) | refine Ry.move (hk := ?_) | refine Ry.assign (hk := ?_) | refine Ry.load (hk := ?_) | refine Ry.bin (hk := ?_) | refine Ry.fieldAddr (hk := ?_) | refine Ry.pick (hk := ?_) | refine Ry.alloc (hk := ?_) | refine Ry.store (hk := ?_) | refine Ry.convert (hk := ?_) | refine Ry.build (hk := ?_) | refine Ry.buildSlice (hk := ?_) | (refine Ry.call (hk := ?_); simp only [List.cons_append, List.nil_append, List.append_nil]; refine WpCall.mono ?_ (kT _); rintro _ _ ⟨rfl, rfl⟩; try dsimp only [setO]) | refine Ry.append (hk := ?_) | (refine Ry.guardU (hk := ?_); dsimp only [setO]) | (refine Ry.guard (h1 := fun hg => ?_) (h2 := fun hg => ?_) <;> (try simp only [Bool.not_true, Bool.not_false, reduceCtorEq] at hg) <;> (try (cases hg; done)) <;> (try have hgp := hg) <;> (try simp only [decide_eq_true_eq, decide_eq_false_iff_not] at hgp) <;> (try dsimp only [setO])) | (refine Ry.cond (h1 := fun hb => ?_) (h2 := fun hb => ?_) <;> (try simp only [Bool.not_true, Bool.not_false, reduceCtorEq] at hb) <;> (try (cases hb; done)) <;> (try have hbp := hb) <;> (try simp only [decide_eq_true_eq, decide_eq_false_iff_not] at hbp)) | refine Wp.seq ?_ | (refine Wp.ops' fun K hK => ?_) | refine Wp.block ?_ | (refine Wp.skip ?_; try dsimp only [thenQ, blockQ]) | (refine Wp.ret ?_; try dsimp only [thenQ, blockQ]) | (refine Wp.exit ?_; try simp only [thenQ, blockQ, reduceIte]))
      all_goals (refine ⟨by first | exact .inl rfl | exact .inr rfl | exact .inl trivial | exact .inr trivial, _, (by (try simp only [sB, Nat.reduceBEq, resultsA, resultA, *]); first | done | with_reducible rfl), ?_⟩; try simp only [oneOr])
  · -- case 3
    obtain ⟨N, hN⟩ : ∃ N : Nat, pickG n 50 = (N : Int) := ⟨(pickG n 50).toNat, by omega⟩
    have hNl : N < 50 := by omega
    have hgd := lim_good (k := 3) (i := N) (by omega) hNl
    clear hp5 hp20 hp400 hp40 hp50
    refine Wp.forI [0, 5, 6, 7] [0] 11 N (fun i E H => ∃ q, H.get 1 = some (.cells [.str [102], .nilS, .nilS, .sl q 0 1 17, .int .i64 1, .int .i64 0, .str [], .int .i64 0, .nilS] 0 true) ∧ RdW (fun q => 2 ≤ q) (i + 2) H (.sl q 0 1 17) (.lst ([nestS i].map St.cells))) (by first | (simp only [sB, Nat.reduceBEq, *]; done) | rfl) ⟨2, by rw [Hp.get_set, if_pos rfl], RdW.rows (n := 1) (a := [[.int .i64 7, .str [], .str [], .int .i64 0, .int .i64 0, .int .i64 0, .str [], .int .i64 0, .nilS, .int .i64 0, .int .i64 0, .str [], .int .i64 0, .nilS, .nilS, .nilS, .nilS]]) (imm := 0) (tip := true) (by omega) (by decide) (by rw [Hp.get_set, if_neg (by omega), Hp.get_alloc, if_pos (by rfl)]; rfl) (by simp) ⟨⟨rfl, st_node (n := 0) 7 [] [] 0 zC_w zC_w .nilS .nilS .nilS⟩, trivial⟩⟩ ?_
    rintro i E H3 hi hcE hrH hnH hsI ⟨lv, g1, hJ⟩
    (try simp only [forall_cons, forall_nil, and_true, sB, sO, Nat.reduceBEq, Nat.reduceAdd, Nat.reduceLeDiff, tyF, *] at hcE)
    (try simp only [forall_cons, forall_nil, and_true, sB, sO, Nat.reduceBEq, Nat.reduceAdd, Nat.reduceLeDiff, tyF, *] at hrH)
    (try simp only [Hp.next_alloc, Hp.next_set, H0_next, Nat.zero_add, Nat.reduceAdd] at hnH)
    have hB0 : (0 == H3.next) = false := ne_beq (by omega)
    have hC0 : (H3.next == 0) = false := ne_beq (by omega)
    have h2 : 2 ≤ H3.next := by have := hnH; omega
    repeat' (first
       | (refine WpL.nil (hK _ _ ?_); clear hK K; try dsimp only [thenQ, blockQ]) | refine Rx.move (hk := ?_) | refine Rx.assign (hk := ?_) | refine Rx.load (hk := ?_) | refine Rx.bin (hk := ?_) | refine Rx.fieldAddr (hk := ?_) | refine Rx.pick (hk := ?_) | refine Rx.alloc (hk := ?_) | refine Rx.store (hk := ?_) | refine Rx.convert (hk := ?_) | refine Rx.build (hk := ?_) | refine Rx.buildSlice (hk := ?_) | refine Rx.append (hk := ?_) | (refine Rx.guardU (hk := ?_); dsimp only [setO]) | (refine Rx.guard (h1 := fun hg => ?_) (h2 := fun hg => ?_) <;> (try simp only [Bool.not_true, Bool.not_false, reduceCtorEq] at hg) <;> (try (cases hg; done)) <;> (try have hgp := hg) <;> (try simp only [decide_eq_true_eq, decide_eq_false_iff_not] at hgp) <;> (try dsimp only [setO])) | (refine Rx.cond (h1 := fun hb => ?_) (h2 := fun hb => ?_) <;> (try simp only [Bool.not_true, Bool.not_false, reduceCtorEq] at hb) <;> (try (cases hb; done)) <;> (try have hbp := hb) <;> (try simp only [decide_eq_true_eq, decide_eq_false_iff_not] at hbp)) | refine Wp.seq ?_ | (refine Wp.ops' fun K hK => ?_) | refine Wp.block ?_ | (refine Wp.skip ?_; try dsimp only [thenQ, blockQ]) | (refine Wp.ret ?_; try dsimp only [thenQ, blockQ]) | (refine Wp.exit ?_; try simp only [thenQ, blockQ, reduceIte]))
    · have hlt : i < N := by omega
      have e1 : (1 == H3.next) = false := ne_beq (by omega)
      have gh0 := @bI
      have gh1 := @bsSt
      repeat' (first
         | (refine WpL.nil (hK _ _ ?_); clear hK K; try dsimp only [thenQ, blockQ]) | refine Rx.move (hk := ?_) | refine Rx.assign (hk := ?_) | refine Rx.load (hk := ?_) | refine Rx.bin (hk := ?_) | refine Rx.fieldAddr (hk := ?_) | refine Rx.pick (hk := ?_) | refine Rx.alloc (hk := ?_) | refine Rx.store (hk := ?_) | refine Rx.convert (hk := ?_) | refine Rx.build (hk := ?_) | refine Rx.buildSlice (hk := ?_) | refine Rx.append (hk := ?_) | (refine Rx.guardU (hk := ?_); dsimp only [setO]) | (refine Rx.guard (h1 := fun hg => ?_) (h2 := fun hg => ?_) <;> (try simp only [Bool.not_true, Bool.not_false, reduceCtorEq] at hg) <;> (try (cases hg; done)) <;> (try have hgp := hg) <;> (try simp only [decide_eq_true_eq, decide_eq_false_iff_not] at hgp) <;> (try dsimp only [setO])) | (refine Rx.cond (h1 := fun hb => ?_) (h2 := fun hb => ?_) <;> (try simp only [Bool.not_true, Bool.not_false, reduceCtorEq] at hb) <;> (try (cases hb; done)) <;> (try have hbp := hb) <;> (try simp only [decide_eq_true_eq, decide_eq_false_iff_not] at hbp)) | refine Wp.seq ?_ | (refine Wp.ops' fun K hK => ?_) | refine Wp.block ?_ | (refine Wp.skip ?_; try dsimp only [thenQ, blockQ]) | (refine Wp.ret ?_; try dsimp only [thenQ, blockQ]) | (refine Wp.exit ?_; try simp only [thenQ, blockQ, reduceIte]))
      refine ⟨by omega, (by simp only [forall_cons, forall_nil, and_true, sB, sO, Nat.reduceBEq, Nat.reduceAdd, Nat.reduceLeDiff, tyF, *]), (by simp only [forall_cons, forall_nil, and_true, sB, sO, Nat.reduceBEq, Nat.reduceAdd, Nat.reduceLeDiff, tyF, *]), by (try simp only [Hp.next_alloc, Hp.next_set, H0_next, Nat.zero_add, Nat.reduceAdd]); omega, (by simp only [sB, Nat.reduceBEq, *]; exact i64_succ (n := N) (by omega) (by omega)), ?_⟩
      refine ⟨H3.next, by rw [Hp.get_set, if_pos rfl], ?_⟩
      refine RdW.rows (n := i + 2) (a := [[.int .i64 3, .str [], .str [], .int .i64 0, .int .i64 0, .int .i64 0, .str [], .int .i64 0, .nilS, .int .i64 1, .int .i64 0, .str [], .int .i64 0, .nilS, .nilS, .nilS, .sl lv 0 1 17]]) (imm := 0) (tip := true) (by omega) (Nat.lt_succ_self _) (by rw [Hp.get_set, if_neg (by omega), Hp.get_alloc, if_pos rfl]; rfl) (by simp) ⟨⟨rfl, st_node (n := i + 1) 3 [] [] 0 zC_w (ex_leaf 1 0 0 []) .nilS .nilS (hJ.keep (fun _ h => h) (Nat.le_succ _) fun q h1 h2 => by rw [Hp.get_set, if_neg (by omega), Hp.get_alloc, if_neg (by omega)])⟩, trivial⟩
    all_goals
      have hie : i = N := by omega
      subst hie
      have hat : AtL H3 .nilS (.sl lv 0 1 17) (.int .i64 1) (.int .i64 0) (.str []) (.int .i64 0) .nilS (limF 3 i) (i + 1) := ⟨g1, h2, by omega, ⟨rfl, rfl⟩, .nilS, hJ, ex_leaf 1 0 0 []⟩
      have hcl := hat.cells
      have hgc := hat.g1
      clear hi hsI hJ
      have gh0 := @ag9
      have gh1 := @bsF1
      have gh2 := @bP
      repeat' (first
         | (refine WpL.nil (hK _ _ ?_); clear hK K; try dsimp only [thenQ, blockQ]) | refine Rx.move (hk := ?_) | refine Rx.assign (hk := ?_) | refine Rx.load (hk := ?_) | refine Rx.bin (hk := ?_) | refine Rx.fieldAddr (hk := ?_) | refine Rx.pick (hk := ?_) | refine Rx.alloc (hk := ?_) | refine Rx.store (hk := ?_) | refine Rx.convert (hk := ?_) | refine Rx.build (hk := ?_) | refine Rx.buildSlice (hk := ?_) | refine Rx.append (hk := ?_) | (refine Rx.guardU (hk := ?_); dsimp only [setO]) | (refine Rx.guard (h1 := fun hg => ?_) (h2 := fun hg => ?_) <;> (try simp only [Bool.not_true, Bool.not_false, reduceCtorEq] at hg) <;> (try (cases hg; done)) <;> (try have hgp := hg) <;> (try simp only [decide_eq_true_eq, decide_eq_false_iff_not] at hgp) <;> (try dsimp only [setO])) | (refine Rx.cond (h1 := fun hb => ?_) (h2 := fun hb => ?_) <;> (try simp only [Bool.not_true, Bool.not_false, reduceCtorEq] at hb) <;> (try (cases hb; done)) <;> (try have hbp := hb) <;> (try simp only [decide_eq_true_eq, decide_eq_false_iff_not] at hbp)) | refine Wp.seq ?_ | (refine Wp.ops' fun K hK => ?_) | refine Wp.block ?_ | (refine Wp.skip ?_; try dsimp only [thenQ, blockQ]) | (refine Wp.ret ?_; try dsimp only [thenQ, blockQ]) | (refine Wp.exit ?_; try simp only [thenQ, blockQ, reduceIte]))
      refine WpL.call rfl (by (try simp only [sB, Nat.reduceBEq, *, -hK]); first | done | with_reducible rfl) (by (try simp only [sB, Nat.reduceBEq, aevals, List.cons_append, List.nil_append, *, -hK]); first | done | with_reducible rfl) ?_; simp only [List.cons_append, List.nil_append, List.append_nil]
      refine WpCall.mono ?_ (checkM (p := limPr 3 i) (fun _ => rfl) rfl (by have := hat.hn; omega) hcl (List.mem_cons_of_mem _ List.mem_cons_self) hgd.2)
      rintro v H5 ⟨rfl, hy⟩
      clear hcl hat hgc hy
      first
      | (have hrc : refCheck (limPr 3 i) = 6 := by rw [hgd.1, if_pos (by show 20 < i; omega)])
      | (have hrc : refCheck (limPr 3 i) = 0 := by rw [hgd.1, if_neg (by show ¬ 20 < i; omega)])
      clear hgd
      dsimp only [setO]
      repeat' (first
         | (refine WpL.nil (hK _ _ ?_); clear hK K; try dsimp only [thenQ, blockQ]) | refine Ry.move (hk := ?_) | refine Ry.assign (hk := ?_) | refine Ry.load (hk := ?_) | refine Ry.bin (hk := ?_) | refine Ry.fieldAddr (hk := ?_) | refine Ry.pick (hk := ?_) | refine Ry.alloc (hk := ?_) | refine Ry.store (hk := ?_) | refine Ry.convert (hk := ?_) | refine Ry.build (hk := ?_) | refine Ry.buildSlice (hk := ?_) | (refine Ry.call (hk := ?_); simp only [List.cons_append, List.nil_append, List.append_nil]; refine WpCall.mono ?_ (kT _); rintro _ _ ⟨rfl, rfl⟩; try dsimp only [setO]) | refine Ry.append (hk := ?_) | (refine Ry.guardU (hk := ?_); dsimp only [setO]) | (refine Ry.guard (h1 := fun hg => ?_) (h2 := fun hg => ?_) <;> (try simp only [Bool.not_true, Bool.not_false, reduceCtorEq] at hg) <;> (try (cases hg; done)) <;> (try have hgp := hg) <;> (try simp only [decide_eq_true_eq, decide_eq_false_iff_not] at hgp) <;> (try dsimp only [setO])) | (refine Ry.cond (h1 := fun hb => ?_) (h2 := fun hb => ?_) <;> (try simp only [Bool.not_true, Bool.not_false, reduceCtorEq] at hb) <;> (try (cases hb; done)) <;> (try have hbp := hb) <;> (try simp only [decide_eq_true_eq, decide_eq_false_iff_not] at hbp)) | refine Wp.seq ?_ | (refine Wp.ops' fun K hK => ?_) | refine Wp.block ?_ | (refine Wp.skip ?_; try dsimp only [thenQ, blockQ]) | (refine Wp.ret ?_; try dsimp only [thenQ, blockQ]) | (refine Wp.exit ?_; try simp only [thenQ, blockQ, reduceIte]))
      all_goals (refine ⟨by first | exact .inl rfl | exact .inr rfl | exact .inl trivial | exact .inr trivial, _, (by (try simp only [sB, Nat.reduceBEq, resultsA, resultA, *]); first | done | with_reducible rfl), ?_⟩; try simp only [oneOr])
  · -- case 4
    obtain ⟨N, hN⟩ : ∃ N : Nat, pickG n 50 = (N : Int) := ⟨(pickG n 50).toNat, by omega⟩
    have hNl : N < 50 := by omega
    have hgd := lim_good (k := 4) (i := N) (by omega) hNl
    clear hp5 hp20 hp400 hp40 hp50
    refine Wp.forI [0, 5, 6, 7] [0] 12 N (fun i E H => ∃ v0 v1 v2 v3 v4, H.get 1 = some (.cells [.str [102], .nilS, .nilS, .nilS, v0, v1, v2, v3, v4] 0 true) ∧ AV.one v0 = true ∧ AV.one v1 = true ∧ AV.one v2 = true ∧ AV.one v3 = true ∧ AV.one v4 = true ∧ CellsW (fun q => 2 ≤ q) (i + 1) H [v0, v1, v2, v3, v4] (nestE i).cells) (by first | (simp only [sB, Nat.reduceBEq, *]; done) | rfl) ⟨_, _, _, _, _, by rw [Hp.get_set, if_pos rfl], rfl, rfl, rfl, rfl, rfl, ex_leaf 1 0 0 []⟩ ?_
    rintro i E H3 hi hcE hrH hnH hsI ⟨v0, v1, v2, v3, v4, g1, w0, w1, w2, w3, w4, hJ⟩
    (try simp only [forall_cons, forall_nil, and_true, sB, sO, Nat.reduceBEq, Nat.reduceAdd, Nat.reduceLeDiff, tyF, *] at hcE)
    (try simp only [forall_cons, forall_nil, and_true, sB, sO, Nat.reduceBEq, Nat.reduceAdd, Nat.reduceLeDiff, tyF, *] at hrH)
    (try simp only [Hp.next_alloc, Hp.next_set, H0_next, Nat.zero_add, Nat.reduceAdd] at hnH)
    have hB0 : (0 == H3.next) = false := ne_beq (by omega)
    have hC0 : (H3.next == 0) = false := ne_beq (by omega)
    have h2 : 2 ≤ H3.next := by simpa using hnH
    repeat' (first
       | (refine WpL.nil (hK _ _ ?_); clear hK K; try dsimp only [thenQ, blockQ]) | refine Rx.move (hk := ?_) | refine Rx.assign (hk := ?_) | refine Rx.load (hk := ?_) | refine Rx.bin (hk := ?_) | refine Rx.fieldAddr (hk := ?_) | refine Rx.pick (hk := ?_) | refine Rx.alloc (hk := ?_) | refine Rx.store (hk := ?_) | refine Rx.convert (hk := ?_) | refine Rx.build (hk := ?_) | refine Rx.buildSlice (hk := ?_) | refine Rx.append (hk := ?_) | (refine Rx.guardU (hk := ?_); dsimp only [setO]) | (refine Rx.guard (h1 := fun hg => ?_) (h2 := fun hg => ?_) <;> (try simp only [Bool.not_true, Bool.not_false, reduceCtorEq] at hg) <;> (try (cases hg; done)) <;> (try have hgp := hg) <;> (try simp only [decide_eq_true_eq, decide_eq_false_iff_not] at hgp) <;> (try dsimp only [setO])) | (refine Rx.cond (h1 := fun hb => ?_) (h2 := fun hb => ?_) <;> (try simp only [Bool.not_true, Bool.not_false, reduceCtorEq] at hb) <;> (try (cases hb; done)) <;> (try have hbp := hb) <;> (try simp only [decide_eq_true_eq, decide_eq_false_iff_not] at hbp)) | refine Wp.seq ?_ | (refine Wp.ops' fun K hK => ?_) | refine Wp.block ?_ | (refine Wp.skip ?_; try dsimp only [thenQ, blockQ]) | (refine Wp.ret ?_; try dsimp only [thenQ, blockQ]) | (refine Wp.exit ?_; try simp only [thenQ, blockQ, reduceIte]))
    · have hlt : i < N := by omega
      have e1 : (1 == H3.next) = false := ne_beq (by omega)
      have gh0 := @bC
      have gh1 := @bsE3
      repeat' (first
         | (refine WpL.nil (hK _ _ ?_); clear hK K; try dsimp only [thenQ, blockQ]) | refine Rx.move (hk := ?_) | refine Rx.assign (hk := ?_) | refine Rx.load (hk := ?_) | refine Rx.bin (hk := ?_) | refine Rx.fieldAddr (hk := ?_) | refine Rx.pick (hk := ?_) | refine Rx.alloc (hk := ?_) | refine Rx.store (hk := ?_) | refine Rx.convert (hk := ?_) | refine Rx.build (hk := ?_) | refine Rx.buildSlice (hk := ?_) | refine Rx.append (hk := ?_) | (refine Rx.guardU (hk := ?_); dsimp only [setO]) | (refine Rx.guard (h1 := fun hg => ?_) (h2 := fun hg => ?_) <;> (try simp only [Bool.not_true, Bool.not_false, reduceCtorEq] at hg) <;> (try (cases hg; done)) <;> (try have hgp := hg) <;> (try simp only [decide_eq_true_eq, decide_eq_false_iff_not] at hgp) <;> (try dsimp only [setO])) | (refine Rx.cond (h1 := fun hb => ?_) (h2 := fun hb => ?_) <;> (try simp only [Bool.not_true, Bool.not_false, reduceCtorEq] at hb) <;> (try (cases hb; done)) <;> (try have hbp := hb) <;> (try simp only [decide_eq_true_eq, decide_eq_false_iff_not] at hbp)) | refine Wp.seq ?_ | (refine Wp.ops' fun K hK => ?_) | refine Wp.block ?_ | (refine Wp.skip ?_; try dsimp only [thenQ, blockQ]) | (refine Wp.ret ?_; try dsimp only [thenQ, blockQ]) | (refine Wp.exit ?_; try simp only [thenQ, blockQ, reduceIte]))
      refine ⟨by omega, (by simp only [forall_cons, forall_nil, and_true, sB, sO, Nat.reduceBEq, Nat.reduceAdd, Nat.reduceLeDiff, tyF, *]), (by simp only [forall_cons, forall_nil, and_true, sB, sO, Nat.reduceBEq, Nat.reduceAdd, Nat.reduceLeDiff, tyF, *]), by (try simp only [Hp.next_alloc, Hp.next_set, H0_next, Nat.zero_add, Nat.reduceAdd]); omega, (by simp only [sB, Nat.reduceBEq, *]; exact i64_succ (n := N) (by omega) (by omega)), ?_⟩
      refine ⟨_, _, _, _, _, by rw [Hp.get_set, if_pos rfl], rfl, rfl, rfl, rfl, rfl, ?_⟩
      refine ex_node (n := i + 1) _ _ _ _ (RdW.rows (n := i + 1) (a := [[.int .i64 1, .int .i64 0, .str [], .int .i64 0, .nilS], [.int .i64 1, .int .i64 0, .str [], .int .i64 0, .nilS], [v0, v1, v2, v3, v4]]) (imm := 0) (tip := true) (by omega) (Nat.lt_succ_self _) (by rw [Hp.get_set, if_neg (by omega), Hp.get_alloc, if_pos rfl]; rfl) (by simp) ⟨⟨rfl, ex_leaf 1 0 0 []⟩, ⟨rfl, ex_leaf 1 0 0 []⟩, ⟨rfl, hJ.keep (fun _ h => h) (Nat.le_succ _) fun q h1 h2 => by rw [Hp.get_set, if_neg (by omega), Hp.get_alloc, if_neg (by omega)]⟩, trivial⟩)
    all_goals
      have hie : i = N := by omega
      subst hie
      have hat : AtL H3 .nilS .nilS v0 v1 v2 v3 v4 (limF 4 i) i := ⟨g1, h2, by omega, ⟨rfl, rfl⟩, .nilS, .nilS, hJ⟩
      have hcl := hat.cells
      have hgc := hat.g1
      clear hi hsI hJ
      have gh0 := @ag9
      have gh1 := @bsF1
      have gh2 := @bP
      repeat' (first
         | (refine WpL.nil (hK _ _ ?_); clear hK K; try dsimp only [thenQ, blockQ]) | refine Rx.move (hk := ?_) | refine Rx.assign (hk := ?_) | refine Rx.load (hk := ?_) | refine Rx.bin (hk := ?_) | refine Rx.fieldAddr (hk := ?_) | refine Rx.pick (hk := ?_) | refine Rx.alloc (hk := ?_) | refine Rx.store (hk := ?_) | refine Rx.convert (hk := ?_) | refine Rx.build (hk := ?_) | refine Rx.buildSlice (hk := ?_) | refine Rx.append (hk := ?_) | (refine Rx.guardU (hk := ?_); dsimp only [setO]) | (refine Rx.guard (h1 := fun hg => ?_) (h2 := fun hg => ?_) <;> (try simp only [Bool.not_true, Bool.not_false, reduceCtorEq] at hg) <;> (try (cases hg; done)) <;> (try have hgp := hg) <;> (try simp only [decide_eq_true_eq, decide_eq_false_iff_not] at hgp) <;> (try dsimp only [setO])) | (refine Rx.cond (h1 := fun hb => ?_) (h2 := fun hb => ?_) <;> (try simp only [Bool.not_true, Bool.not_false, reduceCtorEq] at hb) <;> (try (cases hb; done)) <;> (try have hbp := hb) <;> (try simp only [decide_eq_true_eq, decide_eq_false_iff_not] at hbp)) | refine Wp.seq ?_ | (refine Wp.ops' fun K hK => ?_) | refine Wp.block ?_ | (refine Wp.skip ?_; try dsimp only [thenQ, blockQ]) | (refine Wp.ret ?_; try dsimp only [thenQ, blockQ]) | (refine Wp.exit ?_; try simp only [thenQ, blockQ, reduceIte]))
      refine WpL.call rfl (by (try simp only [sB, Nat.reduceBEq, *, -hK]); first | done | with_reducible rfl) (by (try simp only [sB, Nat.reduceBEq, aevals, List.cons_append, List.nil_append, *, -hK]); first | done | with_reducible rfl) ?_; simp only [List.cons_append, List.nil_append, List.append_nil]
      refine WpCall.mono ?_ (checkM (p := limPr 4 i) (fun _ => rfl) rfl (by have := hat.hn; omega) hcl (List.mem_cons_of_mem _ List.mem_cons_self) hgd.2)
      rintro v H5 ⟨rfl, hy⟩
      clear hcl hat hgc hy
      first
      | (have hrc : refCheck (limPr 4 i) = 6 := by rw [hgd.1, if_pos (by show 20 < i; omega)])
      | (have hrc : refCheck (limPr 4 i) = 0 := by rw [hgd.1, if_neg (by show ¬ 20 < i; omega)])
      clear hgd
      dsimp only [setO]
      repeat' (first
         | (refine WpL.nil (hK _ _ ?_); clear hK K; try dsimp only [thenQ, blockQ]) | refine Ry.move (hk := ?_) | refine Ry.assign (hk := ?_) | refine Ry.load (hk := ?_) | refine Ry.bin (hk := ?_) | refine Ry.fieldAddr (hk := ?_) | refine Ry.pick (hk := ?_) | refine Ry.alloc (hk := ?_) | refine Ry.store (hk := ?_) | refine Ry.convert (hk := ?_) | refine Ry.build (hk := ?_) | refine Ry.buildSlice (hk := ?_) | (refine Ry.call (hk := ?_); simp only [List.cons_append, List.nil_append, List.append_nil]; refine WpCall.mono ?_ (kT _); rintro _ _ ⟨rfl, rfl⟩; try dsimp only [setO]) | refine Ry.append (hk := ?_) | (refine Ry.guardU (hk := ?_); dsimp only [setO]) | (refine Ry.guard (h1 := fun hg => ?_) (h2 := fun hg => ?_) <;> (try simp only [Bool.not_true, Bool.not_false, reduceCtorEq] at hg) <;> (try (cases hg; done)) <;> (try have hgp := hg) <;> (try simp only [decide_eq_true_eq, decide_eq_false_iff_not] at hgp) <;> (try dsimp only [setO])) | (refine Ry.cond (h1 := fun hb => ?_) (h2 := fun hb => ?_) <;> (try simp only [Bool.not_true, Bool.not_false, reduceCtorEq] at hb) <;> (try (cases hb; done)) <;> (try have hbp := hb) <;> (try simp only [decide_eq_true_eq, decide_eq_false_iff_not] at hbp)) | refine Wp.seq ?_ | (refine Wp.ops' fun K hK => ?_) | refine Wp.block ?_ | (refine Wp.skip ?_; try dsimp only [thenQ, blockQ]) | (refine Wp.ret ?_; try dsimp only [thenQ, blockQ]) | (refine Wp.exit ?_; try simp only [thenQ, blockQ, reduceIte]))
      all_goals (refine ⟨by first | exact .inl rfl | exact .inr rfl | exact .inl trivial | exact .inr trivial, _, (by (try simp only [sB, Nat.reduceBEq, resultsA, resultA, *]); first | done | with_reducible rfl), ?_⟩; try simp only [oneOr])
theorem con (a b : Int) : Con Try.prog (fun _ => 0) 6 [.int .i64 a, .int .i64 b] (.bool true) :=
  Con.lev fit (pls := pls) (levT_ok _) (.cons (.int _ _) (.cons (.int _ _) .nil)) (.bool _) (law a b)
theorem walk (a0 : Int) (a1 : Int) (w0 : (Lit.int .i64 a0).wf = true) (w1 : (Lit.int .i64 a1).wf = true) (w : World) :
    Calls Try.prog 6 #[.int .i64 a0, .int .i64 a1] w fun e w' => e = .returned (.bool true) ∧ Below w.heap.size w w' :=
  Con.walk (ρ := fun _ => 0) (F := fun _ _ => none) (con a0 a1) (fun _ _ _ h => by simp at h) (VRs.cons (.int .i64 a0) (VRs.cons (.int .i64 a1) (VRs.nil _)))
set_option maxRecDepth 100000 in
theorem lifted (os : Os) (started : os.Started) (H : Type) (enc : TypeId × Value → H) :
    ReturnsInHanded {} Try.checked os 6 .any (Rows.checkerLimitsSpec.pre6 enc Try.prog Try.f6 Rows.checkerLimitsRow.domain false) (Rows.checkerLimitsSpec.post enc Try.prog Try.f6 false true false false) := by
  refine returnsInHanded_of_change (C := Try.checked) own started (by kernel_rfl) Try.func6
    (ChangeSpec.witness6 (enc := enc) (C := Try.checked) false ⟨#[], #[.int .i64 0, .int .i64 0], []⟩ 8 (by kernel_rfl) (by kernel_rfl) (by kernel_rfl) (by kernel_rfl)) ?_
  intro W base args ds gs before hval0 hW hcnd _
  have hval : ∀ (j : Nat) t v, Try.f6.params[j]? = some t → args[j]? = some v → Value.okWide Try.prog W .any base t v := hval0
  have hW' := hW
  obtain ⟨p, q, hA0, hV, rfl, hfz, hnd⟩ := hW
  have hA : DataW.TrodAll enc Try.prog W 0 (fun _ => true) true Try.f6.params.toList args.toList ds p := hA0
  rw [Try.params6] at hA hval
  obtain ⟨v0, vs0, d0, ds0, p0, q0, hargs, rfl, rfl, h0, r0⟩ := trodAll_cons hA
  obtain ⟨v1, vs1, d1, ds1, p1, q1, rfl, rfl, rfl, h1, r1⟩ := trodAll_cons r0
  obtain ⟨rfl, rfl, rfl⟩ := trodAll_nil r1
  obtain rfl : args = #[v0, v1] := by cases args; simp_all
  obtain ⟨rfl, rfl⟩ := trodVars_none hV
  obtain ⟨a0, rfl, rfl, rfl, w0⟩ := open_int Try.underlying3 (hval 0 3 v0 rfl rfl) h0
  obtain ⟨a1, rfl, rfl, rfl, w1⟩ := open_int Try.underlying3 (hval 1 3 v1 rfl rfl) h1
  clear hA0 hval0
  simp only [List.append_nil] at hW'
  refine (walk a0 a1 w0 w1 W).mono fun e W' ⟨he, hg⟩ => ?_
  subst he
  exact ⟨_, rfl, post_of_below (pa := []) (pv := []) hW' (fun _ _ _ => (trodAll_cons_mk (shut_bool Try.underlying4 _) trodAll_mk0)) (fun sp _ => (trodAll_cons_mk (shut_int Try.underlying3 w0) (trodAll_cons_mk (shut_int Try.underlying3 w1) trodAll_mk0))) (fun _ _ => rfl) rfl
    hg (ok_one (by kernel_rfl) rfl (okWide_bool_mk Try.underlying4 _))⟩
theorem over : Rows.checkerLimitsRow.holds Try.pinned (OpenSpec.ofChange Rows.checkerLimitsSpec) :=
  OpenClaim.holds_of_wide 6 Try.f6 rfl rfl rfl rfl rfl rfl rfl ⟨rfl, rfl, rfl, rfl, rfl⟩ rfl rfl rfl rfl rfl (by kernel_rfl) Try.func6 (by kernel_rfl)
    (of_decide_eq_true (by kernel_rfl)) (by unfold Func.isWrapper; first | (rw [if_pos (by decide +kernel)]; kernel_rfl) | (rw [if_neg (by decide +kernel)]; exact ⟨rfl, rfl⟩))
    (fun os started H enc _ => lifted os started H enc)
/-- ████ THE STATEMENT ████ -/
theorem proved : Rows.CheckerLimitsSaid :=
  over
#print axioms proved
end Go.Proofs.Ytjkmbpieknaekaa.checkerLimits
