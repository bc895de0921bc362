/-
  The Go function fullinglaw6.InterpCalls returns true whatever its three arguments are, and leaves all memory that was there as it was. Conditions: none.
-/
import Derived.Test.YtlanljjbcpepjaaPick
import Derived.Test.YtlanljjbcpepjaaCallsLaw
import Derived.Test.YtlanljjbcpepjaaKnEx
import Derived.WalkKit
import Derived.ProofKit
import Derived.OpenShut
namespace Go.Proofs.Ytlanljjbcpepjaa.interpCalls
set_option linter.unusedVariables false
set_option linter.unusedSimpArgs false
set_option linter.unusedSectionVars false
set_option linter.defProp false
open Go Go.Ab
namespace tyInterpCalls
def tyF := And.intro @sz2 (And.intro @pt2 (And.intro @bt2 (And.intro @zr2 (And.intro @sz3 (And.intro @pt3 (And.intro @bt3 (And.intro @zr3 (And.intro @sz4 (And.intro @pt4 (And.intro @bt4 (And.intro @zr4 (And.intro @sz22 (And.intro @pt22 (And.intro @bt22 (And.intro @zr22 (And.intro @ix22l (And.intro @ix22s (And.intro @ln22l (And.intro @ln22s (And.intro @ln22n (And.intro @sz23 (And.intro @pt23 (And.intro @bt23 (And.intro @zr23 (And.intro @ix23l (And.intro @ix23s (And.intro @ln23l (And.intro @ln23s (And.intro @ln23n (And.intro @sz25 (And.intro @pt25 (And.intro @bt25 (And.intro @zr25 (And.intro @fa25_0p (And.intro @fa25_0c (And.intro @fd25_0 (And.intro @fa25_1p (And.intro @fa25_1c (And.intro @fd25_1 (And.intro @sz30 (And.intro @pt30 (And.intro @bt30 (And.intro @zr30 (And.intro @sz52 (And.intro @pt52 (And.intro @bt52 (And.intro @zr52 (And.intro @ix52l (And.intro @ix52s (And.intro @ln52l (And.intro @ln52s (And.intro @ln52n (And.intro @sz56 (And.intro @pt56 (And.intro @bt56 (And.intro @zr56 (And.intro @fa56_0p (And.intro @fa56_0c (And.intro @fd56_0 (And.intro @fa56_1p (And.intro @fa56_1c (And.intro @fd56_1 (And.intro @fa56_2p (And.intro @fa56_2c (And.intro @fd56_2 (And.intro @fa56_3p (And.intro @fa56_3c (And.intro @fd56_3 (And.intro @sz61 (And.intro @pt61 (And.intro @bt61 (And.intro @zr61 (And.intro @fa61_0p (And.intro @fa61_0c (And.intro @fd61_0 (And.intro @fa61_1p (And.intro @fa61_1c (And.intro @fd61_1 (And.intro @bin_bne (@Try.underlying4))))))))))))))))))))))))))))))))))))))))))))))))))))))))))))))))))))))))))))))))
end tyInterpCalls
open tyInterpCalls Go.ChangeShapes Go.WideShapes Go.ChangeAt Go.RowKit

theorem own : ownKnob Try.prog.godebug = none := by kernel_rfl

/-! ### THE PROGRAM ON PLAIN DATA -/
abbrev p : Pr := pC
theorem goodI {k f : Int} (s : Int) (hk : 0 ≤ k ∧ k < 20) (hf : 0 ≤ f ∧ f < 24) : ∃ r, callM pC fiC (6 * k.toNat + 20) 0 [k, s] (startM pC f) = some r ∧ (endM r).out = downL k (min k f + 1).toNat ∧ (endM r).kind = (if k ≤ f then 1 else 3) ∧ ((endM r).kind = 1 → (endM r).value = w64 (k * s)) := by
  obtain ⟨k, rfl⟩ := Int.eq_ofNat_of_zero_le hk.1
  obtain ⟨f, rfl⟩ := Int.eq_ofNat_of_zero_le hf.1
  refine ⟨_, calls s k f 0 (zeroC pC.arrays) [] (by omega) (by omega), ?_⟩
  by_cases hc : k ≤ f
  · rw [if_pos hc]
    refine ⟨?_, ?_, fun _ => valI_eq s k⟩
    · show [] ++ downL k (k + 1) = _
      rw [List.nil_append]; congr 1; omega
    · rw [if_pos (by omega)]; rfl
  · rw [if_neg hc]
    refine ⟨?_, ?_, fun h => by simp [endM] at h⟩
    · show [] ++ downL k (f + 1) = _
      rw [List.nil_append]; congr 1; omega
    · rw [if_neg (by omega)]; rfl

/-! ### THE WALK -/
def known : List (FuncId × List AV × AV) := knEx.list ++ pgCalls.list
theorem known_ok (ρ : Nat → Int) : KOk Try.prog ρ known := KOk.append (knEx.ok ρ) (pgCalls.ok ρ)
def cfg : Cfg := cfgF [] pls known
theorem hS : Std cfg := std_of (by kernel_rfl)
theorem chk (H : Hp) : WpCall Try.prog cfg 16 [.agg p.cells] H fun v H' => v = .int .i64 0 ∧ FrB 0 H H' := WpCall.known (by kernel_rfl) ⟨rfl, FrB.refl _ _⟩

noncomputable def code11 : { c : SC // slim 84 (Try.f11.body.getD .skip) = c } := by
  refine ⟨?_, ?_⟩
  rotate_left
  · simp only [Try.f11, Option.getD_some, slim, slimR, slimL, slimD, slimG, Nat.blt, Nat.ble]
    rfl

theorem bs2 (H : Hp) (a b : Int) : buildSliceA Try.prog H 52 2 [(0, .int .i64 a), (1, .int .i64 b)] = some (.sl H.next 0 2 1, H.alloc (.cells [.int .i64 a, .int .i64 b] 0 true)) := by kernel_rfl

set_option maxRecDepth 100000 in
set_option maxHeartbeats 16000000 in
theorem law (a b c : Int) : WpCall Try.prog cfg 11 [.int .i64 a, .int .i64 b, .int .i64 c] H0 fun v _ => v = .bool true := by
  have hn := pickI_range (n := a) (m := 20) (by omega) (by omega)
  have hf := pickI_range (n := b) (m := 24) (by omega) (by omega)
  obtain ⟨r, hr, ho, hkd, hval⟩ := goodI c hn hf
  have hS := hS
  refine WpCall.slim (M := 84) (rs := [.tmp 6]) ((hS.plain _ rfl).call _) (hS.plain _ rfl).ice (hS.plain _ rfl).froz Try.func11 rfl rfl code11.2 rfl ?_; dsimp only [code11, envOf, Nat.reduceAdd]
  repeat' (first
     | (refine WpL.nil (hK _ _ ?_); clear hK K; try dsimp only [thenQ, blockQ]) | refine Rx.move (hk := ?_) | refine Rx.assign (hk := ?_) | refine Rx.load (hk := ?_) | refine Rx.bin (hk := ?_) | refine Rx.fieldAddr (hk := ?_) | refine Rx.indexAddr (hk := ?_) | refine Rx.len (hk := ?_) | refine Rx.min2 (hk := ?_) | refine Rx.pick (hk := ?_) | refine Rx.alloc (hk := ?_) | refine Rx.store (hk := ?_) | refine Rx.extract (hk := ?_) | refine Rx.buildSlice (hk := ?_) | (refine Rx.call (hk := ?_); simp only [List.cons_append, List.nil_append, List.append_nil]; refine WpCall.mono ?_ (pick_wp hS _ _ (by decide) _); rintro _ _ ⟨rfl, rfl⟩; try dsimp only [setO]) | (refine Rx.guardU (hk := ?_); dsimp only [setO]) | (refine Rx.guard (h1 := fun hg => ?_) (h2 := fun hg => ?_) <;> (try simp only [Bool.not_true, Bool.not_false, reduceCtorEq] at hg) <;> (try (cases hg; done)) <;> (try have hgp := hg) <;> (try simp only [decide_eq_true_eq, decide_eq_false_iff_not] at hgp) <;> (try dsimp only [setO])) | (refine Rx.cond (h1 := fun hb => ?_) (h2 := fun hb => ?_) <;> (try simp only [Bool.not_true, Bool.not_false, reduceCtorEq] at hb) <;> (try (cases hb; done)) <;> (try have hbp := hb) <;> (try simp only [decide_eq_true_eq, decide_eq_false_iff_not] at hbp)) | refine Wp.seq ?_ | (refine Wp.ops' fun K hK => ?_) | refine Wp.block ?_ | (refine Wp.skip ?_; try dsimp only [thenQ, blockQ]) | (refine Wp.ret ?_; try dsimp only [thenQ, blockQ]) | (refine Wp.exit ?_; try simp only [thenQ, blockQ, reduceIte]))
  refine WpL.call rfl (by (try simp only [sB, Nat.reduceBEq, *, -hK]); first | done | with_reducible rfl) (by (try simp only [sB, Nat.reduceBEq, aevals, List.cons_append, List.nil_append, *, -hK]); first | done | with_reducible rfl) ?_; simp only [List.cons_append, List.nil_append, List.append_nil]
  refine WpCall.known (r := .tup [.agg p.cells, .agg [.int .i64 0, .int .i64 0]]) (by kernel_rfl) ?_
  dsimp only [setO]
  have hx0 : Ab.extract (.tup [.agg p.cells, .agg [.int .i64 0, .int .i64 0]]) 0 = some (.agg p.cells) := rfl
  have hx1 : Ab.extract (.tup [.agg p.cells, .agg [.int .i64 0, .int .i64 0]]) 1 = some (.agg [.int .i64 0, .int .i64 0]) := rfl
  have gh0 := @bs2
  repeat' (first
     | (refine WpL.nil (hK _ _ ?_); clear hK K; try dsimp only [thenQ, blockQ]) | refine Rx.move (hk := ?_) | refine Rx.assign (hk := ?_) | refine Rx.load (hk := ?_) | refine Rx.bin (hk := ?_) | refine Rx.fieldAddr (hk := ?_) | refine Rx.indexAddr (hk := ?_) | refine Rx.len (hk := ?_) | refine Rx.min2 (hk := ?_) | refine Rx.pick (hk := ?_) | refine Rx.alloc (hk := ?_) | refine Rx.store (hk := ?_) | refine Rx.extract (hk := ?_) | refine Rx.buildSlice (hk := ?_) | (refine Rx.guardU (hk := ?_); dsimp only [setO]) | (refine Rx.guard (h1 := fun hg => ?_) (h2 := fun hg => ?_) <;> (try simp only [Bool.not_true, Bool.not_false, reduceCtorEq] at hg) <;> (try (cases hg; done)) <;> (try have hgp := hg) <;> (try simp only [decide_eq_true_eq, decide_eq_false_iff_not] at hgp) <;> (try dsimp only [setO])) | (refine Rx.cond (h1 := fun hb => ?_) (h2 := fun hb => ?_) <;> (try simp only [Bool.not_true, Bool.not_false, reduceCtorEq] at hb) <;> (try (cases hb; done)) <;> (try have hbp := hb) <;> (try simp only [decide_eq_true_eq, decide_eq_false_iff_not] at hbp)) | refine Wp.seq ?_ | (refine Wp.ops' fun K hK => ?_) | refine Wp.block ?_ | (refine Wp.skip ?_; try dsimp only [thenQ, blockQ]) | (refine Wp.ret ?_; try dsimp only [thenQ, blockQ]) | (refine Wp.exit ?_; try simp only [thenQ, blockQ, reduceIte]))
  refine WpL.call rfl (by (try simp only [sB, Nat.reduceBEq, *, -hK]); first | done | with_reducible rfl) (by (try simp only [sB, Nat.reduceBEq, aevals, List.cons_append, List.nil_append, *, -hK]); first | done | with_reducible rfl) ?_; simp only [List.cons_append, List.nil_append, List.append_nil]
  have hlen : (endM r).out.length = (min (pickI a 20) (pickI b 24) + 1).toNat := by rw [ho, down_len]
  have hget : ∀ i, i < (endM r).out.length → (endM r).out.getD i 0 = pickI a 20 - (i : Int) := fun i hi => by
    rw [hlen] at hi
    rw [ho, down_get _ _ _ hi]
  have hor : r.2.out.length < 2 ^ 40 := by rw [← endM_out, hlen]; omega
  refine WpCall.mono ?_ (run_ok hS p (of_decide_eq_true (by kernel_rfl)) (by simp [pC, pgCalls.pr]) (by simp [pC, pgCalls.pr]) chk [102] [pickI a 20, c] (pickI b 24) hf.1 (by omega) (by kernel_rfl) (f := pgCalls.f0) (of_decide_eq_true (by kernel_rfl)) (by kernel_rfl) rfl (n := 6 * (pickI a 20).toNat + 20) (r := r)
    (by rw [show lkV (fnIx pC.funcs 0 []) [102] = 0 from by kernel_rfl]; exact hr) hor (by simp) _ _ (IntsR.argsV (.inr ⟨2, rfl, ?_⟩)) ?_)
  · rintro v H2 ⟨hO, hf2⟩
    clear hor hr ho
    generalize endM r = oc at *
    obtain ⟨kd, cd, out, vl⟩ := oc
    simp only [] at hlen hget hkd hval
    obtain ⟨ov, rfl, hov, hovlt⟩ := hO
    have hn2 := hf2.next
    have hln : ∀ H', lenAt Try.prog H' 52 ov = _ := fun H' => hov.argsV.len Try.underlying52
    simp only [] at hln hov
    have hw1 : IntKind.wrap .i64 ((out.length : Int) - 1 + 1) = (out.length : Int) := by rw [IntWalk.i64_in _ (by omega)]; omega
    have hlenI : min (pickI a 20) (pickI b 24) = (out.length : Int) - 1 := by rw [hlen]; omega
    have hone : AV.one ov = true := by rcases hov with ⟨h, _⟩ | ⟨_, h, _⟩ <;> rw [h] <;> rfl
    have hlm : out.length ≤ 20 := by omega
    clear hlen
    dsimp only [setO]
    by_cases hc : pickI a 20 ≤ pickI b 24
    · rw [if_pos hc] at hkd
      subst hkd
      have hvl := hval rfl
      subst hvl
      clear hval
      repeat' (first
         | (refine WpL.nil (hK _ _ ?_); clear hK K; try dsimp only [thenQ, blockQ]) | refine Ry.move (hk := ?_) | refine Ry.assign (hk := ?_) | refine Ry.load (hk := ?_) | refine Ry.bin (hk := ?_) | refine Ry.fieldAddr (hk := ?_) | refine Ry.indexAddr (hk := ?_) | refine Ry.len (hk := ?_) | refine Ry.min2 (hk := ?_) | refine Ry.pick (hk := ?_) | refine Ry.alloc (hk := ?_) | refine Ry.store (hk := ?_) | refine Ry.extract (hk := ?_) | refine Ry.buildSlice (hk := ?_) | (refine Ry.guardU (hk := ?_); dsimp only [setO]) | (refine Ry.guard (h1 := fun hg => ?_) (h2 := fun hg => ?_) <;> (try simp only [Bool.not_true, Bool.not_false, reduceCtorEq] at hg) <;> (try (cases hg; done)) <;> (try have hgp := hg) <;> (try simp only [decide_eq_true_eq, decide_eq_false_iff_not] at hgp) <;> (try dsimp only [setO])) | (refine Ry.cond (h1 := fun hb => ?_) (h2 := fun hb => ?_) <;> (try simp only [Bool.not_true, Bool.not_false, reduceCtorEq] at hb) <;> (try (cases hb; done)) <;> (try have hbp := hb) <;> (try simp only [decide_eq_true_eq, decide_eq_false_iff_not] at hbp)) | refine Wp.seq ?_ | (refine Wp.ops' fun K hK => ?_) | refine Wp.block ?_ | (refine Wp.skip ?_; try dsimp only [thenQ, blockQ]) | (refine Wp.ret ?_; try dsimp only [thenQ, blockQ]) | (refine Wp.exit ?_; try simp only [thenQ, blockQ, reduceIte]))
      refine Wp.loopN (fun i E H3 => E.at 7 = .int .i64 (pickI a 20) ∧ E.at 2 = .int .i64 c ∧ E.at 8 = .int .i64 (pickI b 24) ∧ E.at 11 = .ptr H2.next 0 ∧ E.at 55 = ov ∧ E.at 56 = .int .i64 out.length ∧ E.at 57 = .int .i64 i ∧ (H2.alloc (.cells [.int .i64 0, .int .i64 0, .nilS, .int .i64 0] 0 true)).set H2.next (.cells [.int .i64 1, .int .i64 cd, ov, .int .i64 (IntKind.wrap .i64 (pickI a 20 * c))] 0 true) = H3) out.length ?_ ?_
      · rintro i E H3 hi ⟨k7, k0, k8, k11, k57, k58, k59, hH3⟩
        have hb3 : H3.get H2.next = some (.cells [.int .i64 1, .int .i64 cd, ov, .int .i64 (IntKind.wrap .i64 (pickI a 20 * c))] 0 true) := by rw [← hH3, Hp.get_set, if_pos rfl]
        have hg3 : ∀ r, slB ov r → H3.get r = H2.get r := fun k hk => by
          have := hovlt k hk
          rw [← hH3, Hp.get_set, if_neg (by omega), Hp.get_alloc, if_neg (by omega)]
        repeat' (first
           | (refine WpL.nil (hK _ _ ?_); clear hK K; try dsimp only [thenQ, blockQ]) | refine Rx.move (hk := ?_) | refine Rx.assign (hk := ?_) | refine Rx.load (hk := ?_) | refine Rx.bin (hk := ?_) | refine Rx.fieldAddr (hk := ?_) | refine Rx.indexAddr (hk := ?_) | refine Rx.len (hk := ?_) | refine Rx.min2 (hk := ?_) | refine Rx.pick (hk := ?_) | refine Rx.alloc (hk := ?_) | refine Rx.store (hk := ?_) | refine Rx.extract (hk := ?_) | refine Rx.buildSlice (hk := ?_) | (refine Rx.guardU (hk := ?_); dsimp only [setO]) | (refine Rx.guard (h1 := fun hg => ?_) (h2 := fun hg => ?_) <;> (try simp only [Bool.not_true, Bool.not_false, reduceCtorEq] at hg) <;> (try (cases hg; done)) <;> (try have hgp := hg) <;> (try simp only [decide_eq_true_eq, decide_eq_false_iff_not] at hgp) <;> (try dsimp only [setO])) | (refine Rx.cond (h1 := fun hb => ?_) (h2 := fun hb => ?_) <;> (try simp only [Bool.not_true, Bool.not_false, reduceCtorEq] at hb) <;> (try (cases hb; done)) <;> (try have hbp := hb) <;> (try simp only [decide_eq_true_eq, decide_eq_false_iff_not] at hbp)) | refine Wp.seq ?_ | (refine Wp.ops' fun K hK => ?_) | refine Wp.block ?_ | (refine Wp.skip ?_; try dsimp only [thenQ, blockQ]) | (refine Wp.ret ?_; try dsimp only [thenQ, blockQ]) | (refine Wp.exit ?_; try simp only [thenQ, blockQ, reduceIte]))
        · have hlt : i < out.length := by omega
          obtain ⟨adr, hia, hld⟩ := hov.argsV.at (P := Try.prog) (t := 52) Try.underlying52 Try.underlying2 sz2 hlt
          have hld2 := hld H3 hg3
          rw [hget i hlt] at hld2
          have hw2 : IntKind.wrap .i64 (pickI a 20 - (i : Int)) = pickI a 20 - (i : Int) := IntWalk.i64_in _ (by omega)
          have hw5 : IntKind.wrap .i64 (i : Int) = (i : Int) := IntWalk.i64_in _ (by omega)
          repeat' (first
             | (refine WpL.nil (hK _ _ ?_); clear hK K; try dsimp only [thenQ, blockQ]) | refine Ry.move (hk := ?_) | refine Ry.assign (hk := ?_) | refine Ry.load (hk := ?_) | refine Ry.bin (hk := ?_) | refine Ry.fieldAddr (hk := ?_) | refine Ry.indexAddr (hk := ?_) | refine Ry.len (hk := ?_) | refine Ry.min2 (hk := ?_) | refine Ry.pick (hk := ?_) | refine Ry.alloc (hk := ?_) | refine Ry.store (hk := ?_) | refine Ry.extract (hk := ?_) | refine Ry.buildSlice (hk := ?_) | (refine Ry.guardU (hk := ?_); dsimp only [setO]) | (refine Ry.guard (h1 := fun hg => ?_) (h2 := fun hg => ?_) <;> (try simp only [Bool.not_true, Bool.not_false, reduceCtorEq] at hg) <;> (try (cases hg; done)) <;> (try have hgp := hg) <;> (try simp only [decide_eq_true_eq, decide_eq_false_iff_not] at hgp) <;> (try dsimp only [setO])) | (refine Ry.cond (h1 := fun hb => ?_) (h2 := fun hb => ?_) <;> (try simp only [Bool.not_true, Bool.not_false, reduceCtorEq] at hb) <;> (try (cases hb; done)) <;> (try have hbp := hb) <;> (try simp only [decide_eq_true_eq, decide_eq_false_iff_not] at hbp)) | refine Wp.seq ?_ | (refine Wp.ops' fun K hK => ?_) | refine Wp.block ?_ | (refine Wp.skip ?_; try dsimp only [thenQ, blockQ]) | (refine Wp.ret ?_; try dsimp only [thenQ, blockQ]) | (refine Wp.exit ?_; try simp only [thenQ, blockQ, reduceIte]))
          exact ⟨hlt, (by first | (simp only [sB, Nat.reduceBEq, *]; done) | rfl), (by first | (simp only [sB, Nat.reduceBEq, *]; done) | rfl), (by first | (simp only [sB, Nat.reduceBEq, *]; done) | rfl), (by first | (simp only [sB, Nat.reduceBEq, *]; done) | rfl), (by first | (simp only [sB, Nat.reduceBEq, *]; done) | rfl), (by first | (simp only [sB, Nat.reduceBEq, *]; done) | rfl), (by simp only [at_set, Nat.reduceBEq, cond_true, wrap_succ (show i < 2 ^ 62 by omega)]), hH3⟩
        · clear hi
          repeat' (first
             | (refine WpL.nil (hK _ _ ?_); clear hK K; try dsimp only [thenQ, blockQ]) | refine Ry.move (hk := ?_) | refine Ry.assign (hk := ?_) | refine Ry.load (hk := ?_) | refine Ry.bin (hk := ?_) | refine Ry.fieldAddr (hk := ?_) | refine Ry.indexAddr (hk := ?_) | refine Ry.len (hk := ?_) | refine Ry.min2 (hk := ?_) | refine Ry.pick (hk := ?_) | refine Ry.alloc (hk := ?_) | refine Ry.store (hk := ?_) | refine Ry.extract (hk := ?_) | refine Ry.buildSlice (hk := ?_) | (refine Ry.guardU (hk := ?_); dsimp only [setO]) | (refine Ry.guard (h1 := fun hg => ?_) (h2 := fun hg => ?_) <;> (try simp only [Bool.not_true, Bool.not_false, reduceCtorEq] at hg) <;> (try (cases hg; done)) <;> (try have hgp := hg) <;> (try simp only [decide_eq_true_eq, decide_eq_false_iff_not] at hgp) <;> (try dsimp only [setO])) | (refine Ry.cond (h1 := fun hb => ?_) (h2 := fun hb => ?_) <;> (try simp only [Bool.not_true, Bool.not_false, reduceCtorEq] at hb) <;> (try (cases hb; done)) <;> (try have hbp := hb) <;> (try simp only [decide_eq_true_eq, decide_eq_false_iff_not] at hbp)) | refine Wp.seq ?_ | (refine Wp.ops' fun K hK => ?_) | refine Wp.block ?_ | (refine Wp.skip ?_; try dsimp only [thenQ, blockQ]) | (refine Wp.ret ?_; try dsimp only [thenQ, blockQ]) | (refine Wp.exit ?_; try simp only [thenQ, blockQ, reduceIte]))
          refine WpL.call rfl (by (try simp only [sB, Nat.reduceBEq, *, -hK]); first | done | with_reducible rfl) (by (try simp only [sB, Nat.reduceBEq, aevals, List.cons_append, List.nil_append, *, -hK]); first | done | with_reducible rfl) ?_; simp only [List.cons_append, List.nil_append, List.append_nil]
          refine WpCall.known (r := .bool true) (by kernel_rfl) ?_
          dsimp only [setO]
          repeat' (first
             | (refine WpL.nil (hK _ _ ?_); clear hK K; try dsimp only [thenQ, blockQ]) | refine Rx.move (hk := ?_) | refine Rx.assign (hk := ?_) | refine Rx.load (hk := ?_) | refine Rx.bin (hk := ?_) | refine Rx.fieldAddr (hk := ?_) | refine Rx.indexAddr (hk := ?_) | refine Rx.len (hk := ?_) | refine Rx.min2 (hk := ?_) | refine Rx.pick (hk := ?_) | refine Rx.alloc (hk := ?_) | refine Rx.store (hk := ?_) | refine Rx.extract (hk := ?_) | refine Rx.buildSlice (hk := ?_) | (refine Rx.guardU (hk := ?_); dsimp only [setO]) | (refine Rx.guard (h1 := fun hg => ?_) (h2 := fun hg => ?_) <;> (try simp only [Bool.not_true, Bool.not_false, reduceCtorEq] at hg) <;> (try (cases hg; done)) <;> (try have hgp := hg) <;> (try simp only [decide_eq_true_eq, decide_eq_false_iff_not] at hgp) <;> (try dsimp only [setO])) | (refine Rx.cond (h1 := fun hb => ?_) (h2 := fun hb => ?_) <;> (try simp only [Bool.not_true, Bool.not_false, reduceCtorEq] at hb) <;> (try (cases hb; done)) <;> (try have hbp := hb) <;> (try simp only [decide_eq_true_eq, decide_eq_false_iff_not] at hbp)) | refine Wp.seq ?_ | (refine Wp.ops' fun K hK => ?_) | refine Wp.block ?_ | (refine Wp.skip ?_; try dsimp only [thenQ, blockQ]) | (refine Wp.ret ?_; try dsimp only [thenQ, blockQ]) | (refine Wp.exit ?_; try simp only [thenQ, blockQ, reduceIte]))
          all_goals (refine ⟨by first | exact .inl rfl | exact .inr rfl | exact .inl trivial | exact .inr trivial, _, (by (try simp only [sB, Nat.reduceBEq, resultsA, resultA, *]); first | done | with_reducible rfl), ?_⟩; try simp only [oneOr])
      · exact ⟨(by first | (simp only [sB, Nat.reduceBEq, *]; done) | rfl), (by first | (simp only [sB, Nat.reduceBEq, *]; done) | rfl), (by first | (simp only [sB, Nat.reduceBEq, *]; done) | rfl), (by first | (simp only [sB, Nat.reduceBEq, *]; done) | rfl), (by first | (simp only [sB, Nat.reduceBEq, *]; done) | rfl), (by first | (simp only [sB, Nat.reduceBEq, *]; done) | rfl), (by first | (simp only [sB, Nat.reduceBEq, *]; done) | rfl), rfl⟩
    · rw [if_neg hc] at hkd
      subst hkd
      clear hval
      repeat' (first
         | (refine WpL.nil (hK _ _ ?_); clear hK K; try dsimp only [thenQ, blockQ]) | refine Ry.move (hk := ?_) | refine Ry.assign (hk := ?_) | refine Ry.load (hk := ?_) | refine Ry.bin (hk := ?_) | refine Ry.fieldAddr (hk := ?_) | refine Ry.indexAddr (hk := ?_) | refine Ry.len (hk := ?_) | refine Ry.min2 (hk := ?_) | refine Ry.pick (hk := ?_) | refine Ry.alloc (hk := ?_) | refine Ry.store (hk := ?_) | refine Ry.extract (hk := ?_) | refine Ry.buildSlice (hk := ?_) | (refine Ry.guardU (hk := ?_); dsimp only [setO]) | (refine Ry.guard (h1 := fun hg => ?_) (h2 := fun hg => ?_) <;> (try simp only [Bool.not_true, Bool.not_false, reduceCtorEq] at hg) <;> (try (cases hg; done)) <;> (try have hgp := hg) <;> (try simp only [decide_eq_true_eq, decide_eq_false_iff_not] at hgp) <;> (try dsimp only [setO])) | (refine Ry.cond (h1 := fun hb => ?_) (h2 := fun hb => ?_) <;> (try simp only [Bool.not_true, Bool.not_false, reduceCtorEq] at hb) <;> (try (cases hb; done)) <;> (try have hbp := hb) <;> (try simp only [decide_eq_true_eq, decide_eq_false_iff_not] at hbp)) | refine Wp.seq ?_ | (refine Wp.ops' fun K hK => ?_) | refine Wp.block ?_ | (refine Wp.skip ?_; try dsimp only [thenQ, blockQ]) | (refine Wp.ret ?_; try dsimp only [thenQ, blockQ]) | (refine Wp.exit ?_; try simp only [thenQ, blockQ, reduceIte]))
      refine Wp.loopN (fun i E H3 => E.at 7 = .int .i64 (pickI a 20) ∧ E.at 2 = .int .i64 c ∧ E.at 8 = .int .i64 (pickI b 24) ∧ E.at 11 = .ptr H2.next 0 ∧ E.at 55 = ov ∧ E.at 56 = .int .i64 out.length ∧ E.at 57 = .int .i64 i ∧ (H2.alloc (.cells [.int .i64 0, .int .i64 0, .nilS, .int .i64 0] 0 true)).set H2.next (.cells [.int .i64 3, .int .i64 cd, ov, .int .i64 vl] 0 true) = H3) out.length ?_ ?_
      · rintro i E H3 hi ⟨k7, k0, k8, k11, k57, k58, k59, hH3⟩
        have hb3 : H3.get H2.next = some (.cells [.int .i64 3, .int .i64 cd, ov, .int .i64 vl] 0 true) := by rw [← hH3, Hp.get_set, if_pos rfl]
        have hg3 : ∀ r, slB ov r → H3.get r = H2.get r := fun k hk => by
          have := hovlt k hk
          rw [← hH3, Hp.get_set, if_neg (by omega), Hp.get_alloc, if_neg (by omega)]
        repeat' (first
           | (refine WpL.nil (hK _ _ ?_); clear hK K; try dsimp only [thenQ, blockQ]) | refine Rx.move (hk := ?_) | refine Rx.assign (hk := ?_) | refine Rx.load (hk := ?_) | refine Rx.bin (hk := ?_) | refine Rx.fieldAddr (hk := ?_) | refine Rx.indexAddr (hk := ?_) | refine Rx.len (hk := ?_) | refine Rx.min2 (hk := ?_) | refine Rx.pick (hk := ?_) | refine Rx.alloc (hk := ?_) | refine Rx.store (hk := ?_) | refine Rx.extract (hk := ?_) | refine Rx.buildSlice (hk := ?_) | (refine Rx.guardU (hk := ?_); dsimp only [setO]) | (refine Rx.guard (h1 := fun hg => ?_) (h2 := fun hg => ?_) <;> (try simp only [Bool.not_true, Bool.not_false, reduceCtorEq] at hg) <;> (try (cases hg; done)) <;> (try have hgp := hg) <;> (try simp only [decide_eq_true_eq, decide_eq_false_iff_not] at hgp) <;> (try dsimp only [setO])) | (refine Rx.cond (h1 := fun hb => ?_) (h2 := fun hb => ?_) <;> (try simp only [Bool.not_true, Bool.not_false, reduceCtorEq] at hb) <;> (try (cases hb; done)) <;> (try have hbp := hb) <;> (try simp only [decide_eq_true_eq, decide_eq_false_iff_not] at hbp)) | refine Wp.seq ?_ | (refine Wp.ops' fun K hK => ?_) | refine Wp.block ?_ | (refine Wp.skip ?_; try dsimp only [thenQ, blockQ]) | (refine Wp.ret ?_; try dsimp only [thenQ, blockQ]) | (refine Wp.exit ?_; try simp only [thenQ, blockQ, reduceIte]))
        · have hlt : i < out.length := by omega
          obtain ⟨adr, hia, hld⟩ := hov.argsV.at (P := Try.prog) (t := 52) Try.underlying52 Try.underlying2 sz2 hlt
          have hld2 := hld H3 hg3
          rw [hget i hlt] at hld2
          have hw2 : IntKind.wrap .i64 (pickI a 20 - (i : Int)) = pickI a 20 - (i : Int) := IntWalk.i64_in _ (by omega)
          have hw5 : IntKind.wrap .i64 (i : Int) = (i : Int) := IntWalk.i64_in _ (by omega)
          repeat' (first
             | (refine WpL.nil (hK _ _ ?_); clear hK K; try dsimp only [thenQ, blockQ]) | refine Ry.move (hk := ?_) | refine Ry.assign (hk := ?_) | refine Ry.load (hk := ?_) | refine Ry.bin (hk := ?_) | refine Ry.fieldAddr (hk := ?_) | refine Ry.indexAddr (hk := ?_) | refine Ry.len (hk := ?_) | refine Ry.min2 (hk := ?_) | refine Ry.pick (hk := ?_) | refine Ry.alloc (hk := ?_) | refine Ry.store (hk := ?_) | refine Ry.extract (hk := ?_) | refine Ry.buildSlice (hk := ?_) | (refine Ry.guardU (hk := ?_); dsimp only [setO]) | (refine Ry.guard (h1 := fun hg => ?_) (h2 := fun hg => ?_) <;> (try simp only [Bool.not_true, Bool.not_false, reduceCtorEq] at hg) <;> (try (cases hg; done)) <;> (try have hgp := hg) <;> (try simp only [decide_eq_true_eq, decide_eq_false_iff_not] at hgp) <;> (try dsimp only [setO])) | (refine Ry.cond (h1 := fun hb => ?_) (h2 := fun hb => ?_) <;> (try simp only [Bool.not_true, Bool.not_false, reduceCtorEq] at hb) <;> (try (cases hb; done)) <;> (try have hbp := hb) <;> (try simp only [decide_eq_true_eq, decide_eq_false_iff_not] at hbp)) | refine Wp.seq ?_ | (refine Wp.ops' fun K hK => ?_) | refine Wp.block ?_ | (refine Wp.skip ?_; try dsimp only [thenQ, blockQ]) | (refine Wp.ret ?_; try dsimp only [thenQ, blockQ]) | (refine Wp.exit ?_; try simp only [thenQ, blockQ, reduceIte]))
          exact ⟨hlt, (by first | (simp only [sB, Nat.reduceBEq, *]; done) | rfl), (by first | (simp only [sB, Nat.reduceBEq, *]; done) | rfl), (by first | (simp only [sB, Nat.reduceBEq, *]; done) | rfl), (by first | (simp only [sB, Nat.reduceBEq, *]; done) | rfl), (by first | (simp only [sB, Nat.reduceBEq, *]; done) | rfl), (by first | (simp only [sB, Nat.reduceBEq, *]; done) | rfl), (by simp only [at_set, Nat.reduceBEq, cond_true, wrap_succ (show i < 2 ^ 62 by omega)]), hH3⟩
        · clear hi
          repeat' (first
             | (refine WpL.nil (hK _ _ ?_); clear hK K; try dsimp only [thenQ, blockQ]) | refine Ry.move (hk := ?_) | refine Ry.assign (hk := ?_) | refine Ry.load (hk := ?_) | refine Ry.bin (hk := ?_) | refine Ry.fieldAddr (hk := ?_) | refine Ry.indexAddr (hk := ?_) | refine Ry.len (hk := ?_) | refine Ry.min2 (hk := ?_) | refine Ry.pick (hk := ?_) | refine Ry.alloc (hk := ?_) | refine Ry.store (hk := ?_) | refine Ry.extract (hk := ?_) | refine Ry.buildSlice (hk := ?_) | (refine Ry.guardU (hk := ?_); dsimp only [setO]) | (refine Ry.guard (h1 := fun hg => ?_) (h2 := fun hg => ?_) <;> (try simp only [Bool.not_true, Bool.not_false, reduceCtorEq] at hg) <;> (try (cases hg; done)) <;> (try have hgp := hg) <;> (try simp only [decide_eq_true_eq, decide_eq_false_iff_not] at hgp) <;> (try dsimp only [setO])) | (refine Ry.cond (h1 := fun hb => ?_) (h2 := fun hb => ?_) <;> (try simp only [Bool.not_true, Bool.not_false, reduceCtorEq] at hb) <;> (try (cases hb; done)) <;> (try have hbp := hb) <;> (try simp only [decide_eq_true_eq, decide_eq_false_iff_not] at hbp)) | refine Wp.seq ?_ | (refine Wp.ops' fun K hK => ?_) | refine Wp.block ?_ | (refine Wp.skip ?_; try dsimp only [thenQ, blockQ]) | (refine Wp.ret ?_; try dsimp only [thenQ, blockQ]) | (refine Wp.exit ?_; try simp only [thenQ, blockQ, reduceIte]))
          refine WpL.call rfl (by (try simp only [sB, Nat.reduceBEq, *, -hK]); first | done | with_reducible rfl) (by (try simp only [sB, Nat.reduceBEq, aevals, List.cons_append, List.nil_append, *, -hK]); first | done | with_reducible rfl) ?_; simp only [List.cons_append, List.nil_append, List.append_nil]
          refine WpCall.known (r := .bool true) (by kernel_rfl) ?_
          dsimp only [setO]
          repeat' (first
             | (refine WpL.nil (hK _ _ ?_); clear hK K; try dsimp only [thenQ, blockQ]) | refine Rx.move (hk := ?_) | refine Rx.assign (hk := ?_) | refine Rx.load (hk := ?_) | refine Rx.bin (hk := ?_) | refine Rx.fieldAddr (hk := ?_) | refine Rx.indexAddr (hk := ?_) | refine Rx.len (hk := ?_) | refine Rx.min2 (hk := ?_) | refine Rx.pick (hk := ?_) | refine Rx.alloc (hk := ?_) | refine Rx.store (hk := ?_) | refine Rx.extract (hk := ?_) | refine Rx.buildSlice (hk := ?_) | (refine Rx.guardU (hk := ?_); dsimp only [setO]) | (refine Rx.guard (h1 := fun hg => ?_) (h2 := fun hg => ?_) <;> (try simp only [Bool.not_true, Bool.not_false, reduceCtorEq] at hg) <;> (try (cases hg; done)) <;> (try have hgp := hg) <;> (try simp only [decide_eq_true_eq, decide_eq_false_iff_not] at hgp) <;> (try dsimp only [setO])) | (refine Rx.cond (h1 := fun hb => ?_) (h2 := fun hb => ?_) <;> (try simp only [Bool.not_true, Bool.not_false, reduceCtorEq] at hb) <;> (try (cases hb; done)) <;> (try have hbp := hb) <;> (try simp only [decide_eq_true_eq, decide_eq_false_iff_not] at hbp)) | refine Wp.seq ?_ | (refine Wp.ops' fun K hK => ?_) | refine Wp.block ?_ | (refine Wp.skip ?_; try dsimp only [thenQ, blockQ]) | (refine Wp.ret ?_; try dsimp only [thenQ, blockQ]) | (refine Wp.exit ?_; try simp only [thenQ, blockQ, reduceIte]))
          all_goals (refine ⟨by first | exact .inl rfl | exact .inr rfl | exact .inl trivial | exact .inr trivial, _, (by (try simp only [sB, Nat.reduceBEq, resultsA, resultA, *]); first | done | with_reducible rfl), ?_⟩; try simp only [oneOr])
      · exact ⟨(by first | (simp only [sB, Nat.reduceBEq, *]; done) | rfl), (by first | (simp only [sB, Nat.reduceBEq, *]; done) | rfl), (by first | (simp only [sB, Nat.reduceBEq, *]; done) | rfl), (by first | (simp only [sB, Nat.reduceBEq, *]; done) | rfl), (by first | (simp only [sB, Nat.reduceBEq, *]; done) | rfl), (by first | (simp only [sB, Nat.reduceBEq, *]; done) | rfl), (by first | (simp only [sB, Nat.reduceBEq, *]; done) | rfl), rfl⟩
  · rw [Hp.get_alloc, if_pos (by rfl)]; rfl
  · rintro b ⟨o, n, z, e⟩
    simp only [AV.sl.injEq] at e
    rw [← e.1]; show 2 < 3; omega

theorem con (a b c : Int) : Con Try.prog (fun _ => 0) 11 [.int .i64 a, .int .i64 b, .int .i64 c] (.bool true) :=
  Con.of_wp (cfg := cfg) (k := 1) (m := 1) fit (decL_ok (factsOk_nil _)) (lookK_ok (known_ok _)) (pure_ints [a, b, c]) (WpCall.mono (fun v H' h => by rw [h]; rfl) (law a b c))

theorem walk (a0 : Int) (a1 : Int) (a2 : Int) (w0 : (Lit.int .i64 a0).wf = true) (w1 : (Lit.int .i64 a1).wf = true) (w2 : (Lit.int .i64 a2).wf = true) (w : World) :
    Calls Try.prog 11 #[.int .i64 a0, .int .i64 a1, .int .i64 a2] w fun e w' => e = .returned (.bool true) ∧ Below w.heap.size w w' :=
  Con.walk (ρ := fun _ => 0) (F := fun _ _ => none) (con a0 a1 a2) (fun _ _ _ h => by simp at h) (VRs.cons (.int .i64 a0) (VRs.cons (.int .i64 a1) (VRs.cons (.int .i64 a2) (VRs.nil _))))

/-! ### THE ROW's STEP: WRITTEN OUT: LEAVE IT -/
set_option maxRecDepth 100000 in
theorem lifted (os : Os) (started : os.Started) (H : Type) (enc : TypeId × Value → H) :
    ReturnsInHanded {} Try.checked os 11 .any (Rows.interpCallsSpec.pre6 enc Try.prog Try.f11 Rows.interpCallsRow.domain false) (Rows.interpCallsSpec.post enc Try.prog Try.f11 false true false false) := by
  refine returnsInHanded_of_change (C := Try.checked) own started (by kernel_rfl) Try.func11
    (ChangeSpec.witness6 (enc := enc) (C := Try.checked) false ⟨#[], #[.int .i64 0, .int .i64 0, .int .i64 0], []⟩ 8 (by kernel_rfl) (by kernel_rfl) (by kernel_rfl) (by kernel_rfl)) ?_
  intro W base args ds gs before hval0 hW hcnd _
  have hval : ∀ (j : Nat) t v, Try.f11.params[j]? = some t → args[j]? = some v → Value.okWide Try.prog W .any base t v := hval0
  have hW' := hW
  obtain ⟨p, q, hA0, hV, rfl, hfz, hnd⟩ := hW
  have hA : DataW.TrodAll enc Try.prog W 0 (fun _ => true) true Try.f11.params.toList args.toList ds p := hA0
  rw [Try.params11] at hA hval
  obtain ⟨v0, vs0, d0, ds0, p0, q0, hargs, rfl, rfl, h0, r0⟩ := trodAll_cons hA
  obtain ⟨v1, vs1, d1, ds1, p1, q1, rfl, rfl, rfl, h1, r1⟩ := trodAll_cons r0
  obtain ⟨v2, vs2, d2, ds2, p2, q2, rfl, rfl, rfl, h2, r2⟩ := trodAll_cons r1
  obtain ⟨rfl, rfl, rfl⟩ := trodAll_nil r2
  obtain rfl : args = #[v0, v1, v2] := by cases args; simp_all
  obtain ⟨rfl, rfl⟩ := trodVars_none hV
  obtain ⟨a0, rfl, rfl, rfl, w0⟩ := open_int Try.underlying3 (hval 0 3 v0 rfl rfl) h0
  obtain ⟨a1, rfl, rfl, rfl, w1⟩ := open_int Try.underlying3 (hval 1 3 v1 rfl rfl) h1
  obtain ⟨a2, rfl, rfl, rfl, w2⟩ := open_int Try.underlying2 (hval 2 2 v2 rfl rfl) h2
  clear hA0 hval0
  simp only [List.append_nil] at hW'
  refine (walk a0 a1 a2 w0 w1 w2 W).mono fun e W' ⟨he, hg⟩ => ?_
  subst he
  exact ⟨_, rfl, post_of_below (pa := []) (pv := []) hW' (fun _ _ _ => (trodAll_cons_mk (shut_bool Try.underlying4 _) trodAll_mk0)) (fun sp _ => (trodAll_cons_mk (shut_int Try.underlying3 w0) (trodAll_cons_mk (shut_int Try.underlying3 w1) (trodAll_cons_mk (shut_int Try.underlying2 w2) trodAll_mk0)))) (fun _ _ => rfl) rfl
    hg (ok_one (by kernel_rfl) rfl (okWide_bool_mk Try.underlying4 _))⟩

theorem over : Rows.interpCallsRow.holds Try.pinned (OpenSpec.ofChange Rows.interpCallsSpec) :=
  OpenClaim.holds_of_wide 11 Try.f11 rfl rfl rfl rfl rfl rfl rfl ⟨rfl, rfl, rfl, rfl, rfl⟩ rfl rfl rfl rfl rfl (by kernel_rfl) Try.func11 (by kernel_rfl)
    (of_decide_eq_true (by kernel_rfl)) (by unfold Func.isWrapper; first | (rw [if_pos (by decide +kernel)]; kernel_rfl) | (rw [if_neg (by decide +kernel)]; exact ⟨rfl, rfl⟩))
    (fun os started H enc _ => lifted os started H enc)

/-- ████ THE STATEMENT ████ -/
theorem proved : Rows.InterpCallsSaid :=
  over
#print axioms proved

end Go.Proofs.Ytlanljjbcpepjaa.interpCalls
