/- The interpreter: trap, tick, store. -/
import Derived.Test.YtlanljjbcpepjaaW6a
import Derived.Test.YtlanljjbcpepjaaRep6
namespace Go.Proofs.Ytlanljjbcpepjaa
set_option linter.unusedSimpArgs false
set_option linter.unusedVariables false
set_option linter.unusedSectionVars false
set_option linter.defProp false
open Go Go.Ab
namespace tyW6b
def tyF := And.intro @sz3 (And.intro @pt3 (And.intro @bt3 (And.intro @zr3 (And.intro @sz25 (And.intro @pt25 (And.intro @bt25 (And.intro @zr25 (And.intro @fa25_0p (And.intro @fa25_0c (And.intro @fd25_0 (And.intro @fa25_1p (And.intro @fa25_1c (And.intro @fd25_1 (And.intro @sz52 (And.intro @pt52 (And.intro @bt52 (And.intro @zr52 (And.intro @ix52l (And.intro @ix52s (And.intro @ln52l (And.intro @ln52s (And.intro @ln52n (And.intro @sz85 (And.intro @pt85 (And.intro @bt85 (And.intro @zr85 (And.intro @sz86 (And.intro @pt86 (And.intro @bt86 (And.intro @zr86 (And.intro @sz88 (And.intro @pt88 (And.intro @bt88 (And.intro @zr88 (And.intro @fa88_0p (And.intro @fa88_0c (And.intro @fd88_0 (And.intro @fa88_1p (And.intro @fa88_1c (And.intro @fd88_1 (And.intro @fa88_2p (And.intro @fa88_2c (And.intro @fd88_2 (And.intro @fa88_3p (And.intro @fa88_3c (And.intro @fd88_3 (And.intro @fa88_4p (And.intro @fa88_4c (And.intro @fd88_4 (And.intro @fa88_5p (And.intro @fa88_5c (And.intro @fd88_5 (And.intro @fa88_6p (And.intro @fa88_6c (And.intro @fd88_6 (And.intro @sz2 (And.intro @pt2 (And.intro @bt2 (And.intro @zr2 (And.intro @ints_len (@take_set)))))))))))))))))))))))))))))))))))))))))))))))))))))))))))))
end tyW6b
open tyW6b

noncomputable def code100 : { c : SC // slim 16 (Try.f100.body.getD .skip) = c } := by
  refine ⟨?_, ?_⟩
  rotate_left
  · simp only [Try.f100, Option.getD_some, slim, slimR, slimL, slimD, slimG, Nat.blt, Nat.ble]
    rfl
noncomputable def code112 : { c : SC // slim 22 (Try.f112.body.getD .skip) = c } := by
  refine ⟨?_, ?_⟩
  rotate_left
  · simp only [Try.f112, Option.getD_some, slim, slimR, slimL, slimD, slimG, Nat.blt, Nat.ble]
    rfl
noncomputable def code111 : { c : SC // slim 27 (Try.f111.body.getD .skip) = c } := by
  refine ⟨?_, ?_⟩
  rotate_left
  · simp only [Try.f111, Option.getD_some, slim, slimR, slimL, slimD, slimG, Nat.blt, Nat.ble]
    rfl

theorem trap_wp {cfg : Cfg} (hS : Std cfg) (X : Mx) (s : MS) (ov : AV) (c : Int) (H : Hp) (hR : RepM X H s ov) :
    WpCall Try.prog cfg 100 [.ptr X.rm 0, .int .i64 c] H fun v H' => RepM X H' (trapM c s) ov ∧ FrE X H H' := by
  have hm := hR.m
  unfold mc at hm
  by_cases h0 : s.fin = 0
  · refine WpCall.slim (M := 16) (rs := []) ((hS.plain _ rfl).call _) (hS.plain _ rfl).ice (hS.plain _ rfl).froz Try.func100 rfl rfl code100.2 rfl ?_; dsimp only [code100, envOf, Nat.reduceAdd]
    repeat' (first
       | (refine WpL.nil (hK _ _ ?_); clear hK K; try dsimp only [thenQ, blockQ]) | refine Ry.move (hk := ?_) | refine Ry.load (hk := ?_) | refine Ry.bin (hk := ?_) | refine Ry.fieldAddr (hk := ?_) | refine Ry.nilCheck (hk := ?_) | refine Ry.store (hk := ?_) | (refine Ry.cond (h1 := fun hb => ?_) (h2 := fun hb => ?_) <;> (try simp only [Bool.not_true, Bool.not_false, reduceCtorEq] at hb) <;> (try (cases hb; done)) <;> (try have hbp := hb) <;> (try simp only [decide_eq_true_eq, decide_eq_false_iff_not] at hbp)) | refine Wp.seq ?_ | (refine Wp.ops' fun K hK => ?_) | refine Wp.block ?_ | (refine Wp.skip ?_; try dsimp only [thenQ, blockQ]) | (refine Wp.ret ?_; try dsimp only [thenQ, blockQ]) | (refine Wp.exit ?_; try simp only [thenQ, blockQ, reduceIte]))
    all_goals (refine ⟨by first | exact .inl rfl | exact .inr rfl | exact .inl trivial | exact .inr trivial, _, (by (try simp only [sB, Nat.reduceBEq, resultsA, resultA, *]); first | done | with_reducible rfl), ?_⟩; try simp only [oneOr])
    have fr : ∀ a b, FrE X H ((H.set X.rm a).set X.rm b) := fun a b => ((FrE.refl _ _).set (.inl rfl) _).set (.inl rfl) _
    refine ⟨hR.upd (fr _ _) ?_ ?_ ?_, fr _ _⟩
    · simp only [Hp.get_set, if_true, mc, trapM, h0]
    · simp only [trapM, h0, if_true]
    · simp only [trapM, h0, if_true]
  · refine WpCall.slim (M := 16) (rs := []) ((hS.plain _ rfl).call _) (hS.plain _ rfl).ice (hS.plain _ rfl).froz Try.func100 rfl rfl code100.2 rfl ?_; dsimp only [code100, envOf, Nat.reduceAdd]
    repeat' (first
       | (refine WpL.nil (hK _ _ ?_); clear hK K; try dsimp only [thenQ, blockQ]) | refine Ry.move (hk := ?_) | refine Ry.load (hk := ?_) | refine Ry.bin (hk := ?_) | refine Ry.fieldAddr (hk := ?_) | refine Ry.nilCheck (hk := ?_) | refine Ry.store (hk := ?_) | (refine Ry.cond (h1 := fun hb => ?_) (h2 := fun hb => ?_) <;> (try simp only [Bool.not_true, Bool.not_false, reduceCtorEq] at hb) <;> (try (cases hb; done)) <;> (try have hbp := hb) <;> (try simp only [decide_eq_true_eq, decide_eq_false_iff_not] at hbp)) | refine Wp.seq ?_ | (refine Wp.ops' fun K hK => ?_) | refine Wp.block ?_ | (refine Wp.skip ?_; try dsimp only [thenQ, blockQ]) | (refine Wp.ret ?_; try dsimp only [thenQ, blockQ]) | (refine Wp.exit ?_; try simp only [thenQ, blockQ, reduceIte]))
    all_goals (refine ⟨by first | exact .inl rfl | exact .inr rfl | exact .inl trivial | exact .inr trivial, _, (by (try simp only [sB, Nat.reduceBEq, resultsA, resultA, *]); first | done | with_reducible rfl), ?_⟩; try simp only [oneOr])
    rw [trapM, if_neg h0]
    exact ⟨hR, FrE.refl _ _⟩

theorem tick_wp {cfg : Cfg} (hS : Std cfg) (X : Mx) (s : MS) (ov : AV) (H : Hp) (hR : RepM X H s ov) :
    WpCall Try.prog cfg 112 [.ptr X.rm 0] H fun v H' => RepM X H' (tickM s) ov ∧ FrE X H H' := by
  have hm := hR.m
  unfold mc at hm
  by_cases h0 : s.fin = 0
  · by_cases h1 : s.fuel = 0
    · refine WpCall.slim (M := 22) (rs := []) ((hS.plain _ rfl).call _) (hS.plain _ rfl).ice (hS.plain _ rfl).froz Try.func112 rfl rfl code112.2 rfl ?_; dsimp only [code112, envOf, Nat.reduceAdd]
      repeat' (first
         | (refine WpL.nil (hK _ _ ?_); clear hK K; try dsimp only [thenQ, blockQ]) | refine Ry.move (hk := ?_) | refine Ry.load (hk := ?_) | refine Ry.bin (hk := ?_) | refine Ry.fieldAddr (hk := ?_) | refine Ry.nilCheck (hk := ?_) | refine Ry.store (hk := ?_) | (refine Ry.cond (h1 := fun hb => ?_) (h2 := fun hb => ?_) <;> (try simp only [Bool.not_true, Bool.not_false, reduceCtorEq] at hb) <;> (try (cases hb; done)) <;> (try have hbp := hb) <;> (try simp only [decide_eq_true_eq, decide_eq_false_iff_not] at hbp)) | refine Wp.seq ?_ | (refine Wp.ops' fun K hK => ?_) | refine Wp.block ?_ | (refine Wp.skip ?_; try dsimp only [thenQ, blockQ]) | (refine Wp.ret ?_; try dsimp only [thenQ, blockQ]) | (refine Wp.exit ?_; try simp only [thenQ, blockQ, reduceIte]))
      all_goals (refine ⟨by first | exact .inl rfl | exact .inr rfl | exact .inl trivial | exact .inr trivial, _, (by (try simp only [sB, Nat.reduceBEq, resultsA, resultA, *]); first | done | with_reducible rfl), ?_⟩; try simp only [oneOr])
      have fr : ∀ a, FrE X H (H.set X.rm a) := fun a => (FrE.refl _ _).set (.inl rfl) _
      refine ⟨hR.upd (fr _) ?_ ?_ ?_, fr _⟩ <;> simp [tickM, h0, h1, mc, Hp.get_set]
    · refine WpCall.slim (M := 22) (rs := []) ((hS.plain _ rfl).call _) (hS.plain _ rfl).ice (hS.plain _ rfl).froz Try.func112 rfl rfl code112.2 rfl ?_; dsimp only [code112, envOf, Nat.reduceAdd]
      repeat' (first
         | (refine WpL.nil (hK _ _ ?_); clear hK K; try dsimp only [thenQ, blockQ]) | refine Ry.move (hk := ?_) | refine Ry.load (hk := ?_) | refine Ry.bin (hk := ?_) | refine Ry.fieldAddr (hk := ?_) | refine Ry.nilCheck (hk := ?_) | refine Ry.store (hk := ?_) | (refine Ry.cond (h1 := fun hb => ?_) (h2 := fun hb => ?_) <;> (try simp only [Bool.not_true, Bool.not_false, reduceCtorEq] at hb) <;> (try (cases hb; done)) <;> (try have hbp := hb) <;> (try simp only [decide_eq_true_eq, decide_eq_false_iff_not] at hbp)) | refine Wp.seq ?_ | (refine Wp.ops' fun K hK => ?_) | refine Wp.block ?_ | (refine Wp.skip ?_; try dsimp only [thenQ, blockQ]) | (refine Wp.ret ?_; try dsimp only [thenQ, blockQ]) | (refine Wp.exit ?_; try simp only [thenQ, blockQ, reduceIte]))
      all_goals (refine ⟨by first | exact .inl rfl | exact .inr rfl | exact .inl trivial | exact .inr trivial, _, (by (try simp only [sB, Nat.reduceBEq, resultsA, resultA, *]); first | done | with_reducible rfl), ?_⟩; try simp only [oneOr])
      have fr : ∀ a, FrE X H (H.set X.rm a) := fun a => (FrE.refl _ _).set (.inl rfl) _
      refine ⟨hR.upd (fr _) ?_ ?_ ?_, fr _⟩ <;> simp [tickM, h0, h1, mc, Hp.get_set]
  · refine WpCall.slim (M := 22) (rs := []) ((hS.plain _ rfl).call _) (hS.plain _ rfl).ice (hS.plain _ rfl).froz Try.func112 rfl rfl code112.2 rfl ?_; dsimp only [code112, envOf, Nat.reduceAdd]
    repeat' (first
       | (refine WpL.nil (hK _ _ ?_); clear hK K; try dsimp only [thenQ, blockQ]) | refine Ry.move (hk := ?_) | refine Ry.load (hk := ?_) | refine Ry.bin (hk := ?_) | refine Ry.fieldAddr (hk := ?_) | refine Ry.nilCheck (hk := ?_) | refine Ry.store (hk := ?_) | (refine Ry.cond (h1 := fun hb => ?_) (h2 := fun hb => ?_) <;> (try simp only [Bool.not_true, Bool.not_false, reduceCtorEq] at hb) <;> (try (cases hb; done)) <;> (try have hbp := hb) <;> (try simp only [decide_eq_true_eq, decide_eq_false_iff_not] at hbp)) | refine Wp.seq ?_ | (refine Wp.ops' fun K hK => ?_) | refine Wp.block ?_ | (refine Wp.skip ?_; try dsimp only [thenQ, blockQ]) | (refine Wp.ret ?_; try dsimp only [thenQ, blockQ]) | (refine Wp.exit ?_; try simp only [thenQ, blockQ, reduceIte]))
    all_goals (refine ⟨by first | exact .inl rfl | exact .inr rfl | exact .inl trivial | exact .inr trivial, _, (by (try simp only [sB, Nat.reduceBEq, resultsA, resultA, *]); first | done | with_reducible rfl), ?_⟩; try simp only [oneOr])
    rw [tickM, if_pos h0]
    exact ⟨hR, FrE.refl _ _⟩

theorem store_wp {cfg : Cfg} (hS : Std cfg) (X : Mx) (s : MS) (ov : AV) (nm : Nm) (lv : AV) (a x : Int) (H : Hp) (hR : RepM X H s ov) (hL : CellV X s nm lv) :
    WpCall Try.prog cfg 111 [.ptr X.rm 0, lv, .int .i64 a, .int .i64 x] H fun v H' => RepM X H' (storeM nm a x s) ov ∧ FrA X H H' := by
  have hlen : lenAt Try.prog H 52 lv = _ := hL.len Try.underlying52
  by_cases hbad : a < 0 ∨ ((lkC s.cells nm).length : Int) ≤ a
  · rw [storeM_bad hbad]
    have hbad2 : ¬ a < 0 → ((lkC s.cells nm).length : Int) ≤ a := fun h => by omega
    refine WpCall.slim (M := 27) (rs := []) ((hS.plain _ rfl).call _) (hS.plain _ rfl).ice (hS.plain _ rfl).froz Try.func111 rfl rfl code111.2 rfl ?_; dsimp only [code111, envOf, Nat.reduceAdd]
    repeat' (first
       | (refine WpL.nil (hK _ _ ?_); clear hK K; try dsimp only [thenQ, blockQ]) | refine Rx.move (hk := ?_) | refine Rx.load (hk := ?_) | refine Rx.bin (hk := ?_) | refine Rx.fieldAddr (hk := ?_) | refine Rx.indexAddr (hk := ?_) | refine Rx.len (hk := ?_) | refine Rx.pick (hk := ?_) | refine Rx.nilCheck (hk := ?_) | refine Rx.store (hk := ?_) | (refine Rx.guardU (hk := ?_); dsimp only [setO]) | (refine Rx.guard (h1 := fun hg => ?_) (h2 := fun hg => ?_) <;> (try simp only [Bool.not_true, Bool.not_false, reduceCtorEq] at hg) <;> (try (cases hg; done)) <;> (try have hgp := hg) <;> (try simp only [decide_eq_true_eq, decide_eq_false_iff_not] at hgp) <;> (try dsimp only [setO])) | (refine Rx.cond (h1 := fun hb => ?_) (h2 := fun hb => ?_) <;> (try simp only [Bool.not_true, Bool.not_false, reduceCtorEq] at hb) <;> (try (cases hb; done)) <;> (try have hbp := hb) <;> (try simp only [decide_eq_true_eq, decide_eq_false_iff_not] at hbp)) | refine Wp.seq ?_ | (refine Wp.ops' fun K hK => ?_) | refine Wp.block ?_ | (refine Wp.skip ?_; try dsimp only [thenQ, blockQ]) | (refine Wp.ret ?_; try dsimp only [thenQ, blockQ]) | (refine Wp.exit ?_; try simp only [thenQ, blockQ, reduceIte]))
    · refine WpL.call rfl (by (try simp only [sB, Nat.reduceBEq, *, -hK]); first | done | with_reducible rfl) (by (try simp only [sB, Nat.reduceBEq, aevals, List.cons_append, List.nil_append, *, -hK]); first | done | with_reducible rfl) ?_; simp only [List.cons_append, List.nil_append, List.append_nil]
      refine WpCall.mono ?_ (trap_wp hS X s ov 2 H hR)
      rintro v H2 ⟨hR2, hf2⟩
      dsimp only [setO]
      have hm2 := hR2.m
      unfold mc at hm2
      have hfin := trapM_fin 2 s
      repeat' (first
         | (refine WpL.nil (hK _ _ ?_); clear hK K; try dsimp only [thenQ, blockQ]) | refine Ry.move (hk := ?_) | refine Ry.load (hk := ?_) | refine Ry.bin (hk := ?_) | refine Ry.fieldAddr (hk := ?_) | refine Ry.indexAddr (hk := ?_) | refine Ry.len (hk := ?_) | refine Ry.pick (hk := ?_) | refine Ry.nilCheck (hk := ?_) | refine Ry.store (hk := ?_) | (refine Ry.guardU (hk := ?_); dsimp only [setO]) | (refine Ry.guard (h1 := fun hg => ?_) (h2 := fun hg => ?_) <;> (try simp only [Bool.not_true, Bool.not_false, reduceCtorEq] at hg) <;> (try (cases hg; done)) <;> (try have hgp := hg) <;> (try simp only [decide_eq_true_eq, decide_eq_false_iff_not] at hgp) <;> (try dsimp only [setO])) | (refine Ry.cond (h1 := fun hb => ?_) (h2 := fun hb => ?_) <;> (try simp only [Bool.not_true, Bool.not_false, reduceCtorEq] at hb) <;> (try (cases hb; done)) <;> (try have hbp := hb) <;> (try simp only [decide_eq_true_eq, decide_eq_false_iff_not] at hbp)) | refine Wp.seq ?_ | (refine Wp.ops' fun K hK => ?_) | refine Wp.block ?_ | (refine Wp.skip ?_; try dsimp only [thenQ, blockQ]) | (refine Wp.ret ?_; try dsimp only [thenQ, blockQ]) | (refine Wp.exit ?_; try simp only [thenQ, blockQ, reduceIte]))
      all_goals (refine ⟨by first | exact .inl rfl | exact .inr rfl | exact .inl trivial | exact .inr trivial, _, (by (try simp only [sB, Nat.reduceBEq, resultsA, resultA, *]); first | done | with_reducible rfl), ?_⟩; try simp only [oneOr])
      exact ⟨hR2, hf2.toA⟩
    · refine WpL.call rfl (by (try simp only [sB, Nat.reduceBEq, *, -hK]); first | done | with_reducible rfl) (by (try simp only [sB, Nat.reduceBEq, aevals, List.cons_append, List.nil_append, *, -hK]); first | done | with_reducible rfl) ?_; simp only [List.cons_append, List.nil_append, List.append_nil]
      refine WpCall.mono ?_ (trap_wp hS X s ov 2 H hR)
      rintro v H2 ⟨hR2, hf2⟩
      dsimp only [setO]
      have hm2 := hR2.m
      unfold mc at hm2
      have hfin := trapM_fin 2 s
      repeat' (first
         | (refine WpL.nil (hK _ _ ?_); clear hK K; try dsimp only [thenQ, blockQ]) | refine Ry.move (hk := ?_) | refine Ry.load (hk := ?_) | refine Ry.bin (hk := ?_) | refine Ry.fieldAddr (hk := ?_) | refine Ry.indexAddr (hk := ?_) | refine Ry.len (hk := ?_) | refine Ry.pick (hk := ?_) | refine Ry.nilCheck (hk := ?_) | refine Ry.store (hk := ?_) | (refine Ry.guardU (hk := ?_); dsimp only [setO]) | (refine Ry.guard (h1 := fun hg => ?_) (h2 := fun hg => ?_) <;> (try simp only [Bool.not_true, Bool.not_false, reduceCtorEq] at hg) <;> (try (cases hg; done)) <;> (try have hgp := hg) <;> (try simp only [decide_eq_true_eq, decide_eq_false_iff_not] at hgp) <;> (try dsimp only [setO])) | (refine Ry.cond (h1 := fun hb => ?_) (h2 := fun hb => ?_) <;> (try simp only [Bool.not_true, Bool.not_false, reduceCtorEq] at hb) <;> (try (cases hb; done)) <;> (try have hbp := hb) <;> (try simp only [decide_eq_true_eq, decide_eq_false_iff_not] at hbp)) | refine Wp.seq ?_ | (refine Wp.ops' fun K hK => ?_) | refine Wp.block ?_ | (refine Wp.skip ?_; try dsimp only [thenQ, blockQ]) | (refine Wp.ret ?_; try dsimp only [thenQ, blockQ]) | (refine Wp.exit ?_; try simp only [thenQ, blockQ, reduceIte]))
      all_goals (refine ⟨by first | exact .inl rfl | exact .inr rfl | exact .inl trivial | exact .inr trivial, _, (by (try simp only [sB, Nat.reduceBEq, resultsA, resultA, *]); first | done | with_reducible rfl), ?_⟩; try simp only [oneOr])
      exact ⟨hR2, hf2.toA⟩
  · have ha0 : 0 ≤ a := by omega
    have hal : a < (lkC s.cells nm).length := by omega
    rw [storeM_ok ha0 hal]
    have h1 : ¬ a < 0 := by omega
    have h2 : ¬ ((lkC s.cells nm).length : Int) ≤ a := by omega
    have hm := hR.m
    unfold mc at hm
    by_cases h0 : s.fin = 0
    · rcases hL with ⟨rfl, h4, _⟩ | ⟨j, r, nm', hr, hc, rfl, hset⟩
      · rw [h4] at hal; simp at hal; omega
      · have hg := hR.cell j r nm' _ hr hc
        have hlt : a.toNat < (lkC s.cells nm).length := by omega
        have hle : a.toNat + 1 ≤ (lkC s.cells nm).length := hlt
        refine WpCall.slim (M := 27) (rs := []) ((hS.plain _ rfl).call _) (hS.plain _ rfl).ice (hS.plain _ rfl).froz Try.func111 rfl rfl code111.2 rfl ?_; dsimp only [code111, envOf, Nat.reduceAdd]
        repeat' (first
           | (refine WpL.nil (hK _ _ ?_); clear hK K; try dsimp only [thenQ, blockQ]) | refine Ry.move (hk := ?_) | refine Ry.load (hk := ?_) | refine Ry.bin (hk := ?_) | refine Ry.fieldAddr (hk := ?_) | refine Ry.indexAddr (hk := ?_) | refine Ry.len (hk := ?_) | refine Ry.pick (hk := ?_) | refine Ry.nilCheck (hk := ?_) | refine Ry.store (hk := ?_) | (refine Ry.guardU (hk := ?_); dsimp only [setO]) | (refine Ry.guard (h1 := fun hg => ?_) (h2 := fun hg => ?_) <;> (try simp only [Bool.not_true, Bool.not_false, reduceCtorEq] at hg) <;> (try (cases hg; done)) <;> (try have hgp := hg) <;> (try simp only [decide_eq_true_eq, decide_eq_false_iff_not] at hgp) <;> (try dsimp only [setO])) | (refine Ry.cond (h1 := fun hb => ?_) (h2 := fun hb => ?_) <;> (try simp only [Bool.not_true, Bool.not_false, reduceCtorEq] at hb) <;> (try (cases hb; done)) <;> (try have hbp := hb) <;> (try simp only [decide_eq_true_eq, decide_eq_false_iff_not] at hbp)) | refine Wp.seq ?_ | (refine Wp.ops' fun K hK => ?_) | refine Wp.block ?_ | (refine Wp.skip ?_; try dsimp only [thenQ, blockQ]) | (refine Wp.ret ?_; try dsimp only [thenQ, blockQ]) | (refine Wp.exit ?_; try simp only [thenQ, blockQ, reduceIte]))
        all_goals (refine ⟨by first | exact .inl rfl | exact .inr rfl | exact .inl trivial | exact .inr trivial, _, (by (try simp only [sB, Nat.reduceBEq, resultsA, resultA, *]); first | done | with_reducible rfl), ?_⟩; try simp only [oneOr])
        rw [if_pos h0, hset, List.append_assoc, List.cons_append, List.nil_append, take_set hlt]
        refine ⟨hR.cellSet hr hc (by simp), Nat.le_refl _, fun k hk hno => ?_⟩
        rw [Hp.get_set, if_neg (fun e => hno (.inr (by rw [e]; exact List.mem_of_getElem? hr)))]
    · refine WpCall.slim (M := 27) (rs := []) ((hS.plain _ rfl).call _) (hS.plain _ rfl).ice (hS.plain _ rfl).froz Try.func111 rfl rfl code111.2 rfl ?_; dsimp only [code111, envOf, Nat.reduceAdd]
      repeat' (first
         | (refine WpL.nil (hK _ _ ?_); clear hK K; try dsimp only [thenQ, blockQ]) | refine Ry.move (hk := ?_) | refine Ry.load (hk := ?_) | refine Ry.bin (hk := ?_) | refine Ry.fieldAddr (hk := ?_) | refine Ry.indexAddr (hk := ?_) | refine Ry.len (hk := ?_) | refine Ry.pick (hk := ?_) | refine Ry.nilCheck (hk := ?_) | refine Ry.store (hk := ?_) | (refine Ry.guardU (hk := ?_); dsimp only [setO]) | (refine Ry.guard (h1 := fun hg => ?_) (h2 := fun hg => ?_) <;> (try simp only [Bool.not_true, Bool.not_false, reduceCtorEq] at hg) <;> (try (cases hg; done)) <;> (try have hgp := hg) <;> (try simp only [decide_eq_true_eq, decide_eq_false_iff_not] at hgp) <;> (try dsimp only [setO])) | (refine Ry.cond (h1 := fun hb => ?_) (h2 := fun hb => ?_) <;> (try simp only [Bool.not_true, Bool.not_false, reduceCtorEq] at hb) <;> (try (cases hb; done)) <;> (try have hbp := hb) <;> (try simp only [decide_eq_true_eq, decide_eq_false_iff_not] at hbp)) | refine Wp.seq ?_ | (refine Wp.ops' fun K hK => ?_) | refine Wp.block ?_ | (refine Wp.skip ?_; try dsimp only [thenQ, blockQ]) | (refine Wp.ret ?_; try dsimp only [thenQ, blockQ]) | (refine Wp.exit ?_; try simp only [thenQ, blockQ, reduceIte]))
      all_goals (refine ⟨by first | exact .inl rfl | exact .inr rfl | exact .inl trivial | exact .inr trivial, _, (by (try simp only [sB, Nat.reduceBEq, resultsA, resultA, *]); first | done | with_reducible rfl), ?_⟩; try simp only [oneOr])
      rw [if_neg h0]
      exact ⟨hR, FrA.refl _ _⟩
end Go.Proofs.Ytlanljjbcpepjaa
