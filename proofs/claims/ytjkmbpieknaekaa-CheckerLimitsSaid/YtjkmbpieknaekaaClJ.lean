/- Parts: W4f, W4g, W4h, W4i, W4j, W4k. -/
import Derived.Test.YtjkmbpieknaekaaClI
set_option linter.unusedSimpArgs false
set_option linter.unusedVariables false
set_option linter.unusedSectionVars false
set_option linter.defProp false
namespace Go.Proofs.Ytjkmbpieknaekaa
set_option maxRecDepth 20000
set_option linter.unusedSimpArgs false
set_option linter.unusedVariables false
set_option linter.unusedSectionVars false
set_option linter.defProp false
open Go Go.Ab
namespace tyW4f
def tyF := And.intro @sz3 (And.intro @pt3 (And.intro @bt3 (And.intro @zr3 (And.intro @sz5 (And.intro @pt5 (And.intro @bt5 (And.intro @zr5 (And.intro @sz9 (And.intro @pt9 (And.intro @bt9 (And.intro @zr9 (And.intro @ln9 (@ix9)))))))))))))
end tyW4f
open tyW4f
noncomputable def code120 : { c : SC // slim 21 (Try.f120.body.getD .skip) = c } := by
  refine ⟨?_, ?_⟩
  rotate_left
  · simp only [Try.f120, Option.getD_some, slim, slimR, slimL, slimD, slimG, Nat.blt, Nat.ble]
    rfl
noncomputable def code115 : { c : SC // slim 9 (Try.f115.body.getD .skip) = c } := by
  refine ⟨?_, ?_⟩
  rotate_left
  · simp only [Try.f115, Option.getD_some, slim, slimR, slimL, slimD, slimG, Nat.blt, Nat.ble]
    rfl
noncomputable def code113 : { c : SC // slim 23 (Try.f113.body.getD .skip) = c } := by
  refine ⟨?_, ?_⟩
  rotate_left
  · simp only [Try.f113, Option.getD_some, slim, slimR, slimL, slimD, slimG, Nat.blt, Nat.ble]
    rfl
noncomputable def code104 : { c : SC // slim 34 (Try.f104.body.getD .skip) = c } := by
  refine ⟨?_, ?_⟩
  rotate_left
  · simp only [Try.f104, Option.getD_some, slim, slimR, slimL, slimD, slimG, Nat.blt, Nat.ble]
    rfl
noncomputable def code116 : { c : SC // slim 37 (Try.f116.body.getD .skip) = c } := by
  refine ⟨?_, ?_⟩
  rotate_left
  · simp only [Try.f116, Option.getD_some, slim, slimR, slimL, slimD, slimG, Nat.blt, Nat.ble]
    rfl
theorem isLetter_wp {cfg : Cfg} (hw : Plain cfg 120) (n : Int) (H : Hp) : WpCall Try.prog cfg 120 [.int .u8 n] H fun v H' => v = .bool (letterI n) ∧ H' = H := by
  refine WpCall.slim (M := 21) (rs := [.tmp 2]) (hw.call _) hw.ice hw.froz Try.func120 rfl rfl code120.2 rfl ?_; dsimp only [code120, envOf, Nat.reduceAdd]
  repeat' (first
     | (refine WpL.nil (hK _ _ ?_); clear hK K; try dsimp only [thenQ, blockQ]) | refine Rx.move (hk := ?_) | refine Rx.assign (hk := ?_) | refine Rx.bin (hk := ?_) | refine Rx.pick (hk := ?_) | (refine Rx.guardU (hk := ?_); dsimp only [setO]) | (refine Rx.guard (h1 := fun hg => ?_) (h2 := fun hg => ?_) <;> (try simp only [Bool.not_true, Bool.not_false, reduceCtorEq] at hg) <;> (try (cases hg; done)) <;> (try have hgp := hg) <;> (try simp only [decide_eq_true_eq, decide_eq_false_iff_not] at hgp) <;> (try dsimp only [setO])) | (refine Rx.cond (h1 := fun hb => ?_) (h2 := fun hb => ?_) <;> (try simp only [Bool.not_true, Bool.not_false, reduceCtorEq] at hb) <;> (try (cases hb; done)) <;> (try have hbp := hb) <;> (try simp only [decide_eq_true_eq, decide_eq_false_iff_not] at hbp)) | refine Wp.seq ?_ | (refine Wp.ops' fun K hK => ?_) | refine Wp.block ?_ | (refine Wp.skip ?_; try dsimp only [thenQ, blockQ]) | (refine Wp.ret ?_; try dsimp only [thenQ, blockQ]) | (refine Wp.exit ?_; try simp only [thenQ, blockQ, reduceIte]))
  all_goals (refine ⟨by first | exact .inl rfl | exact .inr rfl | exact .inl trivial | exact .inr trivial, _, (by (try simp only [sB, Nat.reduceBEq, resultsA, resultA, *]); first | done | with_reducible rfl), ?_⟩; try simp only [oneOr])
  all_goals (refine ⟨?_, by first | rfl | trivial⟩; simp_all [letterI] <;> omega)
theorem isDigit_wp {cfg : Cfg} (hw : Plain cfg 115) (n : Int) (H : Hp) : WpCall Try.prog cfg 115 [.int .u8 n] H fun v H' => v = .bool (digitI n) ∧ H' = H := by
  refine WpCall.slim (M := 9) (rs := [.tmp 2]) (hw.call _) hw.ice hw.froz Try.func115 rfl rfl code115.2 rfl ?_; dsimp only [code115, envOf, Nat.reduceAdd]
  repeat' (first
     | (refine WpL.nil (hK _ _ ?_); clear hK K; try dsimp only [thenQ, blockQ]) | refine Rx.move (hk := ?_) | refine Rx.assign (hk := ?_) | refine Rx.bin (hk := ?_) | refine Rx.pick (hk := ?_) | (refine Rx.guardU (hk := ?_); dsimp only [setO]) | (refine Rx.guard (h1 := fun hg => ?_) (h2 := fun hg => ?_) <;> (try simp only [Bool.not_true, Bool.not_false, reduceCtorEq] at hg) <;> (try (cases hg; done)) <;> (try have hgp := hg) <;> (try simp only [decide_eq_true_eq, decide_eq_false_iff_not] at hgp) <;> (try dsimp only [setO])) | (refine Rx.cond (h1 := fun hb => ?_) (h2 := fun hb => ?_) <;> (try simp only [Bool.not_true, Bool.not_false, reduceCtorEq] at hb) <;> (try (cases hb; done)) <;> (try have hbp := hb) <;> (try simp only [decide_eq_true_eq, decide_eq_false_iff_not] at hbp)) | refine Wp.seq ?_ | (refine Wp.ops' fun K hK => ?_) | refine Wp.block ?_ | (refine Wp.skip ?_; try dsimp only [thenQ, blockQ]) | (refine Wp.ret ?_; try dsimp only [thenQ, blockQ]) | (refine Wp.exit ?_; try simp only [thenQ, blockQ, reduceIte]))
  all_goals (refine ⟨by first | exact .inl rfl | exact .inr rfl | exact .inl trivial | exact .inr trivial, _, (by (try simp only [sB, Nat.reduceBEq, resultsA, resultA, *]); first | done | with_reducible rfl), ?_⟩; try simp only [oneOr])
  all_goals (refine ⟨?_, by first | rfl | trivial⟩; simp_all [digitI] <;> omega)
theorem wordLen_wp {cfg : Cfg} (hw : Plain cfg 113) (hl : Plain cfg 120) (hd : Plain cfg 115) (s : List UInt8) (hs : s.length < 2 ^ 60) (H : Hp) :
    WpCall Try.prog cfg 113 [.str s] H fun v H' => v = .int .i64 (wordN s) ∧ H' = H := by
  refine WpCall.slim (M := 23) (rs := [.tmp 2]) (hw.call _) hw.ice hw.froz Try.func113 rfl rfl code113.2 rfl ?_; dsimp only [code113, envOf, Nat.reduceAdd]
  repeat' (first
     | (refine WpL.nil (hK _ _ ?_); clear hK K; try dsimp only [thenQ, blockQ]) | refine Rx.move (hk := ?_) | refine Rx.assign (hk := ?_) | refine Rx.bin (hk := ?_) | refine Rx.index (hk := ?_) | refine Rx.len (hk := ?_) | refine Rx.pick (hk := ?_) | (refine Rx.guardU (hk := ?_); dsimp only [setO]) | (refine Rx.guard (h1 := fun hg => ?_) (h2 := fun hg => ?_) <;> (try simp only [Bool.not_true, Bool.not_false, reduceCtorEq] at hg) <;> (try (cases hg; done)) <;> (try have hgp := hg) <;> (try simp only [decide_eq_true_eq, decide_eq_false_iff_not] at hgp) <;> (try dsimp only [setO])) | (refine Rx.cond (h1 := fun hb => ?_) (h2 := fun hb => ?_) <;> (try simp only [Bool.not_true, Bool.not_false, reduceCtorEq] at hb) <;> (try (cases hb; done)) <;> (try have hbp := hb) <;> (try simp only [decide_eq_true_eq, decide_eq_false_iff_not] at hbp)) | refine Wp.seq ?_ | (refine Wp.ops' fun K hK => ?_) | refine Wp.block ?_ | (refine Wp.skip ?_; try dsimp only [thenQ, blockQ]) | (refine Wp.ret ?_; try dsimp only [thenQ, blockQ]) | (refine Wp.exit ?_; try simp only [thenQ, blockQ, reduceIte]))
  refine Wp.loopN (fun i E H' => wordN s = i + wordN (s.drop i) ∧ E.at 0 = .str s ∧ E.at 3 = .int .i64 i ∧ H' = H) s.length ?_ ?_
  · rintro i E H' hi ⟨hc, h0, h3, rfl⟩
    repeat' (first
       | (refine WpL.nil (hK _ _ ?_); clear hK K; try dsimp only [thenQ, blockQ]) | refine Rx.move (hk := ?_) | refine Rx.assign (hk := ?_) | refine Rx.bin (hk := ?_) | refine Rx.index (hk := ?_) | refine Rx.len (hk := ?_) | refine Rx.pick (hk := ?_) | (refine Rx.guardU (hk := ?_); dsimp only [setO]) | (refine Rx.guard (h1 := fun hg => ?_) (h2 := fun hg => ?_) <;> (try simp only [Bool.not_true, Bool.not_false, reduceCtorEq] at hg) <;> (try (cases hg; done)) <;> (try have hgp := hg) <;> (try simp only [decide_eq_true_eq, decide_eq_false_iff_not] at hgp) <;> (try dsimp only [setO])) | (refine Rx.cond (h1 := fun hb => ?_) (h2 := fun hb => ?_) <;> (try simp only [Bool.not_true, Bool.not_false, reduceCtorEq] at hb) <;> (try (cases hb; done)) <;> (try have hbp := hb) <;> (try simp only [decide_eq_true_eq, decide_eq_false_iff_not] at hbp)) | refine Wp.seq ?_ | (refine Wp.ops' fun K hK => ?_) | refine Wp.block ?_ | (refine Wp.skip ?_; try dsimp only [thenQ, blockQ]) | (refine Wp.ret ?_; try dsimp only [thenQ, blockQ]) | (refine Wp.exit ?_; try simp only [thenQ, blockQ, reduceIte]))
    · have hlt : i < s.length := by omega
      have hgx : s[i]? = some s[i] := List.getElem?_eq_getElem hlt
      have hdr : wordN (s.drop i) = if wordB s[i] then wordN (s.drop (i + 1)) + 1 else 0 := by rw [List.drop_eq_getElem_cons hlt, wordN]
      repeat' (first
         | (refine WpL.nil (hK _ _ ?_); clear hK K; try dsimp only [thenQ, blockQ]) | refine Rx.move (hk := ?_) | refine Rx.assign (hk := ?_) | refine Rx.bin (hk := ?_) | refine Rx.index (hk := ?_) | refine Rx.len (hk := ?_) | refine Rx.pick (hk := ?_) | (refine Rx.guardU (hk := ?_); dsimp only [setO]) | (refine Rx.guard (h1 := fun hg => ?_) (h2 := fun hg => ?_) <;> (try simp only [Bool.not_true, Bool.not_false, reduceCtorEq] at hg) <;> (try (cases hg; done)) <;> (try have hgp := hg) <;> (try simp only [decide_eq_true_eq, decide_eq_false_iff_not] at hgp) <;> (try dsimp only [setO])) | (refine Rx.cond (h1 := fun hb => ?_) (h2 := fun hb => ?_) <;> (try simp only [Bool.not_true, Bool.not_false, reduceCtorEq] at hb) <;> (try (cases hb; done)) <;> (try have hbp := hb) <;> (try simp only [decide_eq_true_eq, decide_eq_false_iff_not] at hbp)) | refine Wp.seq ?_ | (refine Wp.ops' fun K hK => ?_) | refine Wp.block ?_ | (refine Wp.skip ?_; try dsimp only [thenQ, blockQ]) | (refine Wp.ret ?_; try dsimp only [thenQ, blockQ]) | (refine Wp.exit ?_; try simp only [thenQ, blockQ, reduceIte]))
      refine WpL.call rfl (by (try simp only [sB, Nat.reduceBEq, *, -hK]); first | done | with_reducible rfl) (by (try simp only [sB, Nat.reduceBEq, aevals, List.cons_append, List.nil_append, *, -hK]); first | done | with_reducible rfl) ?_; simp only [List.cons_append, List.nil_append, List.append_nil]
      refine WpCall.mono ?_ (isLetter_wp hl s[i].toNat H')
      rintro v _ ⟨rfl, rfl⟩
      dsimp only [setO]
      repeat' (first
         | (refine WpL.nil (hK _ _ ?_); clear hK K; try dsimp only [thenQ, blockQ]) | refine Rx.move (hk := ?_) | refine Rx.assign (hk := ?_) | refine Rx.bin (hk := ?_) | refine Rx.index (hk := ?_) | refine Rx.len (hk := ?_) | refine Rx.pick (hk := ?_) | (refine Rx.guardU (hk := ?_); dsimp only [setO]) | (refine Rx.guard (h1 := fun hg => ?_) (h2 := fun hg => ?_) <;> (try simp only [Bool.not_true, Bool.not_false, reduceCtorEq] at hg) <;> (try (cases hg; done)) <;> (try have hgp := hg) <;> (try simp only [decide_eq_true_eq, decide_eq_false_iff_not] at hgp) <;> (try dsimp only [setO])) | (refine Rx.cond (h1 := fun hb => ?_) (h2 := fun hb => ?_) <;> (try simp only [Bool.not_true, Bool.not_false, reduceCtorEq] at hb) <;> (try (cases hb; done)) <;> (try have hbp := hb) <;> (try simp only [decide_eq_true_eq, decide_eq_false_iff_not] at hbp)) | refine Wp.seq ?_ | (refine Wp.ops' fun K hK => ?_) | refine Wp.block ?_ | (refine Wp.skip ?_; try dsimp only [thenQ, blockQ]) | (refine Wp.ret ?_; try dsimp only [thenQ, blockQ]) | (refine Wp.exit ?_; try simp only [thenQ, blockQ, reduceIte]))
      · refine WpL.call rfl (by (try simp only [sB, Nat.reduceBEq, *, -hK]); first | done | with_reducible rfl) (by (try simp only [sB, Nat.reduceBEq, aevals, List.cons_append, List.nil_append, *, -hK]); first | done | with_reducible rfl) ?_; simp only [List.cons_append, List.nil_append, List.append_nil]
        refine WpCall.mono ?_ (isDigit_wp hd s[i].toNat _)
        rintro v _ ⟨rfl, rfl⟩
        dsimp only [setO]
        repeat' (first
           | (refine WpL.nil (hK _ _ ?_); clear hK K; try dsimp only [thenQ, blockQ]) | refine Rx.move (hk := ?_) | refine Rx.assign (hk := ?_) | refine Rx.bin (hk := ?_) | refine Rx.index (hk := ?_) | refine Rx.len (hk := ?_) | refine Rx.pick (hk := ?_) | (refine Rx.guardU (hk := ?_); dsimp only [setO]) | (refine Rx.guard (h1 := fun hg => ?_) (h2 := fun hg => ?_) <;> (try simp only [Bool.not_true, Bool.not_false, reduceCtorEq] at hg) <;> (try (cases hg; done)) <;> (try have hgp := hg) <;> (try simp only [decide_eq_true_eq, decide_eq_false_iff_not] at hgp) <;> (try dsimp only [setO])) | (refine Rx.cond (h1 := fun hb => ?_) (h2 := fun hb => ?_) <;> (try simp only [Bool.not_true, Bool.not_false, reduceCtorEq] at hb) <;> (try (cases hb; done)) <;> (try have hbp := hb) <;> (try simp only [decide_eq_true_eq, decide_eq_false_iff_not] at hbp)) | refine Wp.seq ?_ | (refine Wp.ops' fun K hK => ?_) | refine Wp.block ?_ | (refine Wp.skip ?_; try dsimp only [thenQ, blockQ]) | (refine Wp.ret ?_; try dsimp only [thenQ, blockQ]) | (refine Wp.exit ?_; try simp only [thenQ, blockQ, reduceIte]))
        · have hwb : wordB s[i] = true := by simp_all [wordB]
          refine ⟨hlt, ?_, (by first | (simp only [sB, Nat.reduceBEq, *]; done) | rfl), ?_, rfl⟩
          · rw [hc, hdr, hwb]; simp; omega
          · simp only [at_set, Nat.reduceBEq, cond_true, wrap_succ (show i < 2 ^ 62 by omega)]
        · have hwb : wordB s[i] = false := by simp_all [wordB]
          all_goals (refine ⟨by first | exact .inl rfl | exact .inr rfl | exact .inl trivial | exact .inr trivial, _, (by (try simp only [sB, Nat.reduceBEq, resultsA, resultA, *]); first | done | with_reducible rfl), ?_⟩; try simp only [oneOr])
          exact ⟨by rw [hc, hdr, hwb]; simp, by first | rfl | trivial⟩
      · have hwb : wordB s[i] = true := by simp_all [wordB]
        refine ⟨hlt, ?_, (by first | (simp only [sB, Nat.reduceBEq, *]; done) | rfl), ?_, rfl⟩
        · rw [hc, hdr, hwb]; simp; omega
        · simp only [at_set, Nat.reduceBEq, cond_true, wrap_succ (show i < 2 ^ 62 by omega)]
    · all_goals (refine ⟨by first | exact .inl rfl | exact .inr rfl | exact .inl trivial | exact .inr trivial, _, (by (try simp only [sB, Nat.reduceBEq, resultsA, resultA, *]); first | done | with_reducible rfl), ?_⟩; try simp only [oneOr])
      have hie : i = s.length := by omega
      refine ⟨?_, by first | rfl | trivial⟩
      rw [hc, hie]; simp [wordN]
  · exact ⟨by simp, (by first | (simp only [sB, Nat.reduceBEq, *]; done) | rfl), (by first | (simp only [sB, Nat.reduceBEq, *]; done) | rfl), rfl⟩
theorem spaceLen_wp {cfg : Cfg} (hw : Plain cfg 104) (s : List UInt8) (hs : s.length < 2 ^ 60) (H : Hp) :
    WpCall Try.prog cfg 104 [.str s] H fun v H' => v = .int .i64 (spaceN false s) ∧ H' = H := by
  refine WpCall.slim (M := 34) (rs := [.tmp 2]) (hw.call _) hw.ice hw.froz Try.func104 rfl rfl code104.2 rfl ?_; dsimp only [code104, envOf, Nat.reduceAdd]
  repeat' (first
     | (refine WpL.nil (hK _ _ ?_); clear hK K; try dsimp only [thenQ, blockQ]) | refine Rx.move (hk := ?_) | refine Rx.assign (hk := ?_) | refine Rx.bin (hk := ?_) | refine Rx.index (hk := ?_) | refine Rx.len (hk := ?_) | refine Rx.pick (hk := ?_) | (refine Rx.guardU (hk := ?_); dsimp only [setO]) | (refine Rx.guard (h1 := fun hg => ?_) (h2 := fun hg => ?_) <;> (try simp only [Bool.not_true, Bool.not_false, reduceCtorEq] at hg) <;> (try (cases hg; done)) <;> (try have hgp := hg) <;> (try simp only [decide_eq_true_eq, decide_eq_false_iff_not] at hgp) <;> (try dsimp only [setO])) | (refine Rx.cond (h1 := fun hb => ?_) (h2 := fun hb => ?_) <;> (try simp only [Bool.not_true, Bool.not_false, reduceCtorEq] at hb) <;> (try (cases hb; done)) <;> (try have hbp := hb) <;> (try simp only [decide_eq_true_eq, decide_eq_false_iff_not] at hbp)) | refine Wp.seq ?_ | (refine Wp.ops' fun K hK => ?_) | refine Wp.block ?_ | (refine Wp.skip ?_; try dsimp only [thenQ, blockQ]) | (refine Wp.ret ?_; try dsimp only [thenQ, blockQ]) | (refine Wp.exit ?_; try simp only [thenQ, blockQ, reduceIte]))
  refine Wp.loop (fun n E H' => ∃ i : Nat, n = s.length - i ∧ i ≤ s.length ∧ spaceN false s = i + spaceN false (s.drop i) ∧ E.at 0 = .str s ∧ E.at 3 = .int .i64 i ∧ H' = H) ?_ (n := s.length) ?_
  · rintro n E H' ⟨i, rfl, hi, hc, h0, h3, rfl⟩
    repeat' (first
       | (refine WpL.nil (hK _ _ ?_); clear hK K; try dsimp only [thenQ, blockQ]) | refine Rx.move (hk := ?_) | refine Rx.assign (hk := ?_) | refine Rx.bin (hk := ?_) | refine Rx.index (hk := ?_) | refine Rx.len (hk := ?_) | refine Rx.pick (hk := ?_) | (refine Rx.guardU (hk := ?_); dsimp only [setO]) | (refine Rx.guard (h1 := fun hg => ?_) (h2 := fun hg => ?_) <;> (try simp only [Bool.not_true, Bool.not_false, reduceCtorEq] at hg) <;> (try (cases hg; done)) <;> (try have hgp := hg) <;> (try simp only [decide_eq_true_eq, decide_eq_false_iff_not] at hgp) <;> (try dsimp only [setO])) | (refine Rx.cond (h1 := fun hb => ?_) (h2 := fun hb => ?_) <;> (try simp only [Bool.not_true, Bool.not_false, reduceCtorEq] at hb) <;> (try (cases hb; done)) <;> (try have hbp := hb) <;> (try simp only [decide_eq_true_eq, decide_eq_false_iff_not] at hbp)) | refine Wp.seq ?_ | (refine Wp.ops' fun K hK => ?_) | refine Wp.block ?_ | (refine Wp.skip ?_; try dsimp only [thenQ, blockQ]) | (refine Wp.ret ?_; try dsimp only [thenQ, blockQ]) | (refine Wp.exit ?_; try simp only [thenQ, blockQ, reduceIte]))
    · have hlt : i < s.length := by omega
      have hgx : s[i]? = some s[i] := List.getElem?_eq_getElem hlt
      have hdr : spaceN false (s.drop i) = if blankB s[i] then spaceN false (s.drop (i + 1)) + 1 else if s[i].toNat = 35 then spaceN true (s.drop (i + 1)) + 1 else 0 := by rw [List.drop_eq_getElem_cons hlt, spaceN]
      repeat' (first
         | (refine WpL.nil (hK _ _ ?_); clear hK K; try dsimp only [thenQ, blockQ]) | refine Rx.move (hk := ?_) | refine Rx.assign (hk := ?_) | refine Rx.bin (hk := ?_) | refine Rx.index (hk := ?_) | refine Rx.len (hk := ?_) | refine Rx.pick (hk := ?_) | (refine Rx.guardU (hk := ?_); dsimp only [setO]) | (refine Rx.guard (h1 := fun hg => ?_) (h2 := fun hg => ?_) <;> (try simp only [Bool.not_true, Bool.not_false, reduceCtorEq] at hg) <;> (try (cases hg; done)) <;> (try have hgp := hg) <;> (try simp only [decide_eq_true_eq, decide_eq_false_iff_not] at hgp) <;> (try dsimp only [setO])) | (refine Rx.cond (h1 := fun hb => ?_) (h2 := fun hb => ?_) <;> (try simp only [Bool.not_true, Bool.not_false, reduceCtorEq] at hb) <;> (try (cases hb; done)) <;> (try have hbp := hb) <;> (try simp only [decide_eq_true_eq, decide_eq_false_iff_not] at hbp)) | refine Wp.seq ?_ | (refine Wp.ops' fun K hK => ?_) | refine Wp.block ?_ | (refine Wp.skip ?_; try dsimp only [thenQ, blockQ]) | (refine Wp.ret ?_; try dsimp only [thenQ, blockQ]) | (refine Wp.exit ?_; try simp only [thenQ, blockQ, reduceIte]))
      · have hbl : blankB s[i] = true := by unfold blankB; simp; omega
        refine ⟨s.length - (i + 1), by omega, i + 1, rfl, by omega, ?_, (by first | (simp only [sB, Nat.reduceBEq, *]; done) | rfl), ?_, rfl⟩
        · rw [hc, hdr, if_pos hbl]; omega
        · simp only [at_set, Nat.reduceBEq, cond_true, wrap_succ (show i < 2 ^ 62 by omega)]
      · have hbl : blankB s[i] = true := by unfold blankB; simp; omega
        refine ⟨s.length - (i + 1), by omega, i + 1, rfl, by omega, ?_, (by first | (simp only [sB, Nat.reduceBEq, *]; done) | rfl), ?_, rfl⟩
        · rw [hc, hdr, if_pos hbl]; omega
        · simp only [at_set, Nat.reduceBEq, cond_true, wrap_succ (show i < 2 ^ 62 by omega)]
      · have hbl : blankB s[i] = true := by unfold blankB; simp; omega
        refine ⟨s.length - (i + 1), by omega, i + 1, rfl, by omega, ?_, (by first | (simp only [sB, Nat.reduceBEq, *]; done) | rfl), ?_, rfl⟩
        · rw [hc, hdr, if_pos hbl]; omega
        · simp only [at_set, Nat.reduceBEq, cond_true, wrap_succ (show i < 2 ^ 62 by omega)]
      · have hbl : blankB s[i] = true := by unfold blankB; simp; omega
        refine ⟨s.length - (i + 1), by omega, i + 1, rfl, by omega, ?_, (by first | (simp only [sB, Nat.reduceBEq, *]; done) | rfl), ?_, rfl⟩
        · rw [hc, hdr, if_pos hbl]; omega
        · simp only [at_set, Nat.reduceBEq, cond_true, wrap_succ (show i < 2 ^ 62 by omega)]
      · have hb35 : s[i].toNat = 35 := by omega
        have hbl : blankB s[i] = false := by unfold blankB; simp; omega
        have hln : lineN (s.drop i) = lineN (s.drop (i + 1)) + 1 := by rw [List.drop_eq_getElem_cons hlt, lineN, if_neg (by omega)]
        have hsp : spaceN false s = i + lineN (s.drop i) + spaceN false (s.drop (i + lineN (s.drop i))) := by
          rw [hc, hdr, hbl, if_neg (by simp), if_pos hb35, spaceN_true, List.drop_drop, hln, show i + 1 + lineN (s.drop (i + 1)) = i + (lineN (s.drop (i + 1)) + 1) by omega]; omega
        have hle := lineN_le (s.drop i)
        rw [List.length_drop] at hle
        refine Wp.loop (fun n E H'' => ∃ j : Nat, n = s.length - j ∧ i ≤ j ∧ j ≤ s.length ∧ i + lineN (s.drop i) = j + lineN (s.drop j) ∧ E.at 0 = .str s ∧ E.at 3 = .int .i64 j ∧ H'' = H') ?_ (n := s.length - i) ?_
        · rintro n E2 H2 ⟨j, rfl, hij, hj, hlj, k0, k3, rfl⟩
          repeat' (first
             | (refine WpL.nil (hK _ _ ?_); clear hK K; try dsimp only [thenQ, blockQ]) | refine Rx.move (hk := ?_) | refine Rx.assign (hk := ?_) | refine Rx.bin (hk := ?_) | refine Rx.index (hk := ?_) | refine Rx.len (hk := ?_) | refine Rx.pick (hk := ?_) | (refine Rx.guardU (hk := ?_); dsimp only [setO]) | (refine Rx.guard (h1 := fun hg => ?_) (h2 := fun hg => ?_) <;> (try simp only [Bool.not_true, Bool.not_false, reduceCtorEq] at hg) <;> (try (cases hg; done)) <;> (try have hgp := hg) <;> (try simp only [decide_eq_true_eq, decide_eq_false_iff_not] at hgp) <;> (try dsimp only [setO])) | (refine Rx.cond (h1 := fun hb => ?_) (h2 := fun hb => ?_) <;> (try simp only [Bool.not_true, Bool.not_false, reduceCtorEq] at hb) <;> (try (cases hb; done)) <;> (try have hbp := hb) <;> (try simp only [decide_eq_true_eq, decide_eq_false_iff_not] at hbp)) | refine Wp.seq ?_ | (refine Wp.ops' fun K hK => ?_) | refine Wp.block ?_ | (refine Wp.skip ?_; try dsimp only [thenQ, blockQ]) | (refine Wp.ret ?_; try dsimp only [thenQ, blockQ]) | (refine Wp.exit ?_; try simp only [thenQ, blockQ, reduceIte]))
          · have hlt2 : j < s.length := by omega
            have hgx2 : s[j]? = some s[j] := List.getElem?_eq_getElem hlt2
            have hdj : lineN (s.drop j) = if s[j].toNat = 10 then 0 else lineN (s.drop (j + 1)) + 1 := by rw [List.drop_eq_getElem_cons hlt2, lineN]
            repeat' (first
               | (refine WpL.nil (hK _ _ ?_); clear hK K; try dsimp only [thenQ, blockQ]) | refine Rx.move (hk := ?_) | refine Rx.assign (hk := ?_) | refine Rx.bin (hk := ?_) | refine Rx.index (hk := ?_) | refine Rx.len (hk := ?_) | refine Rx.pick (hk := ?_) | (refine Rx.guardU (hk := ?_); dsimp only [setO]) | (refine Rx.guard (h1 := fun hg => ?_) (h2 := fun hg => ?_) <;> (try simp only [Bool.not_true, Bool.not_false, reduceCtorEq] at hg) <;> (try (cases hg; done)) <;> (try have hgp := hg) <;> (try simp only [decide_eq_true_eq, decide_eq_false_iff_not] at hgp) <;> (try dsimp only [setO])) | (refine Rx.cond (h1 := fun hb => ?_) (h2 := fun hb => ?_) <;> (try simp only [Bool.not_true, Bool.not_false, reduceCtorEq] at hb) <;> (try (cases hb; done)) <;> (try have hbp := hb) <;> (try simp only [decide_eq_true_eq, decide_eq_false_iff_not] at hbp)) | refine Wp.seq ?_ | (refine Wp.ops' fun K hK => ?_) | refine Wp.block ?_ | (refine Wp.skip ?_; try dsimp only [thenQ, blockQ]) | (refine Wp.ret ?_; try dsimp only [thenQ, blockQ]) | (refine Wp.exit ?_; try simp only [thenQ, blockQ, reduceIte]))
            · refine ⟨s.length - (j + 1), by omega, j + 1, rfl, by omega, by omega, ?_, (by first | (simp only [sB, Nat.reduceBEq, *]; done) | rfl), ?_, rfl⟩
              · rw [hlj, hdj, if_neg (by simp_all; omega)]; omega
              · simp only [at_set, Nat.reduceBEq, cond_true, wrap_succ (show j < 2 ^ 62 by omega)]
            · have h10 : s[j].toNat = 10 := by simp_all; omega
              rw [hdj, if_pos h10, Nat.add_zero] at hlj
              refine ⟨s.length - j, by omega, j, rfl, by omega, ?_, (by first | (simp only [sB, Nat.reduceBEq, *]; done) | rfl), (by first | (simp only [sB, Nat.reduceBEq, *]; done) | rfl), by first | rfl | trivial⟩
              rw [hsp, hlj]
          · have hje : j = s.length := by omega
            have h0j : lineN (s.drop j) = 0 := by rw [hje]; simp [lineN]
            rw [h0j, Nat.add_zero] at hlj
            refine ⟨s.length - j, by omega, j, rfl, by omega, ?_, (by first | (simp only [sB, Nat.reduceBEq, *]; done) | rfl), (by first | (simp only [sB, Nat.reduceBEq, *]; done) | rfl), by first | rfl | trivial⟩
            rw [hsp, hlj]
        · exact ⟨i, rfl, by omega, by omega, rfl, (by first | (simp only [sB, Nat.reduceBEq, *]; done) | rfl), (by first | (simp only [sB, Nat.reduceBEq, *]; done) | rfl), rfl⟩
      · have hbl : blankB s[i] = false := by unfold blankB; simp; omega
        all_goals (refine ⟨by first | exact .inl rfl | exact .inr rfl | exact .inl trivial | exact .inr trivial, _, (by (try simp only [sB, Nat.reduceBEq, resultsA, resultA, *]); first | done | with_reducible rfl), ?_⟩; try simp only [oneOr])
        refine ⟨?_, by first | rfl | trivial⟩
        rw [hc, hdr, hbl, if_neg (by simp), if_neg (by omega)]; simp
    · all_goals (refine ⟨by first | exact .inl rfl | exact .inr rfl | exact .inl trivial | exact .inr trivial, _, (by (try simp only [sB, Nat.reduceBEq, resultsA, resultA, *]); first | done | with_reducible rfl), ?_⟩; try simp only [oneOr])
      have hie : i = s.length := by omega
      refine ⟨?_, by first | rfl | trivial⟩
      rw [hc, hie]; simp [spaceN]
  · exact ⟨0, by simp, by omega, by simp, (by first | (simp only [sB, Nat.reduceBEq, *]; done) | rfl), (by first | (simp only [sB, Nat.reduceBEq, *]; done) | rfl), rfl⟩
end Go.Proofs.Ytjkmbpieknaekaa
namespace Go.Proofs.Ytjkmbpieknaekaa
set_option maxRecDepth 20000
set_option linter.unusedSimpArgs false
set_option linter.unusedVariables false
set_option linter.unusedSectionVars false
set_option linter.defProp false
open Go Go.Ab
namespace tyW4g
def tyF := And.intro @sz3 (And.intro @pt3 (And.intro @bt3 (And.intro @zr3 (And.intro @sz9 (And.intro @pt9 (And.intro @bt9 (And.intro @zr9 (And.intro @ln9 (And.intro @ix9 (And.intro @sz30 (And.intro @pt30 (And.intro @bt30 (And.intro @zr30 (And.intro @sz61 (And.intro @pt61 (And.intro @bt61 (And.intro @zr61 (And.intro @fa61_0p (And.intro @fa61_0c (And.intro @fd61_0 (And.intro @fa61_1p (And.intro @fa61_1c (And.intro @fd61_1 (And.intro @sz89 (And.intro @pt89 (And.intro @bt89 (And.intro @zr89 (And.intro @ix89l (And.intro @ix89s (And.intro @ln89l (And.intro @ln89s (And.intro @ln89n (And.intro @sz125 (And.intro @pt125 (And.intro @bt125 (And.intro @zr125 (And.intro @fa125_0p (And.intro @fa125_0c (And.intro @fd125_0 (And.intro @fa125_1p (And.intro @fa125_1c (And.intro @fd125_1 (And.intro @fa125_2p (And.intro @fa125_2c (And.intro @fd125_2 (And.intro @sz5 (And.intro @pt5 (And.intro @bt5 (And.intro @zr5 (And.intro @sz153 (And.intro @pt153 (And.intro @bt153 (And.intro @zr153 (And.intro @bin_sle (And.intro @slice_hi (@Try.underlying9))))))))))))))))))))))))))))))))))))))))))))))))))))))))
end tyW4g
open tyW4g
noncomputable def code114 : { c : SC // slim 35 (Try.f114.body.getD .skip) = c } := by
  refine ⟨?_, ?_⟩
  rotate_left
  · simp only [Try.f114, Option.getD_some, slim, slimR, slimL, slimD, slimG, Nat.blt, Nat.ble]
    rfl
noncomputable def code105 : { c : SC // slim 41 (Try.f105.body.getD .skip) = c } := by
  refine ⟨?_, ?_⟩
  rotate_left
  · simp only [Try.f105, Option.getD_some, slim, slimR, slimL, slimD, slimG, Nat.blt, Nat.ble]
    rfl
noncomputable def code88 : { c : SC // slim 49 (Try.f88.body.getD .skip) = c } := by
  refine ⟨?_, ?_⟩
  rotate_left
  · simp only [Try.f88, Option.getD_some, slim, slimR, slimL, slimD, slimG, Nat.blt, Nat.ble]
    rfl
theorem validNumber_wp {cfg : Cfg} (hw : Plain cfg 116) (hd : Plain cfg 115) (s : List UInt8) (h0 : s ≠ []) (hs : s.length < 2 ^ 60) (H : Hp) :
    WpCall Try.prog cfg 116 [.str s] H fun v H' => (∃ b, v = .bool b) ∧ H' = H := by
  have hpos : 0 < s.length := List.length_pos_iff.2 h0
  have hg0 : s[0]? = some s[0] := List.getElem?_eq_getElem hpos
  refine WpCall.slim (M := 37) (rs := [.tmp 2]) (hw.call _) hw.ice hw.froz Try.func116 rfl rfl code116.2 rfl ?_; dsimp only [code116, envOf, Nat.reduceAdd]
  repeat' (first
     | (refine WpL.nil (hK _ _ ?_); clear hK K; try dsimp only [thenQ, blockQ]) | refine Rx.move (hk := ?_) | refine Rx.assign (hk := ?_) | refine Rx.bin (hk := ?_) | refine Rx.un (hk := ?_) | refine Rx.index (hk := ?_) | refine Rx.len (hk := ?_) | refine Rx.pick (hk := ?_) | (refine Rx.guardU (hk := ?_); dsimp only [setO]) | (refine Rx.guard (h1 := fun hg => ?_) (h2 := fun hg => ?_) <;> (try simp only [Bool.not_true, Bool.not_false, reduceCtorEq] at hg) <;> (try (cases hg; done)) <;> (try have hgp := hg) <;> (try simp only [decide_eq_true_eq, decide_eq_false_iff_not] at hgp) <;> (try dsimp only [setO])) | (refine Rx.cond (h1 := fun hb => ?_) (h2 := fun hb => ?_) <;> (try simp only [Bool.not_true, Bool.not_false, reduceCtorEq] at hb) <;> (try (cases hb; done)) <;> (try have hbp := hb) <;> (try simp only [decide_eq_true_eq, decide_eq_false_iff_not] at hbp)) | refine Wp.seq ?_ | (refine Wp.ops' fun K hK => ?_) | refine Wp.block ?_ | (refine Wp.skip ?_; try dsimp only [thenQ, blockQ]) | (refine Wp.ret ?_; try dsimp only [thenQ, blockQ]) | (refine Wp.exit ?_; try simp only [thenQ, blockQ, reduceIte]))
  refine Wp.loopN (fun i E H' => E.at 0 = .str s ∧ E.at 3 = .int .i64 i ∧ H' = H) s.length ?_ ?_
  · rintro i E H' hi ⟨k0, k3, rfl⟩
    repeat' (first
       | (refine WpL.nil (hK _ _ ?_); clear hK K; try dsimp only [thenQ, blockQ]) | refine Rx.move (hk := ?_) | refine Rx.assign (hk := ?_) | refine Rx.bin (hk := ?_) | refine Rx.un (hk := ?_) | refine Rx.index (hk := ?_) | refine Rx.len (hk := ?_) | refine Rx.pick (hk := ?_) | (refine Rx.guardU (hk := ?_); dsimp only [setO]) | (refine Rx.guard (h1 := fun hg => ?_) (h2 := fun hg => ?_) <;> (try simp only [Bool.not_true, Bool.not_false, reduceCtorEq] at hg) <;> (try (cases hg; done)) <;> (try have hgp := hg) <;> (try simp only [decide_eq_true_eq, decide_eq_false_iff_not] at hgp) <;> (try dsimp only [setO])) | (refine Rx.cond (h1 := fun hb => ?_) (h2 := fun hb => ?_) <;> (try simp only [Bool.not_true, Bool.not_false, reduceCtorEq] at hb) <;> (try (cases hb; done)) <;> (try have hbp := hb) <;> (try simp only [decide_eq_true_eq, decide_eq_false_iff_not] at hbp)) | refine Wp.seq ?_ | (refine Wp.ops' fun K hK => ?_) | refine Wp.block ?_ | (refine Wp.skip ?_; try dsimp only [thenQ, blockQ]) | (refine Wp.ret ?_; try dsimp only [thenQ, blockQ]) | (refine Wp.exit ?_; try simp only [thenQ, blockQ, reduceIte]))
    · have hlt : i < s.length := by omega
      have hgx : s[i]? = some s[i] := List.getElem?_eq_getElem hlt
      repeat' (first
         | (refine WpL.nil (hK _ _ ?_); clear hK K; try dsimp only [thenQ, blockQ]) | refine Rx.move (hk := ?_) | refine Rx.assign (hk := ?_) | refine Rx.bin (hk := ?_) | refine Rx.un (hk := ?_) | refine Rx.index (hk := ?_) | refine Rx.len (hk := ?_) | refine Rx.pick (hk := ?_) | (refine Rx.guardU (hk := ?_); dsimp only [setO]) | (refine Rx.guard (h1 := fun hg => ?_) (h2 := fun hg => ?_) <;> (try simp only [Bool.not_true, Bool.not_false, reduceCtorEq] at hg) <;> (try (cases hg; done)) <;> (try have hgp := hg) <;> (try simp only [decide_eq_true_eq, decide_eq_false_iff_not] at hgp) <;> (try dsimp only [setO])) | (refine Rx.cond (h1 := fun hb => ?_) (h2 := fun hb => ?_) <;> (try simp only [Bool.not_true, Bool.not_false, reduceCtorEq] at hb) <;> (try (cases hb; done)) <;> (try have hbp := hb) <;> (try simp only [decide_eq_true_eq, decide_eq_false_iff_not] at hbp)) | refine Wp.seq ?_ | (refine Wp.ops' fun K hK => ?_) | refine Wp.block ?_ | (refine Wp.skip ?_; try dsimp only [thenQ, blockQ]) | (refine Wp.ret ?_; try dsimp only [thenQ, blockQ]) | (refine Wp.exit ?_; try simp only [thenQ, blockQ, reduceIte]))
      refine WpL.call rfl (by (try simp only [sB, Nat.reduceBEq, *, -hK]); first | done | with_reducible rfl) (by (try simp only [sB, Nat.reduceBEq, aevals, List.cons_append, List.nil_append, *, -hK]); first | done | with_reducible rfl) ?_; simp only [List.cons_append, List.nil_append, List.append_nil]
      refine WpCall.mono ?_ (isDigit_wp hd s[i].toNat H')
      rintro v _ ⟨rfl, rfl⟩
      dsimp only [setO]
      repeat' (first
         | (refine WpL.nil (hK _ _ ?_); clear hK K; try dsimp only [thenQ, blockQ]) | refine Rx.move (hk := ?_) | refine Rx.assign (hk := ?_) | refine Rx.bin (hk := ?_) | refine Rx.un (hk := ?_) | refine Rx.index (hk := ?_) | refine Rx.len (hk := ?_) | refine Rx.pick (hk := ?_) | (refine Rx.guardU (hk := ?_); dsimp only [setO]) | (refine Rx.guard (h1 := fun hg => ?_) (h2 := fun hg => ?_) <;> (try simp only [Bool.not_true, Bool.not_false, reduceCtorEq] at hg) <;> (try (cases hg; done)) <;> (try have hgp := hg) <;> (try simp only [decide_eq_true_eq, decide_eq_false_iff_not] at hgp) <;> (try dsimp only [setO])) | (refine Rx.cond (h1 := fun hb => ?_) (h2 := fun hb => ?_) <;> (try simp only [Bool.not_true, Bool.not_false, reduceCtorEq] at hb) <;> (try (cases hb; done)) <;> (try have hbp := hb) <;> (try simp only [decide_eq_true_eq, decide_eq_false_iff_not] at hbp)) | refine Wp.seq ?_ | (refine Wp.ops' fun K hK => ?_) | refine Wp.block ?_ | (refine Wp.skip ?_; try dsimp only [thenQ, blockQ]) | (refine Wp.ret ?_; try dsimp only [thenQ, blockQ]) | (refine Wp.exit ?_; try simp only [thenQ, blockQ, reduceIte]))
      · all_goals (refine ⟨by first | exact .inl rfl | exact .inr rfl | exact .inl trivial | exact .inr trivial, _, (by (try simp only [sB, Nat.reduceBEq, resultsA, resultA, *]); first | done | with_reducible rfl), ?_⟩; try simp only [oneOr])
        exact ⟨⟨_, rfl⟩, by first | rfl | trivial⟩
      · refine ⟨hlt, (by first | (simp only [sB, Nat.reduceBEq, *]; done) | rfl), ?_, by first | rfl | trivial⟩
        simp only [at_set, Nat.reduceBEq, cond_true, wrap_succ (show i < 2 ^ 62 by omega)]
    · repeat' (first
         | (refine WpL.nil (hK _ _ ?_); clear hK K; try dsimp only [thenQ, blockQ]) | refine Ry.move (hk := ?_) | refine Ry.assign (hk := ?_) | refine Ry.bin (hk := ?_) | refine Ry.un (hk := ?_) | refine Ry.index (hk := ?_) | refine Ry.len (hk := ?_) | refine Ry.pick (hk := ?_) | (refine Ry.guardU (hk := ?_); dsimp only [setO]) | (refine Ry.guard (h1 := fun hg => ?_) (h2 := fun hg => ?_) <;> (try simp only [Bool.not_true, Bool.not_false, reduceCtorEq] at hg) <;> (try (cases hg; done)) <;> (try have hgp := hg) <;> (try simp only [decide_eq_true_eq, decide_eq_false_iff_not] at hgp) <;> (try dsimp only [setO])) | (refine Ry.cond (h1 := fun hb => ?_) (h2 := fun hb => ?_) <;> (try simp only [Bool.not_true, Bool.not_false, reduceCtorEq] at hb) <;> (try (cases hb; done)) <;> (try have hbp := hb) <;> (try simp only [decide_eq_true_eq, decide_eq_false_iff_not] at hbp)) | refine Wp.seq ?_ | (refine Wp.ops' fun K hK => ?_) | refine Wp.block ?_ | (refine Wp.skip ?_; try dsimp only [thenQ, blockQ]) | (refine Wp.ret ?_; try dsimp only [thenQ, blockQ]) | (refine Wp.exit ?_; try simp only [thenQ, blockQ, reduceIte]))
      all_goals (refine ⟨by first | exact .inl rfl | exact .inr rfl | exact .inl trivial | exact .inr trivial, _, (by (try simp only [sB, Nat.reduceBEq, resultsA, resultA, *]); first | done | with_reducible rfl), ?_⟩; try simp only [oneOr])
      all_goals exact ⟨⟨_, rfl⟩, by first | rfl | trivial⟩
  · exact ⟨(by first | (simp only [sB, Nat.reduceBEq, *]; done) | rfl), (by first | (simp only [sB, Nat.reduceBEq, *]; done) | rfl), rfl⟩
def symsL : List (List UInt8) := [[62, 62, 62], [60, 60], [62, 62], [60, 61], [62, 61], [61, 61], [33, 61]]
theorem symbolLen_wp {cfg : Cfg} (hw : Plain cfg 114) (hplan : ∀ id, cfg.plan 114 id = .text) (s : List UInt8) (h0 : s ≠ []) (hs : s.length < 2 ^ 60) (H : Hp) :
    WpCall Try.prog cfg 114 [.str s] H fun v H' => (∃ n : Nat, v = .int .i64 n ∧ n ≤ s.length) ∧ H' = H := by
  have hpos : 0 < s.length := List.length_pos_iff.2 h0
  have hg0 : s[0]? = some s[0] := List.getElem?_eq_getElem hpos
  have hbld : buildA Try.prog 153 [(0, .str [62, 62, 62]), (1, .str [60, 60]), (2, .str [62, 62]), (3, .str [60, 61]), (4, .str [62, 61]), (5, .str [61, 61]), (6, .str [33, 61])] = some (.agg [.str [62, 62, 62], .str [60, 60], .str [62, 62], .str [60, 61], .str [62, 61], .str [61, 61], .str [33, 61]]) := by kernel_rfl
  refine WpCall.slim (M := 35) (rs := [.tmp 2]) (hw.call _) hw.ice hw.froz Try.func114 rfl rfl code114.2 rfl ?_; dsimp only [code114, envOf, Nat.reduceAdd]
  repeat' (first
     | (refine WpL.nil (hK _ _ ?_); clear hK K; try dsimp only [thenQ, blockQ]) | refine Rx.move (hk := ?_) | refine Rx.assign (hk := ?_) | refine Rx.bin (hk := ?_) | refine Rx.index (hk := ?_) | refine Rx.len (hk := ?_) | refine Rx.pick (hk := ?_) | refine Rx.build (hk := ?_) | refine Rx.slice (hk := ?_) | (refine Rx.guardU (hk := ?_); dsimp only [setO]) | (refine Rx.guard (h1 := fun hg => ?_) (h2 := fun hg => ?_) <;> (try simp only [Bool.not_true, Bool.not_false, reduceCtorEq] at hg) <;> (try (cases hg; done)) <;> (try have hgp := hg) <;> (try simp only [decide_eq_true_eq, decide_eq_false_iff_not] at hgp) <;> (try dsimp only [setO])) | (refine Rx.cond (h1 := fun hb => ?_) (h2 := fun hb => ?_) <;> (try simp only [Bool.not_true, Bool.not_false, reduceCtorEq] at hb) <;> (try (cases hb; done)) <;> (try have hbp := hb) <;> (try simp only [decide_eq_true_eq, decide_eq_false_iff_not] at hbp)) | refine Wp.seq ?_ | (refine Wp.ops' fun K hK => ?_) | (refine Wp.draw (id := 10) (by first | rfl | exact hplan _ | (rw [hS.plan]; rfl)) (by kernel_rfl) (by simp only [slimL, slimD, slimG, Nat.blt, Nat.ble]; rfl) fun K hK => ?_) | refine Wp.block ?_ | (refine Wp.skip ?_; try dsimp only [thenQ, blockQ]) | (refine Wp.ret ?_; try dsimp only [thenQ, blockQ]) | (refine Wp.exit ?_; try simp only [thenQ, blockQ, reduceIte]))
  refine Wp.loopN (fun i E H' => E.at 0 = .str s ∧ E.at 6 = .agg [.str [62, 62, 62], .str [60, 60], .str [62, 62], .str [60, 61], .str [62, 61], .str [61, 61], .str [33, 61]] ∧ E.at 7 = .int .i64 i ∧ H' = H) 7 ?_ ?_
  · rintro i E H' hi ⟨k0, k6, k7, rfl⟩
    repeat' (first
       | (refine WpL.nil (hK _ _ ?_); clear hK K; try dsimp only [thenQ, blockQ]) | refine Rx.move (hk := ?_) | refine Rx.assign (hk := ?_) | refine Rx.bin (hk := ?_) | refine Rx.index (hk := ?_) | refine Rx.len (hk := ?_) | refine Rx.pick (hk := ?_) | refine Rx.build (hk := ?_) | refine Rx.slice (hk := ?_) | (refine Rx.guardU (hk := ?_); dsimp only [setO]) | (refine Rx.guard (h1 := fun hg => ?_) (h2 := fun hg => ?_) <;> (try simp only [Bool.not_true, Bool.not_false, reduceCtorEq] at hg) <;> (try (cases hg; done)) <;> (try have hgp := hg) <;> (try simp only [decide_eq_true_eq, decide_eq_false_iff_not] at hgp) <;> (try dsimp only [setO])) | (refine Rx.cond (h1 := fun hb => ?_) (h2 := fun hb => ?_) <;> (try simp only [Bool.not_true, Bool.not_false, reduceCtorEq] at hb) <;> (try (cases hb; done)) <;> (try have hbp := hb) <;> (try simp only [decide_eq_true_eq, decide_eq_false_iff_not] at hbp)) | refine Wp.seq ?_ | (refine Wp.ops' fun K hK => ?_) | (refine Wp.draw (id := 10) (by first | rfl | exact hplan _ | (rw [hS.plan]; rfl)) (by kernel_rfl) (by simp only [slimL, slimD, slimG, Nat.blt, Nat.ble]; rfl) fun K hK => ?_) | refine Wp.block ?_ | (refine Wp.skip ?_; try dsimp only [thenQ, blockQ]) | (refine Wp.ret ?_; try dsimp only [thenQ, blockQ]) | (refine Wp.exit ?_; try simp only [thenQ, blockQ, reduceIte]))
    · have hlt : i < 7 := by omega
      have hix : ∃ w : List UInt8, indexA Try.prog 153 (.agg [.str [62, 62, 62], .str [60, 60], .str [62, 62], .str [60, 61], .str [62, 61], .str [61, 61], .str [33, 61]]) (.int .i64 i) = some (.str w) := by
        refine ⟨symsL.getD i [], ?_⟩
        rcases (show i = 0 ∨ i = 1 ∨ i = 2 ∨ i = 3 ∨ i = 4 ∨ i = 5 ∨ i = 6 by omega) with rfl | rfl | rfl | rfl | rfl | rfl | rfl <;> kernel_rfl
      obtain ⟨w, hw1⟩ := hix
      repeat' (first
         | (refine WpL.nil (hK _ _ ?_); clear hK K; try dsimp only [thenQ, blockQ]) | refine Rx.move (hk := ?_) | refine Rx.assign (hk := ?_) | refine Rx.bin (hk := ?_) | refine Rx.index (hk := ?_) | refine Rx.len (hk := ?_) | refine Rx.pick (hk := ?_) | refine Rx.build (hk := ?_) | refine Rx.slice (hk := ?_) | (refine Rx.guardU (hk := ?_); dsimp only [setO]) | (refine Rx.guard (h1 := fun hg => ?_) (h2 := fun hg => ?_) <;> (try simp only [Bool.not_true, Bool.not_false, reduceCtorEq] at hg) <;> (try (cases hg; done)) <;> (try have hgp := hg) <;> (try simp only [decide_eq_true_eq, decide_eq_false_iff_not] at hgp) <;> (try dsimp only [setO])) | (refine Rx.cond (h1 := fun hb => ?_) (h2 := fun hb => ?_) <;> (try simp only [Bool.not_true, Bool.not_false, reduceCtorEq] at hb) <;> (try (cases hb; done)) <;> (try have hbp := hb) <;> (try simp only [decide_eq_true_eq, decide_eq_false_iff_not] at hbp)) | refine Wp.seq ?_ | (refine Wp.ops' fun K hK => ?_) | (refine Wp.draw (id := 10) (by first | rfl | exact hplan _ | (rw [hS.plan]; rfl)) (by kernel_rfl) (by simp only [slimL, slimD, slimG, Nat.blt, Nat.ble]; rfl) fun K hK => ?_) | refine Wp.block ?_ | (refine Wp.skip ?_; try dsimp only [thenQ, blockQ]) | (refine Wp.ret ?_; try dsimp only [thenQ, blockQ]) | (refine Wp.exit ?_; try simp only [thenQ, blockQ, reduceIte]))
      · have hwl : w.length ≤ s.length := by omega
        repeat' (first
           | (refine WpL.nil (hK _ _ ?_); clear hK K; try dsimp only [thenQ, blockQ]) | refine Rx.move (hk := ?_) | refine Rx.assign (hk := ?_) | refine Rx.bin (hk := ?_) | refine Rx.index (hk := ?_) | refine Rx.len (hk := ?_) | refine Rx.pick (hk := ?_) | refine Rx.build (hk := ?_) | refine Rx.slice (hk := ?_) | (refine Rx.guardU (hk := ?_); dsimp only [setO]) | (refine Rx.guard (h1 := fun hg => ?_) (h2 := fun hg => ?_) <;> (try simp only [Bool.not_true, Bool.not_false, reduceCtorEq] at hg) <;> (try (cases hg; done)) <;> (try have hgp := hg) <;> (try simp only [decide_eq_true_eq, decide_eq_false_iff_not] at hgp) <;> (try dsimp only [setO])) | (refine Rx.cond (h1 := fun hb => ?_) (h2 := fun hb => ?_) <;> (try simp only [Bool.not_true, Bool.not_false, reduceCtorEq] at hb) <;> (try (cases hb; done)) <;> (try have hbp := hb) <;> (try simp only [decide_eq_true_eq, decide_eq_false_iff_not] at hbp)) | refine Wp.seq ?_ | (refine Wp.ops' fun K hK => ?_) | (refine Wp.draw (id := 10) (by first | rfl | exact hplan _ | (rw [hS.plan]; rfl)) (by kernel_rfl) (by simp only [slimL, slimD, slimG, Nat.blt, Nat.ble]; rfl) fun K hK => ?_) | refine Wp.block ?_ | (refine Wp.skip ?_; try dsimp only [thenQ, blockQ]) | (refine Wp.ret ?_; try dsimp only [thenQ, blockQ]) | (refine Wp.exit ?_; try simp only [thenQ, blockQ, reduceIte]))
        · all_goals (refine ⟨by first | exact .inl rfl | exact .inr rfl | exact .inl trivial | exact .inr trivial, _, (by (try simp only [sB, Nat.reduceBEq, resultsA, resultA, *]); first | done | with_reducible rfl), ?_⟩; try simp only [oneOr])
          exact ⟨⟨w.length, rfl, hwl⟩, by first | rfl | trivial⟩
        · refine ⟨hlt, (by first | (simp only [sB, Nat.reduceBEq, *]; done) | rfl), (by first | (simp only [sB, Nat.reduceBEq, *]; done) | rfl), ?_, by first | rfl | trivial⟩
          simp only [at_set, Nat.reduceBEq, cond_true, wrap_succ (show i < 2 ^ 62 by omega)]
      · refine ⟨hlt, (by first | (simp only [sB, Nat.reduceBEq, *]; done) | rfl), (by first | (simp only [sB, Nat.reduceBEq, *]; done) | rfl), ?_, by first | rfl | trivial⟩
        simp only [at_set, Nat.reduceBEq, cond_true, wrap_succ (show i < 2 ^ 62 by omega)]
    · repeat' (first
         | (refine WpL.nil (hK _ _ ?_); clear hK K; try dsimp only [thenQ, blockQ]) | refine Rx.move (hk := ?_) | refine Rx.assign (hk := ?_) | refine Rx.bin (hk := ?_) | refine Rx.index (hk := ?_) | refine Rx.len (hk := ?_) | refine Rx.pick (hk := ?_) | refine Rx.build (hk := ?_) | refine Rx.slice (hk := ?_) | (refine Rx.guardU (hk := ?_); dsimp only [setO]) | (refine Rx.guard (h1 := fun hg => ?_) (h2 := fun hg => ?_) <;> (try simp only [Bool.not_true, Bool.not_false, reduceCtorEq] at hg) <;> (try (cases hg; done)) <;> (try have hgp := hg) <;> (try simp only [decide_eq_true_eq, decide_eq_false_iff_not] at hgp) <;> (try dsimp only [setO])) | (refine Rx.cond (h1 := fun hb => ?_) (h2 := fun hb => ?_) <;> (try simp only [Bool.not_true, Bool.not_false, reduceCtorEq] at hb) <;> (try (cases hb; done)) <;> (try have hbp := hb) <;> (try simp only [decide_eq_true_eq, decide_eq_false_iff_not] at hbp)) | refine Wp.seq ?_ | (refine Wp.ops' fun K hK => ?_) | (refine Wp.draw (id := 10) (by first | rfl | exact hplan _ | (rw [hS.plan]; rfl)) (by kernel_rfl) (by simp only [slimL, slimD, slimG, Nat.blt, Nat.ble]; rfl) fun K hK => ?_) | refine Wp.block ?_ | (refine Wp.skip ?_; try dsimp only [thenQ, blockQ]) | (refine Wp.ret ?_; try dsimp only [thenQ, blockQ]) | (refine Wp.exit ?_; try simp only [thenQ, blockQ, reduceIte]))
      refine Wp.loopN (fun i E H'' => E.at 0 = .str s ∧ E.at 5 = .int .i64 i ∧ H'' = H') 23 ?_ ?_
      · rintro j E H'' hj ⟨k0, k5, rfl⟩
        repeat' (first
           | (refine WpL.nil (hK _ _ ?_); clear hK K; try dsimp only [thenQ, blockQ]) | refine Rx.move (hk := ?_) | refine Rx.assign (hk := ?_) | refine Rx.bin (hk := ?_) | refine Rx.index (hk := ?_) | refine Rx.len (hk := ?_) | refine Rx.pick (hk := ?_) | refine Rx.build (hk := ?_) | refine Rx.slice (hk := ?_) | (refine Rx.guardU (hk := ?_); dsimp only [setO]) | (refine Rx.guard (h1 := fun hg => ?_) (h2 := fun hg => ?_) <;> (try simp only [Bool.not_true, Bool.not_false, reduceCtorEq] at hg) <;> (try (cases hg; done)) <;> (try have hgp := hg) <;> (try simp only [decide_eq_true_eq, decide_eq_false_iff_not] at hgp) <;> (try dsimp only [setO])) | (refine Rx.cond (h1 := fun hb => ?_) (h2 := fun hb => ?_) <;> (try simp only [Bool.not_true, Bool.not_false, reduceCtorEq] at hb) <;> (try (cases hb; done)) <;> (try have hbp := hb) <;> (try simp only [decide_eq_true_eq, decide_eq_false_iff_not] at hbp)) | refine Wp.seq ?_ | (refine Wp.ops' fun K hK => ?_) | (refine Wp.draw (id := 10) (by first | rfl | exact hplan _ | (rw [hS.plan]; rfl)) (by kernel_rfl) (by simp only [slimL, slimD, slimG, Nat.blt, Nat.ble]; rfl) fun K hK => ?_) | refine Wp.block ?_ | (refine Wp.skip ?_; try dsimp only [thenQ, blockQ]) | (refine Wp.ret ?_; try dsimp only [thenQ, blockQ]) | (refine Wp.exit ?_; try simp only [thenQ, blockQ, reduceIte]))
        · have hlt : j < 23 := by omega
          have hg1 : ∃ b, ([43, 45, 42, 47, 37, 38, 124, 94, 126, 33, 60, 62, 61, 63, 58, 59, 44, 40, 41, 123, 125, 91, 93] : List UInt8)[j]? = some b := by
            rw [List.getElem?_eq_getElem (by simpa using hlt)]; exact ⟨_, rfl⟩
          obtain ⟨b, hg1⟩ := hg1
          repeat' (first
             | (refine WpL.nil (hK _ _ ?_); clear hK K; try dsimp only [thenQ, blockQ]) | refine Ry.move (hk := ?_) | refine Ry.assign (hk := ?_) | refine Ry.bin (hk := ?_) | refine Ry.index (hk := ?_) | refine Ry.len (hk := ?_) | refine Ry.pick (hk := ?_) | refine Ry.build (hk := ?_) | refine Ry.slice (hk := ?_) | (refine Ry.guardU (hk := ?_); dsimp only [setO]) | (refine Ry.guard (h1 := fun hg => ?_) (h2 := fun hg => ?_) <;> (try simp only [Bool.not_true, Bool.not_false, reduceCtorEq] at hg) <;> (try (cases hg; done)) <;> (try have hgp := hg) <;> (try simp only [decide_eq_true_eq, decide_eq_false_iff_not] at hgp) <;> (try dsimp only [setO])) | (refine Ry.cond (h1 := fun hb => ?_) (h2 := fun hb => ?_) <;> (try simp only [Bool.not_true, Bool.not_false, reduceCtorEq] at hb) <;> (try (cases hb; done)) <;> (try have hbp := hb) <;> (try simp only [decide_eq_true_eq, decide_eq_false_iff_not] at hbp)) | refine Wp.seq ?_ | (refine Wp.ops' fun K hK => ?_) | (refine Wp.draw (id := 10) (by first | rfl | exact hplan _ | (rw [hS.plan]; rfl)) (by kernel_rfl) (by simp only [slimL, slimD, slimG, Nat.blt, Nat.ble]; rfl) fun K hK => ?_) | refine Wp.block ?_ | (refine Wp.skip ?_; try dsimp only [thenQ, blockQ]) | (refine Wp.ret ?_; try dsimp only [thenQ, blockQ]) | (refine Wp.exit ?_; try simp only [thenQ, blockQ, reduceIte]))
          · all_goals (refine ⟨by first | exact .inl rfl | exact .inr rfl | exact .inl trivial | exact .inr trivial, _, (by (try simp only [sB, Nat.reduceBEq, resultsA, resultA, *]); first | done | with_reducible rfl), ?_⟩; try simp only [oneOr])
            exact ⟨⟨1, rfl, hpos⟩, by first | rfl | trivial⟩
          · refine ⟨hlt, (by first | (simp only [sB, Nat.reduceBEq, *]; done) | rfl), ?_, by first | rfl | trivial⟩
            simp only [at_set, Nat.reduceBEq, cond_true, wrap_succ (show j < 2 ^ 62 by omega)]
        · all_goals (refine ⟨by first | exact .inl rfl | exact .inr rfl | exact .inl trivial | exact .inr trivial, _, (by (try simp only [sB, Nat.reduceBEq, resultsA, resultA, *]); first | done | with_reducible rfl), ?_⟩; try simp only [oneOr])
          exact ⟨⟨0, rfl, Nat.zero_le _⟩, by first | rfl | trivial⟩
      · exact ⟨(by first | (simp only [sB, Nat.reduceBEq, *]; done) | rfl), (by first | (simp only [sB, Nat.reduceBEq, *]; done) | rfl), rfl⟩
  · exact ⟨(by first | (simp only [sB, Nat.reduceBEq, *]; done) | rfl), (by first | (simp only [sB, Nat.reduceBEq, *]; done) | rfl), (by first | (simp only [sB, Nat.reduceBEq, *]; done) | rfl), rfl⟩
end Go.Proofs.Ytjkmbpieknaekaa
namespace Go.Proofs.Ytjkmbpieknaekaa
set_option maxRecDepth 20000
set_option linter.unusedSimpArgs false
set_option linter.unusedVariables false
set_option linter.unusedSectionVars false
set_option linter.defProp false
open Go Go.Ab
namespace tyW4h
def tyF := And.intro @sz3 (And.intro @pt3 (And.intro @bt3 (And.intro @zr3 (And.intro @sz9 (And.intro @pt9 (And.intro @bt9 (And.intro @zr9 (And.intro @ln9 (And.intro @ix9 (And.intro @sz125 (And.intro @pt125 (And.intro @bt125 (And.intro @zr125 (And.intro @fa125_0p (And.intro @fa125_0c (And.intro @fd125_0 (And.intro @fa125_1p (And.intro @fa125_1c (And.intro @fd125_1 (And.intro @fa125_2p (And.intro @fa125_2c (And.intro @fd125_2 (And.intro @slice_hi (@Try.underlying9))))))))))))))))))))))))
end tyW4h
open tyW4h
structure Lexers (cfg : Cfg) : Prop where
  let_ : Plain cfg 120
  dig : Plain cfg 115
  word : Plain cfg 113
  space : Plain cfg 104
  num : Plain cfg 116
  sym : Plain cfg 114
  first : Plain cfg 105
  scan : Plain cfg 88
  plan : ∀ id, cfg.plan 114 id = .text
  keep : cfg.keep 88 = false
theorem bld96_2 (a : Int) (x : List UInt8) : buildA Try.prog 125 [(0, .int .i64 a), (1, .str x)] = some (.agg [.int .i64 a, .str x, .int .i64 0]) := by kernel_rfl
theorem bld96_0 : buildA Try.prog 125 [] = some (.agg [.int .i64 0, .str [], .int .i64 0]) := by kernel_rfl
theorem agg3 (a b c : AV) : aggA 3 [a, b, c] = some (.agg [a, b, c]) := rfl
theorem frB2 (H : Hp) (a b : HB) : FrB 0 H ((H.alloc a).set H.next b) := ((FrB.refl _ _).alloc _).set (.inl (Nat.le_refl _)) _
set_option maxHeartbeats 4000000 in
theorem first_wp {cfg : Cfg} (hx : Lexers cfg) (s : List UInt8) (h0 : s ≠ []) (hs : s.length < 2 ^ 60) (H : Hp) :
    WpCall Try.prog cfg 105 [.str s] H fun v H' => (∃ k e, v = .tup [.agg k.cells, .int .i64 e] ∧ FirstR s k e) ∧ FrB 0 H H' := by
  have hw := hx.first
  have hpos : 0 < s.length := List.length_pos_iff.2 h0
  have hg0 : s[0]? = some s[0] := List.getElem?_eq_getElem hpos
  have hwl := wordN_le s
  refine WpCall.slim (M := 41) (rs := [.cell 2 125, .tmp 3]) (hw.call _) hw.ice hw.froz Try.func105 rfl rfl code105.2 rfl ?_; dsimp only [code105, envOf, Nat.reduceAdd]
  repeat' (first
     | (refine WpL.nil (hK _ _ ?_); clear hK K; try dsimp only [thenQ, blockQ]) | refine Rx.move (hk := ?_) | refine Rx.assign (hk := ?_) | refine Rx.bin (hk := ?_) | refine Rx.un (hk := ?_) | refine Rx.index (hk := ?_) | refine Rx.alloc (hk := ?_) | refine Rx.store (hk := ?_) | refine Rx.build (hk := ?_) | refine Rx.slice (hk := ?_) | (refine Rx.cond (h1 := fun hb => ?_) (h2 := fun hb => ?_) <;> (try simp only [Bool.not_true, Bool.not_false, reduceCtorEq] at hb) <;> (try (cases hb; done)) <;> (try have hbp := hb) <;> (try simp only [decide_eq_true_eq, decide_eq_false_iff_not] at hbp)) | refine Wp.seq ?_ | (refine Wp.ops' fun K hK => ?_) | refine Wp.block ?_ | (refine Wp.skip ?_; try dsimp only [thenQ, blockQ]) | (refine Wp.ret ?_; try dsimp only [thenQ, blockQ]) | (refine Wp.exit ?_; try simp only [thenQ, blockQ, reduceIte]))
  refine WpL.call rfl (by (try simp only [sB, Nat.reduceBEq, *, -hK]); first | done | with_reducible rfl) (by (try simp only [sB, Nat.reduceBEq, aevals, List.cons_append, List.nil_append, *, -hK]); first | done | with_reducible rfl) ?_; simp only [List.cons_append, List.nil_append, List.append_nil]
  refine WpCall.mono ?_ (wordLen_wp hx.word hx.let_ hx.dig s hs _)
  rintro v _ ⟨rfl, rfl⟩
  dsimp only [setO]
  have gh0 := @bld96_2
  have gh1 := @bld96_0
  repeat' (first
     | (refine WpL.nil (hK _ _ ?_); clear hK K; try dsimp only [thenQ, blockQ]) | refine Ry.move (hk := ?_) | refine Ry.assign (hk := ?_) | refine Ry.bin (hk := ?_) | refine Ry.un (hk := ?_) | refine Ry.index (hk := ?_) | refine Ry.alloc (hk := ?_) | refine Ry.store (hk := ?_) | refine Ry.build (hk := ?_) | refine Ry.slice (hk := ?_) | (refine Ry.cond (h1 := fun hb => ?_) (h2 := fun hb => ?_) <;> (try simp only [Bool.not_true, Bool.not_false, reduceCtorEq] at hb) <;> (try (cases hb; done)) <;> (try have hbp := hb) <;> (try simp only [decide_eq_true_eq, decide_eq_false_iff_not] at hbp)) | refine Wp.seq ?_ | (refine Wp.ops' fun K hK => ?_) | refine Wp.block ?_ | (refine Wp.skip ?_; try dsimp only [thenQ, blockQ]) | (refine Wp.ret ?_; try dsimp only [thenQ, blockQ]) | (refine Wp.exit ?_; try simp only [thenQ, blockQ, reduceIte]))
  · refine WpL.call rfl (by (try simp only [sB, Nat.reduceBEq, *, -hK]); first | done | with_reducible rfl) (by (try simp only [sB, Nat.reduceBEq, aevals, List.cons_append, List.nil_append, *, -hK]); first | done | with_reducible rfl) ?_; simp only [List.cons_append, List.nil_append, List.append_nil]
    refine WpCall.mono ?_ (symbolLen_wp hx.sym hx.plan s h0 hs _)
    rintro v _ ⟨⟨n, rfl, hn⟩, rfl⟩
    dsimp only [setO]
    have gh0 := @bld96_2
    have gh1 := @bld96_0
    repeat' (first
       | (refine WpL.nil (hK _ _ ?_); clear hK K; try dsimp only [thenQ, blockQ]) | refine Rx.move (hk := ?_) | refine Rx.assign (hk := ?_) | refine Rx.bin (hk := ?_) | refine Rx.un (hk := ?_) | refine Rx.index (hk := ?_) | refine Rx.alloc (hk := ?_) | refine Rx.store (hk := ?_) | refine Rx.build (hk := ?_) | refine Rx.slice (hk := ?_) | (refine Rx.cond (h1 := fun hb => ?_) (h2 := fun hb => ?_) <;> (try simp only [Bool.not_true, Bool.not_false, reduceCtorEq] at hb) <;> (try (cases hb; done)) <;> (try have hbp := hb) <;> (try simp only [decide_eq_true_eq, decide_eq_false_iff_not] at hbp)) | refine Wp.seq ?_ | (refine Wp.ops' fun K hK => ?_) | refine Wp.block ?_ | (refine Wp.skip ?_; try dsimp only [thenQ, blockQ]) | (refine Wp.ret ?_; try dsimp only [thenQ, blockQ]) | (refine Wp.exit ?_; try simp only [thenQ, blockQ, reduceIte]))
    · refine ⟨by first | exact .inl rfl | exact .inr rfl | exact .inl trivial | exact .inr trivial, _, (by (try simp only [sB, sO, Nat.reduceBEq, Nat.reduceAdd, Nat.reduceLeDiff, tyF, resultsA, resultA, agg3, *]); first | done | with_reducible rfl), ?_⟩; try simp only [oneOr]
      exact ⟨⟨⟨0, [], 0⟩, 2, rfl, rfl, by simp, fun h1 => by omega⟩, frB2 _ _ _⟩
    · refine ⟨by first | exact .inl rfl | exact .inr rfl | exact .inl trivial | exact .inr trivial, _, (by (try simp only [sB, sO, Nat.reduceBEq, Nat.reduceAdd, Nat.reduceLeDiff, tyF, resultsA, resultA, agg3, *]); first | done | with_reducible rfl), ?_⟩; try simp only [oneOr]
      refine ⟨⟨⟨3, s.take n, 0⟩, 0, rfl, rfl, fun _ => ⟨n, by omega, hn, rfl, by simp⟩, fun h1 => by omega⟩, frB2 _ _ _⟩
  · refine WpL.call rfl (by (try simp only [sB, Nat.reduceBEq, *, -hK]); first | done | with_reducible rfl) (by (try simp only [sB, Nat.reduceBEq, aevals, List.cons_append, List.nil_append, *, -hK]); first | done | with_reducible rfl) ?_; simp only [List.cons_append, List.nil_append, List.append_nil]
    refine WpCall.mono ?_ (isDigit_wp hx.dig s[0].toNat _)
    rintro v _ ⟨rfl, rfl⟩
    dsimp only [setO]
    have hsl := slice_hi (P := Try.prog) (k := .i64) (s := s) Try.underlying9 hwl
    have gh0 := @bld96_2
    have gh1 := @bld96_0
    repeat' (first
       | (refine WpL.nil (hK _ _ ?_); clear hK K; try dsimp only [thenQ, blockQ]) | refine Rx.move (hk := ?_) | refine Rx.assign (hk := ?_) | refine Rx.bin (hk := ?_) | refine Rx.un (hk := ?_) | refine Rx.index (hk := ?_) | refine Rx.alloc (hk := ?_) | refine Rx.store (hk := ?_) | refine Rx.build (hk := ?_) | refine Rx.slice (hk := ?_) | (refine Rx.cond (h1 := fun hb => ?_) (h2 := fun hb => ?_) <;> (try simp only [Bool.not_true, Bool.not_false, reduceCtorEq] at hb) <;> (try (cases hb; done)) <;> (try have hbp := hb) <;> (try simp only [decide_eq_true_eq, decide_eq_false_iff_not] at hbp)) | refine Wp.seq ?_ | (refine Wp.ops' fun K hK => ?_) | refine Wp.block ?_ | (refine Wp.skip ?_; try dsimp only [thenQ, blockQ]) | (refine Wp.ret ?_; try dsimp only [thenQ, blockQ]) | (refine Wp.exit ?_; try simp only [thenQ, blockQ, reduceIte]))
    · have hne : s.take (wordN s) ≠ [] := by
        intro h
        have := congrArg List.length h
        rw [List.length_take, Nat.min_eq_left hwl, List.length_nil] at this
        omega
      refine WpL.call rfl (by (try simp only [sB, Nat.reduceBEq, *, -hK]); first | done | with_reducible rfl) (by (try simp only [sB, Nat.reduceBEq, aevals, List.cons_append, List.nil_append, *, -hK]); first | done | with_reducible rfl) ?_; simp only [List.cons_append, List.nil_append, List.append_nil]
      refine WpCall.mono ?_ (validNumber_wp hx.num hx.dig (s.take (wordN s)) hne (by rw [List.length_take]; omega) _)
      rintro v _ ⟨⟨ok, rfl⟩, rfl⟩
      dsimp only [setO]
      have gh0 := @bld96_2
      have gh1 := @bld96_0
      repeat' (first
         | (refine WpL.nil (hK _ _ ?_); clear hK K; try dsimp only [thenQ, blockQ]) | refine Rx.move (hk := ?_) | refine Rx.assign (hk := ?_) | refine Rx.bin (hk := ?_) | refine Rx.un (hk := ?_) | refine Rx.index (hk := ?_) | refine Rx.alloc (hk := ?_) | refine Rx.store (hk := ?_) | refine Rx.build (hk := ?_) | refine Rx.slice (hk := ?_) | (refine Rx.cond (h1 := fun hb => ?_) (h2 := fun hb => ?_) <;> (try simp only [Bool.not_true, Bool.not_false, reduceCtorEq] at hb) <;> (try (cases hb; done)) <;> (try have hbp := hb) <;> (try simp only [decide_eq_true_eq, decide_eq_false_iff_not] at hbp)) | refine Wp.seq ?_ | (refine Wp.ops' fun K hK => ?_) | refine Wp.block ?_ | (refine Wp.skip ?_; try dsimp only [thenQ, blockQ]) | (refine Wp.ret ?_; try dsimp only [thenQ, blockQ]) | (refine Wp.exit ?_; try simp only [thenQ, blockQ, reduceIte]))
      · refine ⟨by first | exact .inl rfl | exact .inr rfl | exact .inl trivial | exact .inr trivial, _, (by (try simp only [sB, sO, Nat.reduceBEq, Nat.reduceAdd, Nat.reduceLeDiff, tyF, resultsA, resultA, agg3, *]); first | done | with_reducible rfl), ?_⟩; try simp only [oneOr]
        refine ⟨⟨⟨0, [], 0⟩, 2, rfl, rfl, by simp, fun h1 h2 h3 => ?_⟩, frB2 _ _ _⟩
        have := h3 _ hg0
        simp_all
      · refine ⟨by first | exact .inl rfl | exact .inr rfl | exact .inl trivial | exact .inr trivial, _, (by (try simp only [sB, sO, Nat.reduceBEq, Nat.reduceAdd, Nat.reduceLeDiff, tyF, resultsA, resultA, agg3, *]); first | done | with_reducible rfl), ?_⟩; try simp only [oneOr]
        refine ⟨⟨⟨2, s.take (wordN s), 0⟩, 0, rfl, rfl, fun _ => ⟨wordN s, by omega, hwl, rfl, by simp⟩, fun h1 h2 h3 => ?_⟩, frB2 _ _ _⟩
        have := h3 _ hg0
        simp_all
    · refine ⟨by first | exact .inl rfl | exact .inr rfl | exact .inl trivial | exact .inr trivial, _, (by (try simp only [sB, sO, Nat.reduceBEq, Nat.reduceAdd, Nat.reduceLeDiff, tyF, resultsA, resultA, agg3, *]); first | done | with_reducible rfl), ?_⟩; try simp only [oneOr]
      exact ⟨⟨⟨0, [], 0⟩, 6, rfl, rfl, by simp, fun h1 h2 => by omega⟩, frB2 _ _ _⟩
    · refine ⟨by first | exact .inl rfl | exact .inr rfl | exact .inl trivial | exact .inr trivial, _, (by (try simp only [sB, sO, Nat.reduceBEq, Nat.reduceAdd, Nat.reduceLeDiff, tyF, resultsA, resultA, agg3, *]); first | done | with_reducible rfl), ?_⟩; try simp only [oneOr]
      refine ⟨⟨⟨1, s.take (wordN s), 0⟩, 0, rfl, rfl, fun _ => ⟨wordN s, by omega, hwl, rfl, fun _ => ⟨rfl, by omega, fun b hb => ?_⟩⟩, fun _ _ _ => ⟨rfl, rfl⟩⟩, frB2 _ _ _⟩
      rw [hg0] at hb
      simp only [Option.some.injEq] at hb
      subst hb
      assumption
end Go.Proofs.Ytjkmbpieknaekaa
namespace Go.Proofs.Ytjkmbpieknaekaa
set_option maxRecDepth 20000
set_option linter.unusedSimpArgs false
set_option linter.unusedVariables false
set_option linter.unusedSectionVars false
set_option linter.defProp false
open Go Go.Ab
namespace tyW4i
def tyF := And.intro @sz3 (And.intro @pt3 (And.intro @bt3 (And.intro @zr3 (And.intro @sz9 (And.intro @pt9 (And.intro @bt9 (And.intro @zr9 (And.intro @ln9 (And.intro @ix9 (And.intro @sz30 (And.intro @pt30 (And.intro @bt30 (And.intro @zr30 (And.intro @sz61 (And.intro @pt61 (And.intro @bt61 (And.intro @zr61 (And.intro @fa61_0p (And.intro @fa61_0c (And.intro @fd61_0 (And.intro @fa61_1p (And.intro @fa61_1c (And.intro @fd61_1 (And.intro @sz89 (And.intro @pt89 (And.intro @bt89 (And.intro @zr89 (And.intro @ix89l (And.intro @ix89s (And.intro @ln89l (And.intro @ln89s (And.intro @ln89n (And.intro @sz125 (And.intro @pt125 (And.intro @bt125 (And.intro @zr125 (And.intro @fa125_0p (And.intro @fa125_0c (And.intro @fd125_0 (And.intro @fa125_1p (And.intro @fa125_1c (And.intro @fd125_1 (And.intro @fa125_2p (And.intro @fa125_2c (@fd125_2)))))))))))))))))))))))))))))))))))))))))))))
end tyW4i
open tyW4i
theorem bld92_2 (a b : Int) : buildA Try.prog 61 [(0, .int .i64 a), (1, .int .i64 b)] = some (.agg [.int .i64 a, .int .i64 b]) := by kernel_rfl
theorem bld92_0 : buildA Try.prog 61 [] = some (.agg [.int .i64 0, .int .i64 0]) := by kernel_rfl
theorem agg2 (a b : AV) : aggA 2 [a, b] = some (.agg [a, b]) := rfl
theorem tk_at (k : Tk) (x : Int) : List.take 2 k.cells ++ [.int .i64 x] ++ List.drop 3 k.cells = (Tk.mk k.kind k.text x).cells := rfl
theorem bs90 (H : Hp) (k : Tk) : buildSliceA Try.prog H 89 1 [(0, .agg k.cells)] = some (.sl H.next 0 1 3, H.alloc (.cells k.cells 0 true)) := by kernel_rfl
theorem tok_append {H0 H : Hp} {lv : AV} {ts : List Tk} (hrep : TokRep H0.next H lv ts) (hf : FrB 0 H0 H) (hlo : H0.next < H.next) (k : Tk) {r' : Nat} (hg : H.get r' = some (.cells k.cells 0 true)) (hb : ts.length < 2 ^ 40) :
    ∃ H6, appendA Try.prog false H 89 89 lv (.sl r' 0 1 3) = some (.sl H.next 0 (ts.length + 1) 3, H6) ∧ H6.next = H.next + 1 ∧ TokRep H0.next H6 (.sl H.next 0 (ts.length + 1) 3) (ts ++ [k]) ∧ FrB 0 H0 H6 ∧ ∀ j, j < H.next → lv ≠ .sl j 0 ts.length 3 → H6.get j = H.get j := by
  have hsrc : srcCells H 3 (.sl r' 0 1 3) = some (0 + 1, k.cells) := by
    have := src_sl (H := H) (r := r') (o := 0) (n := 1) (z := 3) (s := 3) hg (by rw [List.drop_zero, List.length_take, Tk.clen]; rfl)
    rw [this, List.drop_zero, List.take_of_length_le (by rw [Tk.clen]; omega)]
  have hm : maxRoom = 70368744177664 := rfl
  rcases hrep with ⟨rfl, rfl⟩ | ⟨r, rfl, q2, q3, q4, q5⟩
  · refine ⟨H.alloc (.cells k.cells 0 true), ?_, rfl, .inr ⟨H.next, by simp, ?_, hlo, Nat.lt_succ_self _, by simp⟩, hf.alloc _, fun j hj _ => ?_⟩
    · exact append_nil Try.underlying89 sz125 bt125 zr125 (by kernel_rfl) hsrc k.one rfl (by rw [hm]; omega) (by rw [hm]; omega)
    · rw [Hp.get_alloc, if_pos rfl]; simp
    · rw [Hp.get_alloc, if_neg (by omega)]
  · refine ⟨(H.kill r).alloc (.cells (ts.flatMap Tk.cells ++ k.cells) 0 true), ?_, rfl, .inr ⟨H.next, by simp, ?_, hlo, Nat.lt_succ_self _, by simp⟩, (hf.kill (by omega)).alloc _, fun j hj hne => ?_⟩
    · exact append_sl Try.underlying89 sz125 bt125 zr125 (by kernel_rfl) hsrc k.one rfl q2 (flat_len ts) (by rw [hm]; omega) (by rw [hm]; omega)
    · show ((H.kill r).alloc _).get (H.kill r).next = _
      rw [Hp.get_alloc, if_pos rfl]; simp
    · have hjr : ¬ j = r := fun e => hne (by rw [e])
      rw [Hp.get_alloc, if_neg (by simp only [Hp.next_kill]; omega), Hp.get_kill, if_neg hjr]
def ScanPost (s : List UInt8) (H : Hp) (v : AV) (H' : Hp) : Prop :=
  ∃ (why at' : Int) (lv : AV), v = .tup [lv, .agg [.int .i64 why, .int .i64 at']] ∧ FrB 0 H H' ∧ ((why ≠ 0 ∧ ¬ isNm s) ∨ (why = 0 ∧ ∃ ts, TokRep H.next H' lv ts ∧ headR s ts ∧ (isNm s → ts = [⟨1, s, 0⟩])))
set_option maxHeartbeats 4000000 in
theorem scan_wp {cfg : Cfg} (hx : Lexers cfg) (s : List UInt8) (hs : s.length < 2 ^ 60) (H : Hp) : WpCall Try.prog cfg 88 [.str s] H (ScanPost s H) := by
  have hw := hx.scan
  refine WpCall.slim (M := 49) (rs := [.tmp 2, .cell 3 61]) (hw.call _) hw.ice hw.froz Try.func88 rfl rfl code88.2 rfl ?_; dsimp only [code88, envOf, Nat.reduceAdd]
  have gh0 := @bld92_2
  have gh1 := @bld92_0
  repeat' (first
     | (refine WpL.nil (hK _ _ ?_); clear hK K; try dsimp only [thenQ, blockQ]) | refine Rx.move (hk := ?_) | refine Rx.assign (hk := ?_) | refine Rx.load (hk := ?_) | refine Rx.bin (hk := ?_) | refine Rx.fieldAddr (hk := ?_) | refine Rx.len (hk := ?_) | refine Rx.alloc (hk := ?_) | refine Rx.store (hk := ?_) | refine Rx.extract (hk := ?_) | refine Rx.build (hk := ?_) | refine Rx.buildSlice (hk := ?_) | refine Rx.slice (hk := ?_) | refine Rx.append (hk := ?_) | (refine Rx.cond (h1 := fun hb => ?_) (h2 := fun hb => ?_) <;> (try simp only [Bool.not_true, Bool.not_false, reduceCtorEq] at hb) <;> (try (cases hb; done)) <;> (try have hbp := hb) <;> (try simp only [decide_eq_true_eq, decide_eq_false_iff_not] at hbp)) | refine Wp.seq ?_ | (refine Wp.ops' fun K hK => ?_) | refine Wp.block ?_ | (refine Wp.skip ?_; try dsimp only [thenQ, blockQ]) | (refine Wp.ret ?_; try dsimp only [thenQ, blockQ]) | (refine Wp.exit ?_; try simp only [thenQ, blockQ, reduceIte]))
  · refine ⟨by first | exact .inl rfl | exact .inr rfl | exact .inl trivial | exact .inr trivial, _, (by (try simp only [sB, sO, Nat.reduceBEq, Nat.reduceAdd, Nat.reduceLeDiff, tyF, resultsA, resultA, agg2, *]); first | done | with_reducible rfl), ?_⟩; try simp only [oneOr]
    refine ⟨6, 20000, .nilS, rfl, frB2 _ _ _, .inl ⟨by simp, fun h => ?_⟩⟩
    have := h.2.2.1
    omega
  · refine WpL.call rfl (by (try simp only [sB, Nat.reduceBEq, *, -hK]); first | done | with_reducible rfl) (by (try simp only [sB, Nat.reduceBEq, aevals, List.cons_append, List.nil_append, *, -hK]); first | done | with_reducible rfl) ?_; simp only [List.cons_append, List.nil_append, List.append_nil]
    refine WpCall.mono ?_ (spaceLen_wp hx.space s hs _)
    rintro v _ ⟨rfl, rfl⟩
    dsimp only [setO]
    repeat' (first
       | (refine WpL.nil (hK _ _ ?_); clear hK K; try dsimp only [thenQ, blockQ]) | refine Rx.move (hk := ?_) | refine Rx.assign (hk := ?_) | refine Rx.load (hk := ?_) | refine Rx.bin (hk := ?_) | refine Rx.fieldAddr (hk := ?_) | refine Rx.len (hk := ?_) | refine Rx.alloc (hk := ?_) | refine Rx.store (hk := ?_) | refine Rx.extract (hk := ?_) | refine Rx.build (hk := ?_) | refine Rx.buildSlice (hk := ?_) | refine Rx.slice (hk := ?_) | refine Rx.append (hk := ?_) | (refine Rx.cond (h1 := fun hb => ?_) (h2 := fun hb => ?_) <;> (try simp only [Bool.not_true, Bool.not_false, reduceCtorEq] at hb) <;> (try (cases hb; done)) <;> (try have hbp := hb) <;> (try simp only [decide_eq_true_eq, decide_eq_false_iff_not] at hbp)) | refine Wp.seq ?_ | (refine Wp.ops' fun K hK => ?_) | refine Wp.block ?_ | (refine Wp.skip ?_; try dsimp only [thenQ, blockQ]) | (refine Wp.ret ?_; try dsimp only [thenQ, blockQ]) | (refine Wp.exit ?_; try simp only [thenQ, blockQ, reduceIte]))
    have hsp := spaceN_le false s
    refine Wp.loop (fun n E H2 => ∃ (at' : Nat) (ts : List Tk) (lv : AV), n = s.length - at' ∧ at' ≤ s.length ∧ E.at 0 = .str s ∧ E.at 3 = .ptr H.next 0 ∧ E.at 4 = lv ∧ E.at 5 = .int .i64 at' ∧ FrB 0 H H2 ∧ H.next < H2.next ∧
      H2.get H.next = some (.cells [.int .i64 0, .int .i64 0] 0 true) ∧ TokRep H.next H2 lv ts ∧ ts.length ≤ at' ∧ headR s ts ∧ (ts = [] → at' = spaceN false s) ∧ (isNm s → (ts = [] ∧ at' = 0) ∨ (ts = [⟨1, s, 0⟩] ∧ at' = s.length))) ?_ (n := s.length - spaceN false s) ?_
    · rintro n E H2 ⟨at', ts, lv, rfl, ha, h0, h3, h4, h5, hf2, hn2, hg2, hrep, htl, hhead, hfirst, hnm⟩
      have e1 : (H.next == H2.next) = false := by simp; omega
      repeat' (first
         | (refine WpL.nil (hK _ _ ?_); clear hK K; try dsimp only [thenQ, blockQ]) | refine Rx.move (hk := ?_) | refine Rx.assign (hk := ?_) | refine Rx.load (hk := ?_) | refine Rx.bin (hk := ?_) | refine Rx.fieldAddr (hk := ?_) | refine Rx.len (hk := ?_) | refine Rx.alloc (hk := ?_) | refine Rx.store (hk := ?_) | refine Rx.extract (hk := ?_) | refine Rx.build (hk := ?_) | refine Rx.buildSlice (hk := ?_) | refine Rx.slice (hk := ?_) | refine Rx.append (hk := ?_) | (refine Rx.cond (h1 := fun hb => ?_) (h2 := fun hb => ?_) <;> (try simp only [Bool.not_true, Bool.not_false, reduceCtorEq] at hb) <;> (try (cases hb; done)) <;> (try have hbp := hb) <;> (try simp only [decide_eq_true_eq, decide_eq_false_iff_not] at hbp)) | refine Wp.seq ?_ | (refine Wp.ops' fun K hK => ?_) | refine Wp.block ?_ | (refine Wp.skip ?_; try dsimp only [thenQ, blockQ]) | (refine Wp.ret ?_; try dsimp only [thenQ, blockQ]) | (refine Wp.exit ?_; try simp only [thenQ, blockQ, reduceIte]))
      · have hlt : at' < s.length := by omega
        have hslo := slice_lo (P := Try.prog) (k := .i64) (s := s) (m := at') Try.underlying9 ha
        repeat' (first
           | (refine WpL.nil (hK _ _ ?_); clear hK K; try dsimp only [thenQ, blockQ]) | refine Rx.move (hk := ?_) | refine Rx.assign (hk := ?_) | refine Rx.load (hk := ?_) | refine Rx.bin (hk := ?_) | refine Rx.fieldAddr (hk := ?_) | refine Rx.len (hk := ?_) | refine Rx.alloc (hk := ?_) | refine Rx.store (hk := ?_) | refine Rx.extract (hk := ?_) | refine Rx.build (hk := ?_) | refine Rx.buildSlice (hk := ?_) | refine Rx.slice (hk := ?_) | refine Rx.append (hk := ?_) | (refine Rx.cond (h1 := fun hb => ?_) (h2 := fun hb => ?_) <;> (try simp only [Bool.not_true, Bool.not_false, reduceCtorEq] at hb) <;> (try (cases hb; done)) <;> (try have hbp := hb) <;> (try simp only [decide_eq_true_eq, decide_eq_false_iff_not] at hbp)) | refine Wp.seq ?_ | (refine Wp.ops' fun K hK => ?_) | refine Wp.block ?_ | (refine Wp.skip ?_; try dsimp only [thenQ, blockQ]) | (refine Wp.ret ?_; try dsimp only [thenQ, blockQ]) | (refine Wp.exit ?_; try simp only [thenQ, blockQ, reduceIte]))
        have hne : s.drop at' ≠ [] := by
          intro h
          have := congrArg List.length h
          rw [List.length_drop, List.length_nil] at this
          omega
        refine WpL.call rfl (by (try simp only [sB, Nat.reduceBEq, *, -hK]); first | done | with_reducible rfl) (by (try simp only [sB, Nat.reduceBEq, aevals, List.cons_append, List.nil_append, *, -hK]); first | done | with_reducible rfl) ?_; simp only [List.cons_append, List.nil_append, List.append_nil]
        refine WpCall.mono ?_ (first_wp hx (s.drop at') hne (by rw [List.length_drop]; omega) H2)
        rintro v H3 ⟨⟨k, e, rfl, hk⟩, hf3⟩
        have hn3 := hf3.next
        have hg3 : H3.get H.next = some (.cells [.int .i64 0, .int .i64 0] 0 true) := by rw [hf3.get _ (Nat.zero_le _) hn2]; exact hg2
        have hrep3 : TokRep H.next H3 lv ts := by
          rcases hrep with h | ⟨r, q1, q2, q3, q4, q5⟩
          · exact .inl h
          · exact .inr ⟨r, q1, by rw [hf3.get _ (Nat.zero_le _) q4]; exact q2, q3, by omega, q5⟩
        have e2 : (H.next == H3.next) = false := by simp; omega
        dsimp only [setO]
        have hx1 : Ab.extract (.tup [.agg k.cells, .int .i64 e]) 0 = some (.agg k.cells) := rfl
        have hx2 : Ab.extract (.tup [.agg k.cells, .int .i64 e]) 1 = some (.int .i64 e) := rfl
        have gh0 := @bld92_2
        repeat' (first
           | (refine WpL.nil (hK _ _ ?_); clear hK K; try dsimp only [thenQ, blockQ]) | refine Rx.move (hk := ?_) | refine Rx.assign (hk := ?_) | refine Rx.load (hk := ?_) | refine Rx.bin (hk := ?_) | refine Rx.fieldAddr (hk := ?_) | refine Rx.len (hk := ?_) | refine Rx.alloc (hk := ?_) | refine Rx.store (hk := ?_) | refine Rx.extract (hk := ?_) | refine Rx.build (hk := ?_) | refine Rx.buildSlice (hk := ?_) | refine Rx.slice (hk := ?_) | refine Rx.append (hk := ?_) | (refine Rx.cond (h1 := fun hb => ?_) (h2 := fun hb => ?_) <;> (try simp only [Bool.not_true, Bool.not_false, reduceCtorEq] at hb) <;> (try (cases hb; done)) <;> (try have hbp := hb) <;> (try simp only [decide_eq_true_eq, decide_eq_false_iff_not] at hbp)) | refine Wp.seq ?_ | (refine Wp.ops' fun K hK => ?_) | refine Wp.block ?_ | (refine Wp.skip ?_; try dsimp only [thenQ, blockQ]) | (refine Wp.ret ?_; try dsimp only [thenQ, blockQ]) | (refine Wp.exit ?_; try simp only [thenQ, blockQ, reduceIte]))
        · have he : e ≠ 0 := by simpa using hb
          refine ⟨by first | exact .inl rfl | exact .inr rfl | exact .inl trivial | exact .inr trivial, _, (by (try simp only [sB, sO, Nat.reduceBEq, Nat.reduceAdd, Nat.reduceLeDiff, tyF, resultsA, resultA, agg2, *]); first | done | with_reducible rfl), ?_⟩; try simp only [oneOr]
          refine ⟨e, at', .nilS, rfl, ?_, .inl ⟨he, fun h => ?_⟩⟩
          · exact ((((hf2.trans hf3).alloc _).set (.inl (by omega)) _).set (.inl (Nat.le_refl _)) _)
          · rcases hnm h with ⟨_, q⟩ | ⟨_, q⟩
            · subst q
              exact he (hk.2.2 h.1 (by have := h.2.1; have := h.2.2.1; simp only [List.drop_zero]; omega) h.2.2.2).1
            · omega
        · have he : e = 0 := by simpa using hb
          have gh0 := @tk_at
          have gh1 := @bs90
          repeat' (first
             | (refine WpL.nil (hK _ _ ?_); clear hK K; try dsimp only [thenQ, blockQ]) | refine Rx.move (hk := ?_) | refine Rx.assign (hk := ?_) | refine Rx.load (hk := ?_) | refine Rx.bin (hk := ?_) | refine Rx.fieldAddr (hk := ?_) | refine Rx.len (hk := ?_) | refine Rx.alloc (hk := ?_) | refine Rx.store (hk := ?_) | refine Rx.extract (hk := ?_) | refine Rx.build (hk := ?_) | refine Rx.buildSlice (hk := ?_) | refine Rx.slice (hk := ?_) | refine Rx.append (hk := ?_) | (refine Rx.cond (h1 := fun hb => ?_) (h2 := fun hb => ?_) <;> (try simp only [Bool.not_true, Bool.not_false, reduceCtorEq] at hb) <;> (try (cases hb; done)) <;> (try have hbp := hb) <;> (try simp only [decide_eq_true_eq, decide_eq_false_iff_not] at hbp)) | refine Wp.seq ?_ | (refine Wp.ops' fun K hK => ?_) | refine Wp.block ?_ | (refine Wp.skip ?_; try dsimp only [thenQ, blockQ]) | (refine Wp.ret ?_; try dsimp only [thenQ, blockQ]) | (refine Wp.exit ?_; try simp only [thenQ, blockQ, reduceIte]))
          generalize hk' : Tk.mk k.kind k.text (at' : Int) = k'
          generalize hH5 : Hp.alloc _ (HB.cells (Tk.cells k') 0 true) = H5
          have hn5 : H5.next = H3.next + 2 := by rw [← hH5]; rfl
          have hg5 : H5.get (H3.next + 1) = some (.cells k'.cells 0 true) := by rw [← hH5]; simp only [get_set, get_alloc, Hp.next_alloc, Hp.next_set, nb1, nb2, nb3, Nat.add_assoc, Nat.reduceAdd, beq_self_eq_true, cond_true, cond_false, Nat.reduceBEq]
          have hg5a : H5.get H3.next = some (.cells k'.cells 0 true) := by rw [← hH5]; simp only [get_set, get_alloc, Hp.next_alloc, Hp.next_set, nb1, nb2, nb3, Nat.add_assoc, Nat.reduceAdd, beq_self_eq_true, cond_true, cond_false, Nat.reduceBEq]
          have hf5 : FrB 0 H3 H5 := by rw [← hH5]; exact (((FrB.refl _ _).alloc _).set (.inl (Nat.le_refl _)) _).set (.inl (Nat.le_refl _)) _ |>.alloc _
          have hF5 : FrB 0 H H5 := (hf2.trans hf3).trans hf5
          have hrep5 : TokRep H.next H5 lv ts := by
            rcases hrep3 with h | ⟨r, q1, q2, q3, q4, q5⟩
            · exact .inl h
            · exact .inr ⟨r, q1, by rw [hf5.get _ (Nat.zero_le _) q4]; exact q2, q3, by omega, q5⟩
          obtain ⟨H6, p1, p2, p3, p4, p5⟩ := tok_append hrep5 hF5 (by omega) k' hg5 (by omega)
          have hkeep := hx.keep
          have hg6 : H6.get H.next = some (.cells [.int .i64 0, .int .i64 0] 0 true) := by
            rw [p5 _ (by omega) (fun e => by rcases hrep3 with ⟨_, q⟩ | ⟨r, q1, _, q3, _⟩ <;> simp_all), hf5.get _ (Nat.zero_le _) (by omega)]; exact hg3
          have hg6a : H6.get H3.next = some (.cells k'.cells 0 true) := by
            rw [p5 _ (by omega) (fun e => by rcases hrep3 with ⟨_, q⟩ | ⟨r, q1, _, q3, q4, _⟩ <;> simp_all)]; exact hg5a
          obtain ⟨n, hn1, hn2', hkt, hkk⟩ := hk.2.1 he
          rw [List.length_drop] at hn2'
          have hktl : k'.text.length = n := by rw [← hk']; show k.text.length = n; rw [hkt, List.length_take, List.length_drop]; omega
          have hwr : IntKind.wrap .i64 ((at' : Int) + (n : Int)) = ((at' + n : Nat) : Int) := by rw [IntWalk.i64_in _ (by omega)]; omega
          have hslo2 := slice_lo (P := Try.prog) (k := .i64) (s := s) (m := at' + n) Try.underlying9 (by omega)
          refine WpL.append (by (try simp only [sB, Nat.reduceBEq, *]); first | done | with_reducible rfl) (by (try simp only [sB, Nat.reduceBEq, *]); first | done | with_reducible rfl) (by rw [hkeep]; exact p1) ?_
          repeat' (first
             | (refine WpL.nil (hK _ _ ?_); clear hK K; try dsimp only [thenQ, blockQ]) | refine Rx.move (hk := ?_) | refine Rx.assign (hk := ?_) | refine Rx.load (hk := ?_) | refine Rx.bin (hk := ?_) | refine Rx.fieldAddr (hk := ?_) | refine Rx.len (hk := ?_) | refine Rx.alloc (hk := ?_) | refine Rx.store (hk := ?_) | refine Rx.extract (hk := ?_) | refine Rx.build (hk := ?_) | refine Rx.buildSlice (hk := ?_) | refine Rx.slice (hk := ?_) | refine Rx.append (hk := ?_) | (refine Rx.cond (h1 := fun hb => ?_) (h2 := fun hb => ?_) <;> (try simp only [Bool.not_true, Bool.not_false, reduceCtorEq] at hb) <;> (try (cases hb; done)) <;> (try have hbp := hb) <;> (try simp only [decide_eq_true_eq, decide_eq_false_iff_not] at hbp)) | refine Wp.seq ?_ | (refine Wp.ops' fun K hK => ?_) | refine Wp.block ?_ | (refine Wp.skip ?_; try dsimp only [thenQ, blockQ]) | (refine Wp.ret ?_; try dsimp only [thenQ, blockQ]) | (refine Wp.exit ?_; try simp only [thenQ, blockQ, reduceIte]))
          refine WpL.call rfl (by (try simp only [sB, Nat.reduceBEq, *, -hK]); first | done | with_reducible rfl) (by (try simp only [sB, Nat.reduceBEq, aevals, List.cons_append, List.nil_append, *, -hK]); first | done | with_reducible rfl) ?_; simp only [List.cons_append, List.nil_append, List.append_nil]
          refine WpCall.mono ?_ (spaceLen_wp hx.space (s.drop (at' + n)) (by rw [List.length_drop]; omega) _)
          rintro v _ ⟨rfl, rfl⟩
          dsimp only [setO]
          have hsp2 := spaceN_le false (s.drop (at' + n))
          rw [List.length_drop] at hsp2
          have hwr2 : IntKind.wrap .i64 (((at' + n : Nat) : Int) + (spaceN false (s.drop (at' + n)) : Int)) = ((at' + n + spaceN false (s.drop (at' + n)) : Nat) : Int) := by rw [IntWalk.i64_in _ (by omega)]; omega
          repeat' (first
             | (refine WpL.nil (hK _ _ ?_); clear hK K; try dsimp only [thenQ, blockQ]) | refine Rx.move (hk := ?_) | refine Rx.assign (hk := ?_) | refine Rx.load (hk := ?_) | refine Rx.bin (hk := ?_) | refine Rx.fieldAddr (hk := ?_) | refine Rx.len (hk := ?_) | refine Rx.alloc (hk := ?_) | refine Rx.store (hk := ?_) | refine Rx.extract (hk := ?_) | refine Rx.build (hk := ?_) | refine Rx.buildSlice (hk := ?_) | refine Rx.slice (hk := ?_) | refine Rx.append (hk := ?_) | (refine Rx.cond (h1 := fun hb => ?_) (h2 := fun hb => ?_) <;> (try simp only [Bool.not_true, Bool.not_false, reduceCtorEq] at hb) <;> (try (cases hb; done)) <;> (try have hbp := hb) <;> (try simp only [decide_eq_true_eq, decide_eq_false_iff_not] at hbp)) | refine Wp.seq ?_ | (refine Wp.ops' fun K hK => ?_) | refine Wp.block ?_ | (refine Wp.skip ?_; try dsimp only [thenQ, blockQ]) | (refine Wp.ret ?_; try dsimp only [thenQ, blockQ]) | (refine Wp.exit ?_; try simp only [thenQ, blockQ, reduceIte]))
          refine ⟨s.length - (at' + n + spaceN false (s.drop (at' + n))), by omega, at' + n + spaceN false (s.drop (at' + n)), ts ++ [k'], .sl H5.next 0 (ts.length + 1) 3, rfl, by omega, (by first | (simp only [sB, Nat.reduceBEq, *]; done) | rfl), (by first | (simp only [sB, Nat.reduceBEq, *]; done) | rfl), (by first | (simp only [sB, Nat.reduceBEq, *]; done) | rfl), (by first | (simp only [sB, Nat.reduceBEq, Nat.add_assoc, *]; done) | rfl), p4, by omega, hg6, p3, by simp; omega, fun t rest hr => ?_, by simp, fun h => .inr ?_⟩
          · cases ts with
            | nil =>
              simp only [List.nil_append, List.cons.injEq] at hr
              obtain ⟨rfl, _⟩ := hr
              rw [← hfirst rfl]
              exact ⟨k, by rw [← he]; exact hk, by rw [← hk'], by rw [← hk']⟩
            | cons t0 ts =>
              simp only [List.cons_append, List.cons.injEq] at hr
              obtain ⟨rfl, _⟩ := hr
              exact hhead _ _ rfl
          · rcases hnm h with ⟨rfl, q⟩ | ⟨_, q⟩
            · subst q
              have hk2 := (hk.2.2 h.1 (by have := h.2.1; have := h.2.2.1; simp only [List.drop_zero]; omega) h.2.2.2).2
              simp only [List.drop_zero] at hk2 hkt
              have hwn : wordN s = s.length := h.2.1
              rw [hwn, List.take_length] at hk2
              have hns : n = s.length := by
                have := congrArg List.length hkt
                rw [hk2, List.length_take] at this
                have h3 : s.length = min n s.length := this
                omega
              have hkk2 : k' = ⟨1, s, 0⟩ := by rw [← hk', hk2]; rfl
              refine ⟨by rw [hkk2]; rfl, ?_⟩
              rw [hns]; simp [spaceN]
            · omega
      · have hat : at' = s.length := by omega
        have gh0 := @bld92_0
        repeat' (first
           | (refine WpL.nil (hK _ _ ?_); clear hK K; try dsimp only [thenQ, blockQ]) | refine Rx.move (hk := ?_) | refine Rx.assign (hk := ?_) | refine Rx.load (hk := ?_) | refine Rx.bin (hk := ?_) | refine Rx.fieldAddr (hk := ?_) | refine Rx.len (hk := ?_) | refine Rx.alloc (hk := ?_) | refine Rx.store (hk := ?_) | refine Rx.extract (hk := ?_) | refine Rx.build (hk := ?_) | refine Rx.buildSlice (hk := ?_) | refine Rx.slice (hk := ?_) | refine Rx.append (hk := ?_) | (refine Rx.cond (h1 := fun hb => ?_) (h2 := fun hb => ?_) <;> (try simp only [Bool.not_true, Bool.not_false, reduceCtorEq] at hb) <;> (try (cases hb; done)) <;> (try have hbp := hb) <;> (try simp only [decide_eq_true_eq, decide_eq_false_iff_not] at hbp)) | refine Wp.seq ?_ | (refine Wp.ops' fun K hK => ?_) | refine Wp.block ?_ | (refine Wp.skip ?_; try dsimp only [thenQ, blockQ]) | (refine Wp.ret ?_; try dsimp only [thenQ, blockQ]) | (refine Wp.exit ?_; try simp only [thenQ, blockQ, reduceIte]))
        refine ⟨by first | exact .inl rfl | exact .inr rfl | exact .inl trivial | exact .inr trivial, _, (by (try simp only [sB, sO, Nat.reduceBEq, Nat.reduceAdd, Nat.reduceLeDiff, tyF, resultsA, resultA, agg2, *]); first | done | with_reducible rfl), ?_⟩; try simp only [oneOr]
        refine ⟨0, 0, lv, rfl, hf2.set (.inl (Nat.le_refl _)) _, .inr ⟨rfl, ts, ?_, hhead, fun h => ?_⟩⟩
        · rcases hrep with h | ⟨r, q1, q2, q3, q4, q5⟩
          · exact .inl h
          · exact .inr ⟨r, q1, by rw [Hp.get_set, if_neg (by omega)]; exact q2, q3, q4, q5⟩
        · rcases hnm h with ⟨_, q⟩ | ⟨q, _⟩
          · have := h.1; have := h.2.1; omega
          · exact q
    · refine ⟨spaceN false s, [], .nilS, rfl, hsp, (by first | (simp only [sB, Nat.reduceBEq, *]; done) | rfl), (by first | (simp only [sB, Nat.reduceBEq, *]; done) | rfl), (by first | (simp only [sB, Nat.reduceBEq, *]; done) | rfl), (by first | (simp only [sB, Nat.reduceBEq, *]; done) | rfl), (FrB.refl _ _).alloc _, by simp only [Hp.next_alloc]; omega, (by first | (simp only [sB, sO, Nat.reduceBEq, Nat.reduceAdd, Nat.reduceLeDiff, tyF, *]; done) | rfl), .inl ⟨rfl, rfl⟩, by simp, by simp [headR], fun _ => rfl, fun h => .inl ⟨rfl, isNm_space h⟩⟩
end Go.Proofs.Ytjkmbpieknaekaa
namespace Go.Proofs.Ytjkmbpieknaekaa
set_option maxRecDepth 20000
set_option linter.unusedSimpArgs false
set_option linter.unusedVariables false
set_option linter.unusedSectionVars false
set_option linter.defProp false
open Go Go.Ab
namespace tyW4j
def tyF := And.intro @sz3 (And.intro @pt3 (And.intro @bt3 (And.intro @zr3 (And.intro @sz9 (And.intro @pt9 (And.intro @bt9 (And.intro @zr9 (And.intro @ln9 (And.intro @ix9 (And.intro @sz30 (And.intro @pt30 (And.intro @bt30 (And.intro @zr30 (And.intro @sz61 (And.intro @pt61 (And.intro @bt61 (And.intro @zr61 (And.intro @fa61_0p (And.intro @fa61_0c (And.intro @fd61_0 (And.intro @fa61_1p (And.intro @fa61_1c (And.intro @fd61_1 (And.intro @sz89 (And.intro @pt89 (And.intro @bt89 (And.intro @zr89 (And.intro @ix89l (And.intro @ix89s (And.intro @ln89l (And.intro @ln89s (And.intro @ln89n (And.intro @sz125 (And.intro @pt125 (And.intro @bt125 (And.intro @zr125 (And.intro @fa125_0p (And.intro @fa125_0c (And.intro @fd125_0 (And.intro @fa125_1p (And.intro @fa125_1c (And.intro @fd125_1 (And.intro @fa125_2p (And.intro @fa125_2c (And.intro @fd125_2 (And.intro @sz35 (And.intro @pt35 (And.intro @bt35 (And.intro @zr35 (And.intro @ix35l (And.intro @ix35s (And.intro @ln35l (And.intro @ln35s (And.intro @ln35n (And.intro @List.flatMap_cons.{0, 0} (And.intro @List.flatMap_nil.{0, 0} (@Nat.zero_mul)))))))))))))))))))))))))))))))))))))))))))))))))))))))))
end tyW4j
open tyW4j
noncomputable def code57 : { c : SC // slim 44 (Try.f57.body.getD .skip) = c } := by
  refine ⟨?_, ?_⟩
  rotate_left
  · simp only [Try.f57, Option.getD_some, slim, slimR, slimL, slimD, slimG, Nat.blt, Nat.ble]
    rfl
noncomputable def code58 : { c : SC // slim 15 (Try.f58.body.getD .skip) = c } := by
  refine ⟨?_, ?_⟩
  rotate_left
  · simp only [Try.f58, Option.getD_some, slim, slimR, slimL, slimD, slimG, Nat.blt, Nat.ble]
    rfl
set_option maxHeartbeats 4000000 in
theorem validName_wp {cfg : Cfg} (hx : Lexers cfg) (hw : Plain cfg 57) (s : List UInt8) (hs : s.length < 2 ^ 60) (H : Hp) :
    WpCall Try.prog cfg 57 [.str s] H fun v H' => v = .bool (nameB s) ∧ FrB 0 H H' := by
  refine WpCall.slim (M := 44) (rs := [.tmp 2]) (hw.call _) hw.ice hw.froz Try.func57 rfl rfl code57.2 rfl ?_; dsimp only [code57, envOf, Nat.reduceAdd]
  repeat' (first
     | (refine WpL.nil (hK _ _ ?_); clear hK K; try dsimp only [thenQ, blockQ]) | refine Rx.move (hk := ?_) | refine Rx.assign (hk := ?_) | refine Rx.load (hk := ?_) | refine Rx.bin (hk := ?_) | refine Rx.fieldAddr (hk := ?_) | refine Rx.indexAddr (hk := ?_) | refine Rx.len (hk := ?_) | refine Rx.pick (hk := ?_) | refine Rx.alloc (hk := ?_) | refine Rx.store (hk := ?_) | refine Rx.extract (hk := ?_) | (refine Rx.guardU (hk := ?_); dsimp only [setO]) | (refine Rx.guard (h1 := fun hg => ?_) (h2 := fun hg => ?_) <;> (try simp only [Bool.not_true, Bool.not_false, reduceCtorEq] at hg) <;> (try (cases hg; done)) <;> (try have hgp := hg) <;> (try simp only [decide_eq_true_eq, decide_eq_false_iff_not] at hgp) <;> (try dsimp only [setO])) | (refine Rx.cond (h1 := fun hb => ?_) (h2 := fun hb => ?_) <;> (try simp only [Bool.not_true, Bool.not_false, reduceCtorEq] at hb) <;> (try (cases hb; done)) <;> (try have hbp := hb) <;> (try simp only [decide_eq_true_eq, decide_eq_false_iff_not] at hbp)) | refine Wp.seq ?_ | (refine Wp.ops' fun K hK => ?_) | refine Wp.block ?_ | (refine Wp.skip ?_; try dsimp only [thenQ, blockQ]) | (refine Wp.ret ?_; try dsimp only [thenQ, blockQ]) | (refine Wp.exit ?_; try simp only [thenQ, blockQ, reduceIte]))
  refine WpL.call rfl (by (try simp only [sB, Nat.reduceBEq, *, -hK]); first | done | with_reducible rfl) (by (try simp only [sB, Nat.reduceBEq, aevals, List.cons_append, List.nil_append, *, -hK]); first | done | with_reducible rfl) ?_; simp only [List.cons_append, List.nil_append, List.append_nil]
  refine WpCall.mono ?_ (scan_wp hx s hs H)
  rintro v H2 ⟨why, at', lv, rfl, hf2, hcase⟩
  have hx1 : Ab.extract (.tup [lv, .agg [.int .i64 why, .int .i64 at']]) 0 = some lv := rfl
  have hx2 : Ab.extract (.tup [lv, .agg [.int .i64 why, .int .i64 at']]) 1 = some (.agg [.int .i64 why, .int .i64 at']) := rfl
  dsimp only [setO]
  have hf3 : FrB 0 H ((H2.alloc (.cells [.int .i64 0, .int .i64 0] 0 true)).set H2.next (.cells [.int .i64 why, .int .i64 at'] 0 true)) := (hf2.alloc _).set (.inl hf2.next) _
  rcases hcase with ⟨h1, h2⟩ | ⟨rfl, ts, hrep, hhead, hnm⟩
  · have hnb : nmB s = false := by
      cases hb : nmB s with
      | false => rfl
      | true => exact (h2 ((nmB_iff s).1 hb)).elim
    repeat' (first
       | (refine WpL.nil (hK _ _ ?_); clear hK K; try dsimp only [thenQ, blockQ]) | refine Rx.move (hk := ?_) | refine Rx.assign (hk := ?_) | refine Rx.load (hk := ?_) | refine Rx.bin (hk := ?_) | refine Rx.fieldAddr (hk := ?_) | refine Rx.indexAddr (hk := ?_) | refine Rx.len (hk := ?_) | refine Rx.pick (hk := ?_) | refine Rx.alloc (hk := ?_) | refine Rx.store (hk := ?_) | refine Rx.extract (hk := ?_) | (refine Rx.guardU (hk := ?_); dsimp only [setO]) | (refine Rx.guard (h1 := fun hg => ?_) (h2 := fun hg => ?_) <;> (try simp only [Bool.not_true, Bool.not_false, reduceCtorEq] at hg) <;> (try (cases hg; done)) <;> (try have hgp := hg) <;> (try simp only [decide_eq_true_eq, decide_eq_false_iff_not] at hgp) <;> (try dsimp only [setO])) | (refine Rx.cond (h1 := fun hb => ?_) (h2 := fun hb => ?_) <;> (try simp only [Bool.not_true, Bool.not_false, reduceCtorEq] at hb) <;> (try (cases hb; done)) <;> (try have hbp := hb) <;> (try simp only [decide_eq_true_eq, decide_eq_false_iff_not] at hbp)) | refine Wp.seq ?_ | (refine Wp.ops' fun K hK => ?_) | refine Wp.block ?_ | (refine Wp.skip ?_; try dsimp only [thenQ, blockQ]) | (refine Wp.ret ?_; try dsimp only [thenQ, blockQ]) | (refine Wp.exit ?_; try simp only [thenQ, blockQ, reduceIte]))
    all_goals (refine ⟨by first | exact .inl rfl | exact .inr rfl | exact .inl trivial | exact .inr trivial, _, (by (try simp only [sB, Nat.reduceBEq, resultsA, resultA, *]); first | done | with_reducible rfl), ?_⟩; try simp only [oneOr])
    exact ⟨by simp only [nameB, hnb, Bool.false_and], hf3⟩
  · rcases hrep with ⟨rfl, rfl⟩ | ⟨r, rfl, q2, q3, q4, q5⟩
    · have hnb : nmB s = false := by
        cases hb : nmB s with
        | false => rfl
        | true => have := hnm ((nmB_iff s).1 hb); simp at this
      repeat' (first
         | (refine WpL.nil (hK _ _ ?_); clear hK K; try dsimp only [thenQ, blockQ]) | refine Rx.move (hk := ?_) | refine Rx.assign (hk := ?_) | refine Rx.load (hk := ?_) | refine Rx.bin (hk := ?_) | refine Rx.fieldAddr (hk := ?_) | refine Rx.indexAddr (hk := ?_) | refine Rx.len (hk := ?_) | refine Rx.pick (hk := ?_) | refine Rx.alloc (hk := ?_) | refine Rx.store (hk := ?_) | refine Rx.extract (hk := ?_) | (refine Rx.guardU (hk := ?_); dsimp only [setO]) | (refine Rx.guard (h1 := fun hg => ?_) (h2 := fun hg => ?_) <;> (try simp only [Bool.not_true, Bool.not_false, reduceCtorEq] at hg) <;> (try (cases hg; done)) <;> (try have hgp := hg) <;> (try simp only [decide_eq_true_eq, decide_eq_false_iff_not] at hgp) <;> (try dsimp only [setO])) | (refine Rx.cond (h1 := fun hb => ?_) (h2 := fun hb => ?_) <;> (try simp only [Bool.not_true, Bool.not_false, reduceCtorEq] at hb) <;> (try (cases hb; done)) <;> (try have hbp := hb) <;> (try simp only [decide_eq_true_eq, decide_eq_false_iff_not] at hbp)) | refine Wp.seq ?_ | (refine Wp.ops' fun K hK => ?_) | refine Wp.block ?_ | (refine Wp.skip ?_; try dsimp only [thenQ, blockQ]) | (refine Wp.ret ?_; try dsimp only [thenQ, blockQ]) | (refine Wp.exit ?_; try simp only [thenQ, blockQ, reduceIte]))
      all_goals (refine ⟨by first | exact .inl rfl | exact .inr rfl | exact .inl trivial | exact .inr trivial, _, (by (try simp only [sB, Nat.reduceBEq, resultsA, resultA, *]); first | done | with_reducible rfl), ?_⟩; try simp only [oneOr])
      exact ⟨by simp only [nameB, hnb, Bool.false_and], hf3⟩
    · have e1 : (r == H2.next) = false := by simp; omega
      by_cases hl : ts.length = 1
      · obtain ⟨k, rfl⟩ := List.length_eq_one_iff.1 hl
        simp only [List.flatMap_cons, List.flatMap_nil, List.append_nil] at q2
        simp only [List.length_cons, List.length_nil, Nat.zero_add] at hx1 hx2 ⊢
        have hkey : isNm s ↔ (k.kind = 1 ∧ k.text = s) := ⟨fun h => by have := hnm h; simp only [List.cons.injEq, and_true] at this; rw [this]; exact ⟨rfl, rfl⟩, fun h => head_nm hhead h.1 h.2⟩
        have hnb : nmB s = (decide (k.kind = 1) && decide (k.text = s)) := by
          rw [Bool.eq_iff_iff, nmB_iff, hkey]; simp
        clear hkey hnm hhead
        have hidx : indexAddrA Try.prog 89 (.sl r 0 1 3) (.int .i64 0) = some (.ptr r 0) := by kernel_rfl
        repeat' (first
           | (refine WpL.nil (hK _ _ ?_); clear hK K; try dsimp only [thenQ, blockQ]) | refine Ry.move (hk := ?_) | refine Ry.assign (hk := ?_) | refine Ry.load (hk := ?_) | refine Ry.bin (hk := ?_) | refine Ry.fieldAddr (hk := ?_) | refine Ry.indexAddr (hk := ?_) | refine Ry.len (hk := ?_) | refine Ry.pick (hk := ?_) | refine Ry.alloc (hk := ?_) | refine Ry.store (hk := ?_) | refine Ry.extract (hk := ?_) | (refine Ry.guardU (hk := ?_); dsimp only [setO]) | (refine Ry.guard (h1 := fun hg => ?_) (h2 := fun hg => ?_) <;> (try simp only [Bool.not_true, Bool.not_false, reduceCtorEq] at hg) <;> (try (cases hg; done)) <;> (try have hgp := hg) <;> (try simp only [decide_eq_true_eq, decide_eq_false_iff_not] at hgp) <;> (try dsimp only [setO])) | (refine Ry.cond (h1 := fun hb => ?_) (h2 := fun hb => ?_) <;> (try simp only [Bool.not_true, Bool.not_false, reduceCtorEq] at hb) <;> (try (cases hb; done)) <;> (try have hbp := hb) <;> (try simp only [decide_eq_true_eq, decide_eq_false_iff_not] at hbp)) | refine Wp.seq ?_ | (refine Wp.ops' fun K hK => ?_) | refine Wp.block ?_ | (refine Wp.skip ?_; try dsimp only [thenQ, blockQ]) | (refine Wp.ret ?_; try dsimp only [thenQ, blockQ]) | (refine Wp.exit ?_; try simp only [thenQ, blockQ, reduceIte]))
        all_goals (refine ⟨by first | exact .inl rfl | exact .inr rfl | exact .inl trivial | exact .inr trivial, _, (by (try simp only [sB, Nat.reduceBEq, resultsA, resultA, *]); first | done | with_reducible rfl), ?_⟩; try simp only [oneOr])
        all_goals (refine ⟨?_, hf3⟩; simp only [nameB, hnb, resB]; simp_all)
      · have hnb : nmB s = false := by
          cases hb : nmB s with
          | false => rfl
          | true => have := hnm ((nmB_iff s).1 hb); rw [this] at hl; simp at hl
        have hl2 : decide ((ts.length : Int) = 1) = false := by simp; omega
        repeat' (first
           | (refine WpL.nil (hK _ _ ?_); clear hK K; try dsimp only [thenQ, blockQ]) | refine Rx.move (hk := ?_) | refine Rx.assign (hk := ?_) | refine Rx.load (hk := ?_) | refine Rx.bin (hk := ?_) | refine Rx.fieldAddr (hk := ?_) | refine Rx.indexAddr (hk := ?_) | refine Rx.len (hk := ?_) | refine Rx.pick (hk := ?_) | refine Rx.alloc (hk := ?_) | refine Rx.store (hk := ?_) | refine Rx.extract (hk := ?_) | (refine Rx.guardU (hk := ?_); dsimp only [setO]) | (refine Rx.guard (h1 := fun hg => ?_) (h2 := fun hg => ?_) <;> (try simp only [Bool.not_true, Bool.not_false, reduceCtorEq] at hg) <;> (try (cases hg; done)) <;> (try have hgp := hg) <;> (try simp only [decide_eq_true_eq, decide_eq_false_iff_not] at hgp) <;> (try dsimp only [setO])) | (refine Rx.cond (h1 := fun hb => ?_) (h2 := fun hb => ?_) <;> (try simp only [Bool.not_true, Bool.not_false, reduceCtorEq] at hb) <;> (try (cases hb; done)) <;> (try have hbp := hb) <;> (try simp only [decide_eq_true_eq, decide_eq_false_iff_not] at hbp)) | refine Wp.seq ?_ | (refine Wp.ops' fun K hK => ?_) | refine Wp.block ?_ | (refine Wp.skip ?_; try dsimp only [thenQ, blockQ]) | (refine Wp.ret ?_; try dsimp only [thenQ, blockQ]) | (refine Wp.exit ?_; try simp only [thenQ, blockQ, reduceIte]))
        all_goals (refine ⟨by first | exact .inl rfl | exact .inr rfl | exact .inl trivial | exact .inr trivial, _, (by (try simp only [sB, Nat.reduceBEq, resultsA, resultA, *]); first | done | with_reducible rfl), ?_⟩; try simp only [oneOr])
        exact ⟨by simp only [nameB, hnb, Bool.false_and], hf3⟩
end Go.Proofs.Ytjkmbpieknaekaa
namespace Go.Proofs.Ytjkmbpieknaekaa
set_option maxRecDepth 20000
set_option linter.unusedSimpArgs false
set_option linter.unusedVariables false
set_option linter.unusedSectionVars false
set_option linter.defProp false
open Go Go.Ab
namespace tyW4k
def tyF := And.intro @sz3 (And.intro @pt3 (And.intro @bt3 (And.intro @zr3 (And.intro @sz9 (And.intro @pt9 (And.intro @bt9 (And.intro @zr9 (And.intro @ln9 (And.intro @ix9 (And.intro @sz35 (And.intro @pt35 (And.intro @bt35 (And.intro @zr35 (And.intro @ix35l (And.intro @ix35s (And.intro @ln35l (And.intro @ln35s (And.intro @ln35n (And.intro @sz2 (And.intro @pt2 (And.intro @bt2 (And.intro @zr2 (And.intro @sz37 (And.intro @pt37 (And.intro @bt37 (And.intro @zr37 (And.intro @ix37l (And.intro @ix37s (And.intro @ln37l (And.intro @ln37s (And.intro @ln37n (And.intro @sz39 (And.intro @pt39 (And.intro @bt39 (And.intro @zr39 (And.intro @fa39_0p (And.intro @fa39_0c (And.intro @fd39_0 (And.intro @fa39_1p (And.intro @fa39_1c (And.intro @fd39_1 (And.intro @fa39_2p (And.intro @fa39_2c (And.intro @fd39_2 (And.intro @fa39_3p (And.intro @fa39_3c (And.intro @fd39_3 (And.intro @fa39_4p (And.intro @fa39_4c (@fd39_4))))))))))))))))))))))))))))))))))))))))))))))))))
end tyW4k
open tyW4k
noncomputable def code89 : { c : SC // slim 23 (Try.f89.body.getD .skip) = c } := by
  refine ⟨?_, ?_⟩
  rotate_left
  · simp only [Try.f89, Option.getD_some, slim, slimR, slimL, slimD, slimG, Nat.blt, Nat.ble]
    rfl
noncomputable def code106 : { c : SC // slim 27 (Try.f106.body.getD .skip) = c } := by
  refine ⟨?_, ?_⟩
  rotate_left
  · simp only [Try.f106, Option.getD_some, slim, slimR, slimL, slimD, slimG, Nat.blt, Nat.ble]
    rfl
noncomputable def code91 : { c : SC // slim 10 (Try.f91.body.getD .skip) = c } := by
  refine ⟨?_, ?_⟩
  rotate_left
  · simp only [Try.f91, Option.getD_some, slim, slimR, slimL, slimD, slimG, Nat.blt, Nat.ble]
    rfl
def opB (k kids : Int) : Bool := if k = 20 ∨ k = 21 then decide (kids = 1) else decide (4 ≤ k) && decide (k ≤ 18) && decide (kids = 2)
theorem validOp_wp {cfg : Cfg} (hw : Plain cfg 89) (k kids : Int) (H : Hp) :
    WpCall Try.prog cfg 89 [.int .i64 k, .int .i64 kids] H fun v H' => v = .bool (opB k kids) ∧ H' = H := by
  refine WpCall.slim (M := 23) (rs := [.tmp 4]) (hw.call _) hw.ice hw.froz Try.func89 rfl rfl code89.2 rfl ?_; dsimp only [code89, envOf, Nat.reduceAdd]
  repeat' (first
     | (refine WpL.nil (hK _ _ ?_); clear hK K; try dsimp only [thenQ, blockQ]) | refine Rx.move (hk := ?_) | refine Rx.assign (hk := ?_) | refine Rx.bin (hk := ?_) | refine Rx.pick (hk := ?_) | (refine Rx.guardU (hk := ?_); dsimp only [setO]) | (refine Rx.guard (h1 := fun hg => ?_) (h2 := fun hg => ?_) <;> (try simp only [Bool.not_true, Bool.not_false, reduceCtorEq] at hg) <;> (try (cases hg; done)) <;> (try have hgp := hg) <;> (try simp only [decide_eq_true_eq, decide_eq_false_iff_not] at hgp) <;> (try dsimp only [setO])) | (refine Rx.cond (h1 := fun hb => ?_) (h2 := fun hb => ?_) <;> (try simp only [Bool.not_true, Bool.not_false, reduceCtorEq] at hb) <;> (try (cases hb; done)) <;> (try have hbp := hb) <;> (try simp only [decide_eq_true_eq, decide_eq_false_iff_not] at hbp)) | refine Wp.seq ?_ | (refine Wp.ops' fun K hK => ?_) | refine Wp.block ?_ | (refine Wp.skip ?_; try dsimp only [thenQ, blockQ]) | (refine Wp.ret ?_; try dsimp only [thenQ, blockQ]) | (refine Wp.exit ?_; try simp only [thenQ, blockQ, reduceIte]))
  all_goals
    all_goals (refine ⟨by first | exact .inl rfl | exact .inr rfl | exact .inl trivial | exact .inr trivial, _, (by (try simp only [sB, Nat.reduceBEq, resultsA, resultA, *]); first | done | with_reducible rfl), ?_⟩; try simp only [oneOr])
  all_goals (refine ⟨?_, by first | rfl | trivial⟩; simp_all [opB] <;> omega)
set_option maxHeartbeats 4000000 in
theorem isZero_wp {cfg : Cfg} (hw : Plain cfg 106) (x : Ex) (H : Hp) :
    WpCall Try.prog cfg 106 [.agg x.cells] H fun v H' => v = .bool (zeroE x) ∧ FrB 0 H H' := by
  refine WpCall.slim (M := 27) (rs := [.tmp 2]) (hw.call _) hw.ice hw.froz Try.func106 rfl rfl code106.2 rfl ?_; dsimp only [code106, envOf, Nat.reduceAdd]
  repeat' (first
     | (refine WpL.nil (hK _ _ ?_); clear hK K; try dsimp only [thenQ, blockQ]) | refine Rx.move (hk := ?_) | refine Rx.assign (hk := ?_) | refine Rx.load (hk := ?_) | refine Rx.bin (hk := ?_) | refine Rx.fieldAddr (hk := ?_) | refine Rx.len (hk := ?_) | refine Rx.pick (hk := ?_) | refine Rx.box (hk := ?_) | (refine Rx.guardU (hk := ?_); dsimp only [setO]) | (refine Rx.guard (h1 := fun hg => ?_) (h2 := fun hg => ?_) <;> (try simp only [Bool.not_true, Bool.not_false, reduceCtorEq] at hg) <;> (try (cases hg; done)) <;> (try have hgp := hg) <;> (try simp only [decide_eq_true_eq, decide_eq_false_iff_not] at hgp) <;> (try dsimp only [setO])) | (refine Rx.cond (h1 := fun hb => ?_) (h2 := fun hb => ?_) <;> (try simp only [Bool.not_true, Bool.not_false, reduceCtorEq] at hb) <;> (try (cases hb; done)) <;> (try have hbp := hb) <;> (try simp only [decide_eq_true_eq, decide_eq_false_iff_not] at hbp)) | refine Wp.seq ?_ | (refine Wp.ops' fun K hK => ?_) | refine Wp.block ?_ | (refine Wp.skip ?_; try dsimp only [thenQ, blockQ]) | (refine Wp.ret ?_; try dsimp only [thenQ, blockQ]) | (refine Wp.exit ?_; try simp only [thenQ, blockQ, reduceIte]))
  all_goals
    all_goals (refine ⟨by first | exact .inl rfl | exact .inr rfl | exact .inl trivial | exact .inr trivial, _, (by (try simp only [sB, Nat.reduceBEq, resultsA, resultA, *]); first | done | with_reducible rfl), ?_⟩; try simp only [oneOr])
  all_goals (refine ⟨?_, (FrB.refl _ _).alloc _⟩; simp_all [zeroE])
def nameF (s : List UInt8) (want : Bool) : Bool := if want then nameB s else decide (s = [])
theorem nameField_wp {cfg : Cfg} (hx : Lexers cfg) (hv : Plain cfg 57) (hw : Plain cfg 91) (s : List UInt8) (want : Bool) (hs : s.length < 2 ^ 60) (H : Hp) :
    WpCall Try.prog cfg 91 [.str s, .bool want] H fun v H' => v = .bool (nameF s want) ∧ FrB 0 H H' := by
  cases want
  · refine WpCall.slim (M := 10) (rs := [.tmp 4]) (hw.call _) hw.ice hw.froz Try.func91 rfl rfl code91.2 rfl ?_; dsimp only [code91, envOf, Nat.reduceAdd]
    repeat' (first
       | (refine WpL.nil (hK _ _ ?_); clear hK K; try dsimp only [thenQ, blockQ]) | refine Rx.move (hk := ?_) | refine Rx.assign (hk := ?_) | refine Rx.bin (hk := ?_) | (refine Rx.cond (h1 := fun hb => ?_) (h2 := fun hb => ?_) <;> (try simp only [Bool.not_true, Bool.not_false, reduceCtorEq] at hb) <;> (try (cases hb; done)) <;> (try have hbp := hb) <;> (try simp only [decide_eq_true_eq, decide_eq_false_iff_not] at hbp)) | refine Wp.seq ?_ | (refine Wp.ops' fun K hK => ?_) | refine Wp.block ?_ | (refine Wp.skip ?_; try dsimp only [thenQ, blockQ]) | (refine Wp.ret ?_; try dsimp only [thenQ, blockQ]) | (refine Wp.exit ?_; try simp only [thenQ, blockQ, reduceIte]))
    all_goals (refine ⟨by first | exact .inl rfl | exact .inr rfl | exact .inl trivial | exact .inr trivial, _, (by (try simp only [sB, Nat.reduceBEq, resultsA, resultA, *]); first | done | with_reducible rfl), ?_⟩; try simp only [oneOr])
    exact ⟨by simp [nameF], FrB.refl _ _⟩
  · refine WpCall.slim (M := 10) (rs := [.tmp 4]) (hw.call _) hw.ice hw.froz Try.func91 rfl rfl code91.2 rfl ?_; dsimp only [code91, envOf, Nat.reduceAdd]
    repeat' (first
       | (refine WpL.nil (hK _ _ ?_); clear hK K; try dsimp only [thenQ, blockQ]) | refine Rx.move (hk := ?_) | refine Rx.assign (hk := ?_) | refine Rx.bin (hk := ?_) | (refine Rx.cond (h1 := fun hb => ?_) (h2 := fun hb => ?_) <;> (try simp only [Bool.not_true, Bool.not_false, reduceCtorEq] at hb) <;> (try (cases hb; done)) <;> (try have hbp := hb) <;> (try simp only [decide_eq_true_eq, decide_eq_false_iff_not] at hbp)) | refine Wp.seq ?_ | (refine Wp.ops' fun K hK => ?_) | refine Wp.block ?_ | (refine Wp.skip ?_; try dsimp only [thenQ, blockQ]) | (refine Wp.ret ?_; try dsimp only [thenQ, blockQ]) | (refine Wp.exit ?_; try simp only [thenQ, blockQ, reduceIte]))
    refine WpL.call rfl (by (try simp only [sB, Nat.reduceBEq, *, -hK]); first | done | with_reducible rfl) (by (try simp only [sB, Nat.reduceBEq, aevals, List.cons_append, List.nil_append, *, -hK]); first | done | with_reducible rfl) ?_; simp only [List.cons_append, List.nil_append, List.append_nil]
    refine WpCall.mono ?_ (validName_wp hx hv s hs H)
    rintro v H2 ⟨rfl, hf2⟩
    dsimp only [setO]
    repeat' (first
       | (refine WpL.nil (hK _ _ ?_); clear hK K; try dsimp only [thenQ, blockQ]) | refine Rx.move (hk := ?_) | refine Rx.assign (hk := ?_) | refine Rx.bin (hk := ?_) | (refine Rx.cond (h1 := fun hb => ?_) (h2 := fun hb => ?_) <;> (try simp only [Bool.not_true, Bool.not_false, reduceCtorEq] at hb) <;> (try (cases hb; done)) <;> (try have hbp := hb) <;> (try simp only [decide_eq_true_eq, decide_eq_false_iff_not] at hbp)) | refine Wp.seq ?_ | (refine Wp.ops' fun K hK => ?_) | refine Wp.block ?_ | (refine Wp.skip ?_; try dsimp only [thenQ, blockQ]) | (refine Wp.ret ?_; try dsimp only [thenQ, blockQ]) | (refine Wp.exit ?_; try simp only [thenQ, blockQ, reduceIte]))
    all_goals (refine ⟨by first | exact .inl rfl | exact .inr rfl | exact .inl trivial | exact .inr trivial, _, (by (try simp only [sB, Nat.reduceBEq, resultsA, resultA, *]); first | done | with_reducible rfl), ?_⟩; try simp only [oneOr])
    exact ⟨by simp [nameF], hf2⟩
theorem validNames_wp {cfg : Cfg} (hx : Lexers cfg) (hv : Plain cfg 57) (hw : Plain cfg 58) (l : List (List UInt8)) (hz : strsSz l < 2 ^ 60) (H : Hp) :
    WpCall Try.prog cfg 58 [lstS l] H fun v H' => v = .bool (l.all nameB) ∧ FrB 0 H H' := by
  have hl : l.length < 2 ^ 60 := by have := strsSz_len l; omega
  refine WpCall.slim (M := 15) (rs := [.tmp 2]) (hw.call _) hw.ice hw.froz Try.func58 rfl rfl code58.2 rfl ?_; dsimp only [code58, envOf, Nat.reduceAdd]
  repeat' (first
     | (refine WpL.nil (hK _ _ ?_); clear hK K; try dsimp only [thenQ, blockQ]) | refine Rx.move (hk := ?_) | refine Rx.assign (hk := ?_) | refine Rx.load (hk := ?_) | refine Rx.bin (hk := ?_) | refine Rx.un (hk := ?_) | refine Rx.indexAddr (hk := ?_) | refine Rx.len (hk := ?_) | (refine Rx.cond (h1 := fun hb => ?_) (h2 := fun hb => ?_) <;> (try simp only [Bool.not_true, Bool.not_false, reduceCtorEq] at hb) <;> (try (cases hb; done)) <;> (try have hbp := hb) <;> (try simp only [decide_eq_true_eq, decide_eq_false_iff_not] at hbp)) | refine Wp.seq ?_ | (refine Wp.ops' fun K hK => ?_) | refine Wp.block ?_ | (refine Wp.skip ?_; try dsimp only [thenQ, blockQ]) | (refine Wp.ret ?_; try dsimp only [thenQ, blockQ]) | (refine Wp.exit ?_; try simp only [thenQ, blockQ, reduceIte]))
  refine Wp.loopN (fun i E H2 => l.all nameB = (l.drop i).all nameB ∧ E.at 5 = .lst (l.map fun s => [.str s]) ∧ E.at 6 = .int .i64 l.length ∧ E.at 7 = .int .i64 i ∧ FrB 0 H H2) l.length ?_ ?_
  · rintro i E H2 hi2 ⟨hc, h5, h6, h7, hf2⟩
    repeat' (first
       | (refine WpL.nil (hK _ _ ?_); clear hK K; try dsimp only [thenQ, blockQ]) | refine Rx.move (hk := ?_) | refine Rx.assign (hk := ?_) | refine Rx.load (hk := ?_) | refine Rx.bin (hk := ?_) | refine Rx.un (hk := ?_) | refine Rx.indexAddr (hk := ?_) | refine Rx.len (hk := ?_) | (refine Rx.cond (h1 := fun hb => ?_) (h2 := fun hb => ?_) <;> (try simp only [Bool.not_true, Bool.not_false, reduceCtorEq] at hb) <;> (try (cases hb; done)) <;> (try have hbp := hb) <;> (try simp only [decide_eq_true_eq, decide_eq_false_iff_not] at hbp)) | refine Wp.seq ?_ | (refine Wp.ops' fun K hK => ?_) | refine Wp.block ?_ | (refine Wp.skip ?_; try dsimp only [thenQ, blockQ]) | (refine Wp.ret ?_; try dsimp only [thenQ, blockQ]) | (refine Wp.exit ?_; try simp only [thenQ, blockQ, reduceIte]))
    · have hlt : i < l.length := by simpa using hb
      have hgx : l[i]? = some l[i] := List.getElem?_eq_getElem hlt
      have hsm := strsSz_mem (List.getElem_mem hlt)
      have hdr : (l.drop i).all nameB = (nameB l[i] && (l.drop (i + 1)).all nameB) := by rw [List.drop_eq_getElem_cons hlt, List.all_cons]
      repeat' (first
         | (refine WpL.nil (hK _ _ ?_); clear hK K; try dsimp only [thenQ, blockQ]) | refine Rx.move (hk := ?_) | refine Rx.assign (hk := ?_) | refine Rx.load (hk := ?_) | refine Rx.bin (hk := ?_) | refine Rx.un (hk := ?_) | refine Rx.indexAddr (hk := ?_) | refine Rx.len (hk := ?_) | (refine Rx.cond (h1 := fun hb => ?_) (h2 := fun hb => ?_) <;> (try simp only [Bool.not_true, Bool.not_false, reduceCtorEq] at hb) <;> (try (cases hb; done)) <;> (try have hbp := hb) <;> (try simp only [decide_eq_true_eq, decide_eq_false_iff_not] at hbp)) | refine Wp.seq ?_ | (refine Wp.ops' fun K hK => ?_) | refine Wp.block ?_ | (refine Wp.skip ?_; try dsimp only [thenQ, blockQ]) | (refine Wp.ret ?_; try dsimp only [thenQ, blockQ]) | (refine Wp.exit ?_; try simp only [thenQ, blockQ, reduceIte]))
      refine WpL.call rfl (by (try simp only [sB, Nat.reduceBEq, *, -hK]); first | done | with_reducible rfl) (by (try simp only [sB, Nat.reduceBEq, aevals, List.cons_append, List.nil_append, *, -hK]); first | done | with_reducible rfl) ?_; simp only [List.cons_append, List.nil_append, List.append_nil]
      refine WpCall.mono ?_ (validName_wp hx hv l[i] (by omega) H2)
      rintro v H3 ⟨rfl, hf3⟩
      dsimp only [setO]
      repeat' (first
         | (refine WpL.nil (hK _ _ ?_); clear hK K; try dsimp only [thenQ, blockQ]) | refine Rx.move (hk := ?_) | refine Rx.assign (hk := ?_) | refine Rx.load (hk := ?_) | refine Rx.bin (hk := ?_) | refine Rx.un (hk := ?_) | refine Rx.indexAddr (hk := ?_) | refine Rx.len (hk := ?_) | (refine Rx.cond (h1 := fun hb => ?_) (h2 := fun hb => ?_) <;> (try simp only [Bool.not_true, Bool.not_false, reduceCtorEq] at hb) <;> (try (cases hb; done)) <;> (try have hbp := hb) <;> (try simp only [decide_eq_true_eq, decide_eq_false_iff_not] at hbp)) | refine Wp.seq ?_ | (refine Wp.ops' fun K hK => ?_) | refine Wp.block ?_ | (refine Wp.skip ?_; try dsimp only [thenQ, blockQ]) | (refine Wp.ret ?_; try dsimp only [thenQ, blockQ]) | (refine Wp.exit ?_; try simp only [thenQ, blockQ, reduceIte]))
      · all_goals (refine ⟨by first | exact .inl rfl | exact .inr rfl | exact .inl trivial | exact .inr trivial, _, (by (try simp only [sB, Nat.reduceBEq, resultsA, resultA, *]); first | done | with_reducible rfl), ?_⟩; try simp only [oneOr])
        exact ⟨by rw [hc, hdr]; simp_all, hf2.trans hf3⟩
      · refine ⟨hlt, by rw [hc, hdr]; simp_all, (by first | (simp only [sB, Nat.reduceBEq, *]; done) | rfl), (by first | (simp only [sB, Nat.reduceBEq, *]; done) | rfl), ?_, hf2.trans hf3⟩
        simp only [at_set, Nat.reduceBEq, cond_true, wrap_succ (show i < 2 ^ 62 by omega)]
    · all_goals (refine ⟨by first | exact .inl rfl | exact .inr rfl | exact .inl trivial | exact .inr trivial, _, (by (try simp only [sB, Nat.reduceBEq, resultsA, resultA, *]); first | done | with_reducible rfl), ?_⟩; try simp only [oneOr])
      have hie : i = l.length := by simp at hb; omega
      exact ⟨by rw [hc, hie]; simp, hf2⟩
  · exact ⟨by simp, (by first | (simp only [sB, Nat.reduceBEq, *]; done) | rfl), (by first | (simp only [sB, Nat.reduceBEq, *]; done) | rfl), (by first | (simp only [sB, Nat.reduceBEq, *]; done) | rfl), FrB.refl _ _⟩
end Go.Proofs.Ytjkmbpieknaekaa
