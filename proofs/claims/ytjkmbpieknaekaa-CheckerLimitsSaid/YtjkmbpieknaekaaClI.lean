/- Parts: W4d, P4f, P4g, W4e. -/
import Derived.Test.YtjkmbpieknaekaaClH
set_option linter.unusedSimpArgs false
set_option linter.unusedVariables false
set_option linter.unusedSectionVars false
set_option linter.defProp false
namespace Go.Proofs.Ytjkmbpieknaekaa
set_option maxRecDepth 20000
set_option linter.unusedSimpArgs false
set_option linter.unusedVariables false
set_option linter.unusedSectionVars false
set_option linter.defProp false
open Go Go.Ab
namespace tyW4d
def tyF := And.intro @sz2 (And.intro @pt2 (And.intro @bt2 (And.intro @zr2 (And.intro @sz3 (And.intro @pt3 (And.intro @bt3 (And.intro @zr3 (And.intro @sz9 (And.intro @pt9 (And.intro @bt9 (And.intro @zr9 (And.intro @ln9 (And.intro @ix9 (And.intro @sz35 (And.intro @pt35 (And.intro @bt35 (And.intro @zr35 (And.intro @ix35l (And.intro @ix35s (And.intro @ln35l (And.intro @ln35s (And.intro @ln35n (And.intro @sz36 (And.intro @pt36 (And.intro @bt36 (And.intro @zr36 (And.intro @ix36l (And.intro @ix36s (And.intro @ln36l (And.intro @ln36s (And.intro @ln36n (And.intro @sz37 (And.intro @pt37 (And.intro @bt37 (And.intro @zr37 (And.intro @ix37l (And.intro @ix37s (And.intro @ln37l (And.intro @ln37s (And.intro @ln37n (And.intro @sz39 (And.intro @pt39 (And.intro @bt39 (And.intro @zr39 (And.intro @fa39_0p (And.intro @fa39_0c (And.intro @fd39_0 (And.intro @fa39_1p (And.intro @fa39_1c (And.intro @fd39_1 (And.intro @fa39_2p (And.intro @fa39_2c (And.intro @fd39_2 (And.intro @fa39_3p (And.intro @fa39_3c (And.intro @fd39_3 (And.intro @fa39_4p (And.intro @fa39_4c (And.intro @fd39_4 (And.intro @sz41 (And.intro @pt41 (And.intro @bt41 (And.intro @zr41 (And.intro @fa41_0p (And.intro @fa41_0c (And.intro @fd41_0 (And.intro @fa41_1p (And.intro @fa41_1c (And.intro @fd41_1 (And.intro @fa41_2p (And.intro @fa41_2c (And.intro @fd41_2 (And.intro @fa41_3p (And.intro @fa41_3c (And.intro @fd41_3 (And.intro @fa41_4p (And.intro @fa41_4c (And.intro @fd41_4 (And.intro @sz46 (And.intro @pt46 (And.intro @bt46 (And.intro @zr46 (And.intro @fa46_0p (And.intro @fa46_0c (And.intro @fd46_0 (And.intro @fa46_1p (And.intro @fa46_1c (And.intro @fd46_1 (And.intro @fa46_2p (And.intro @fa46_2c (And.intro @fd46_2 (And.intro @fa46_3p (And.intro @fa46_3c (And.intro @fd46_3 (And.intro @fa46_4p (And.intro @fa46_4c (And.intro @fd46_4 (And.intro @fa46_5p (And.intro @fa46_5c (And.intro @fd46_5 (And.intro @fa46_6p (And.intro @fa46_6c (And.intro @fd46_6 (And.intro @fa46_7p (And.intro @fa46_7c (And.intro @fd46_7 (And.intro @fa46_8p (And.intro @fa46_8c (And.intro @fd46_8 (And.intro @sz105 (And.intro @pt105 (And.intro @bt105 (@zr105)))))))))))))))))))))))))))))))))))))))))))))))))))))))))))))))))))))))))))))))))))))))))))))))))))))))))))))))))
end tyW4d
open tyW4d
/-- The walkers are not among the known calls. -/
structure Plains (cfg : Cfg) : Prop where
  we : Plain cfg 59
  ws : Plain cfg 53
  wx : Plain cfg 55
  wx1 : Plain cfg 87
theorem walkExprs_wp {cfg : Cfg} (hp : Plains cfg) {base : Nat} {I : Hp → Prop} (hI : OfLow base I) {g : FuncId} {cap : List AV} {q : Ex → Int → Bool} (hq : VisitE cfg base I g cap q) (x : Fu) (H : Hp) (hz : x.sz < 2 ^ 60) (hbase : base ≤ H.next) (hi : I H) :
    WpCall Try.prog cfg 55 [.agg x.cells, .clo g cap] H fun v H' => v = .bool (walkFn q x) ∧ FrB base H H' ∧ I H' := by
  have hw := hp.wx
  have hsz : x.sz = 1 + x.name.length + strsSz x.params + strsSz x.locals + stmtsSz x.body + x.value.sz := rfl
  refine WpCall.slim (M := 15) (rs := [.tmp 4]) (hw.call _) hw.ice hw.froz Try.func55 rfl rfl code55.2 rfl ?_; dsimp only [code55, envOf, Nat.reduceAdd]
  repeat' (first
     | (refine WpL.nil (hK _ _ ?_); clear hK K; try dsimp only [thenQ, blockQ]) | refine Rx.move (hk := ?_) | refine Rx.assign (hk := ?_) | refine Rx.load (hk := ?_) | refine Rx.fieldAddr (hk := ?_) | refine Rx.pick (hk := ?_) | refine Rx.box (hk := ?_) | refine Rx.makeFunc (hk := ?_) | (refine Rx.guardU (hk := ?_); dsimp only [setO]) | (refine Rx.guard (h1 := fun hg => ?_) (h2 := fun hg => ?_) <;> (try simp only [Bool.not_true, Bool.not_false, reduceCtorEq] at hg) <;> (try (cases hg; done)) <;> (try have hgp := hg) <;> (try simp only [decide_eq_true_eq, decide_eq_false_iff_not] at hgp) <;> (try dsimp only [setO])) | (refine Rx.cond (h1 := fun hb => ?_) (h2 := fun hb => ?_) <;> (try simp only [Bool.not_true, Bool.not_false, reduceCtorEq] at hb) <;> (try (cases hb; done)) <;> (try have hbp := hb) <;> (try simp only [decide_eq_true_eq, decide_eq_false_iff_not] at hbp)) | refine Wp.seq ?_ | (refine Wp.ops' fun K hK => ?_) | refine Wp.block ?_ | (refine Wp.skip ?_; try dsimp only [thenQ, blockQ]) | (refine Wp.ret ?_; try dsimp only [thenQ, blockQ]) | (refine Wp.exit ?_; try simp only [thenQ, blockQ, reduceIte]))
  generalize hH1 : (H.alloc (.cells x.cells 0 true)).alloc (.cells [.clo g cap] 0 true) = H1
  have hf1 : FrB base H H1 := by rw [← hH1]; exact ((FrB.refl _ _).alloc _).alloc _
  have hl1 : Low base H H1 := by rw [← hH1]; exact ((Low.refl _ _).alloc hbase _).alloc (by simp only [Hp.next_alloc]; omega) _
  have hn1 : H1.next = H.next + 2 := by rw [← hH1]; rfl
  have hga : H1.get H.next = some (.cells x.cells 0 true) := by rw [← hH1, Hp.get_alloc, if_neg (by simp [Hp.next_alloc]), Hp.get_alloc, if_pos rfl]
  have hgb : H1.get (H.next + 1) = some (.cells [.clo g cap] 0 true) := by rw [← hH1, Hp.get_alloc, if_pos (by simp [Hp.next_alloc])]
  refine WpL.call rfl (by (try simp only [sB, Nat.reduceBEq, *, -hK]); first | done | with_reducible rfl) (by (try simp only [sB, Nat.reduceBEq, aevals, List.cons_append, List.nil_append, *, -hK]); first | done | with_reducible rfl) ?_; simp only [List.cons_append, List.nil_append, List.append_nil]
  refine WpCall.mono ?_ (walkExpr_wp hp.we hI hq (x.value.sz + 1) x.value (by omega) 0 H1 (by omega) (by omega) (hI _ _ hi hl1))
  rintro v H2 ⟨rfl, hf2, hi2⟩
  have hn2 := hf2.next
  have hga2 : H2.get H.next = some (.cells x.cells 0 true) := by rw [hf2.get _ hbase (by omega)]; exact hga
  have hgb2 : H2.get (H.next + 1) = some (.cells [.clo g cap] 0 true) := by rw [hf2.get _ (by omega) (by omega)]; exact hgb
  dsimp only [setO]
  repeat' (first
     | (refine WpL.nil (hK _ _ ?_); clear hK K; try dsimp only [thenQ, blockQ]) | refine Rx.move (hk := ?_) | refine Rx.assign (hk := ?_) | refine Rx.load (hk := ?_) | refine Rx.fieldAddr (hk := ?_) | refine Rx.pick (hk := ?_) | refine Rx.box (hk := ?_) | refine Rx.makeFunc (hk := ?_) | (refine Rx.guardU (hk := ?_); dsimp only [setO]) | (refine Rx.guard (h1 := fun hg => ?_) (h2 := fun hg => ?_) <;> (try simp only [Bool.not_true, Bool.not_false, reduceCtorEq] at hg) <;> (try (cases hg; done)) <;> (try have hgp := hg) <;> (try simp only [decide_eq_true_eq, decide_eq_false_iff_not] at hgp) <;> (try dsimp only [setO])) | (refine Rx.cond (h1 := fun hb => ?_) (h2 := fun hb => ?_) <;> (try simp only [Bool.not_true, Bool.not_false, reduceCtorEq] at hb) <;> (try (cases hb; done)) <;> (try have hbp := hb) <;> (try simp only [decide_eq_true_eq, decide_eq_false_iff_not] at hbp)) | refine Wp.seq ?_ | (refine Wp.ops' fun K hK => ?_) | refine Wp.block ?_ | (refine Wp.skip ?_; try dsimp only [thenQ, blockQ]) | (refine Wp.ret ?_; try dsimp only [thenQ, blockQ]) | (refine Wp.exit ?_; try simp only [thenQ, blockQ, reduceIte]))
  · refine WpL.call rfl (by (try simp only [sB, Nat.reduceBEq, *, -hK]); first | done | with_reducible rfl) (by (try simp only [sB, Nat.reduceBEq, aevals, List.cons_append, List.nil_append, *, -hK]); first | done | with_reducible rfl) ?_; simp only [List.cons_append, List.nil_append, List.append_nil]
    refine WpCall.mono ?_ (walkStmts_wp hp.ws (base := H.next + 2) (I := fun (_ : Unit) H' => I H' ∧ H'.get (H.next + 1) = some (.cells [.clo g cap] 0 true) ∧ ∀ r, base ≤ r → r < H.next + 2 → H'.get r = H2.get r) ?_ (inSt_wp hp.wx1 hp.we (by omega) hI hq (by omega) (by omega) H2) (stmtsSz x.body + 1) x.body (by omega) 0 () H2 (by omega) (by omega) ⟨hi2, hgb2, fun _ _ _ => rfl⟩)
    · rintro v H3 ⟨rfl, hf3, hi3, hg3, hold⟩
      have hF3 : FrB base H2 H3 := ⟨hf3.next, fun r h1 h2 => by
        by_cases hr : r < H.next + 2
        · exact hold r h1 hr
        · exact hf3.get r (by omega) h2⟩
      dsimp only [setO]
      repeat' (first
         | (refine WpL.nil (hK _ _ ?_); clear hK K; try dsimp only [thenQ, blockQ]) | refine Rx.move (hk := ?_) | refine Rx.assign (hk := ?_) | refine Rx.load (hk := ?_) | refine Rx.fieldAddr (hk := ?_) | refine Rx.pick (hk := ?_) | refine Rx.box (hk := ?_) | refine Rx.makeFunc (hk := ?_) | (refine Rx.guardU (hk := ?_); dsimp only [setO]) | (refine Rx.guard (h1 := fun hg => ?_) (h2 := fun hg => ?_) <;> (try simp only [Bool.not_true, Bool.not_false, reduceCtorEq] at hg) <;> (try (cases hg; done)) <;> (try have hgp := hg) <;> (try simp only [decide_eq_true_eq, decide_eq_false_iff_not] at hgp) <;> (try dsimp only [setO])) | (refine Rx.cond (h1 := fun hb => ?_) (h2 := fun hb => ?_) <;> (try simp only [Bool.not_true, Bool.not_false, reduceCtorEq] at hb) <;> (try (cases hb; done)) <;> (try have hbp := hb) <;> (try simp only [decide_eq_true_eq, decide_eq_false_iff_not] at hbp)) | refine Wp.seq ?_ | (refine Wp.ops' fun K hK => ?_) | refine Wp.block ?_ | (refine Wp.skip ?_; try dsimp only [thenQ, blockQ]) | (refine Wp.ret ?_; try dsimp only [thenQ, blockQ]) | (refine Wp.exit ?_; try simp only [thenQ, blockQ, reduceIte]))
      all_goals (refine ⟨by first | exact .inl rfl | exact .inr rfl | exact .inl trivial | exact .inr trivial, _, (by (try simp only [sB, Nat.reduceBEq, resultsA, resultA, *]); first | done | with_reducible rfl), ?_⟩; try simp only [oneOr])
      exact ⟨by simp_all [walkFn], (hf1.trans hf2).trans hF3, hi3⟩
    · intro _ Ha Hb ⟨h1, h2, h3⟩ hlow
      exact ⟨hI _ _ h1 (hlow.weak (by omega)), by rw [hlow _ (by omega)]; exact h2, fun r q1 q2 => by rw [hlow _ q2]; exact h3 r q1 q2⟩
  · all_goals (refine ⟨by first | exact .inl rfl | exact .inr rfl | exact .inl trivial | exact .inr trivial, _, (by (try simp only [sB, Nat.reduceBEq, resultsA, resultA, *]); first | done | with_reducible rfl), ?_⟩; try simp only [oneOr])
    exact ⟨by simp_all [walkFn], hf1.trans hf2, hi2⟩
end Go.Proofs.Ytjkmbpieknaekaa
namespace Go.Proofs.Ytjkmbpieknaekaa
set_option maxRecDepth 20000
set_option linter.unusedSimpArgs false
set_option linter.unusedVariables false
set_option linter.unusedSectionVars false
set_option linter.defProp false
open Go Go.Ab
namespace tyP4f
def tyF := And.intro @sz3 (And.intro @pt3 (And.intro @bt3 (And.intro @zr3 (And.intro @sz9 (And.intro @pt9 (And.intro @bt9 (And.intro @zr9 (And.intro @ln9 (And.intro @ix9 (And.intro @sz35 (And.intro @pt35 (And.intro @bt35 (And.intro @zr35 (And.intro @ix35l (And.intro @ix35s (And.intro @ln35l (And.intro @ln35s (And.intro @ln35n (And.intro @sz112 (And.intro @pt112 (And.intro @bt112 (And.intro @zr112 (And.intro @sz142 (And.intro @pt142 (And.intro @bt142 (And.intro @zr142 (And.intro @ix142l (And.intro @ix142s (And.intro @ln142l (And.intro @ln142s (And.intro @ln142n (And.intro @sz2 (And.intro @pt2 (And.intro @bt2 (And.intro @zr2 (And.intro @sz37 (And.intro @pt37 (And.intro @bt37 (And.intro @zr37 (And.intro @ix37l (And.intro @ix37s (And.intro @ln37l (And.intro @ln37s (And.intro @ln37n (And.intro @sz39 (And.intro @pt39 (And.intro @bt39 (And.intro @zr39 (And.intro @fa39_0p (And.intro @fa39_0c (And.intro @fd39_0 (And.intro @fa39_1p (And.intro @fa39_1c (And.intro @fd39_1 (And.intro @fa39_2p (And.intro @fa39_2c (And.intro @fd39_2 (And.intro @fa39_3p (And.intro @fa39_3c (And.intro @fd39_3 (And.intro @fa39_4p (And.intro @fa39_4c (And.intro @fd39_4 (And.intro @sz30 (And.intro @pt30 (And.intro @bt30 (And.intro @zr30 (And.intro @sz36 (And.intro @pt36 (And.intro @bt36 (And.intro @zr36 (And.intro @ix36l (And.intro @ix36s (And.intro @ln36l (And.intro @ln36s (And.intro @ln36n (And.intro @sz46 (And.intro @pt46 (And.intro @bt46 (And.intro @zr46 (And.intro @fa46_0p (And.intro @fa46_0c (And.intro @fd46_0 (And.intro @fa46_1p (And.intro @fa46_1c (And.intro @fd46_1 (And.intro @fa46_2p (And.intro @fa46_2c (And.intro @fd46_2 (And.intro @fa46_3p (And.intro @fa46_3c (And.intro @fd46_3 (And.intro @fa46_4p (And.intro @fa46_4c (And.intro @fd46_4 (And.intro @fa46_5p (And.intro @fa46_5c (And.intro @fd46_5 (And.intro @fa46_6p (And.intro @fa46_6c (And.intro @fd46_6 (And.intro @fa46_7p (And.intro @fa46_7c (And.intro @fd46_7 (And.intro @fa46_8p (And.intro @fa46_8c (And.intro @fd46_8 (And.intro @sz84 (And.intro @pt84 (And.intro @bt84 (@zr84)))))))))))))))))))))))))))))))))))))))))))))))))))))))))))))))))))))))))))))))))))))))))))))))))))))))))))))))
end tyP4f
open tyP4f
noncomputable def code64 : { c : SC // slim 26 (Try.f64.body.getD .skip) = c } := by
  refine ⟨?_, ?_⟩
  rotate_left
  · simp only [Try.f64, Option.getD_some, slim, slimR, slimL, slimD, slimG, Nat.blt, Nat.ble]
    rfl
noncomputable def code65 : { c : SC // slim 27 (Try.f65.body.getD .skip) = c } := by
  refine ⟨?_, ?_⟩
  rotate_left
  · simp only [Try.f65, Option.getD_some, slim, slimR, slimL, slimD, slimG, Nat.blt, Nat.ble]
    rfl
noncomputable def code66 : { c : SC // slim 49 (Try.f66.body.getD .skip) = c } := by
  refine ⟨?_, ?_⟩
  rotate_left
  · simp only [Try.f66, Option.getD_some, slim, slimR, slimL, slimD, slimG, Nat.blt, Nat.ble]
    rfl
theorem hasS_addS (l : List (List UInt8)) (a s : List UInt8) : hasS (addS l a) s = (hasS l s || hasS [a] s) := by
  unfold addS
  split
  · rename_i h
    rw [hasS_one]
    by_cases e : s = a
    · rw [e, h]; rfl
    · rw [decide_eq_false e, Bool.or_false]
  · rw [hasS_append]
set_option maxHeartbeats 8000000 in
theorem set_wp {cfg : Cfg} (hw : Plain cfg 64) {H : Hp} {r imm : Nat} {x : List (List (List UInt8))} (hg : H.get r = some (.cells (x.map lstS) imm true)) (hr : r < H.next) (hx : rwOk x) :
    WpCall Try.prog cfg 64 [.sl r 0 x.length 1] H fun v H' => v = .map H.next ∧ (∃ l, H'.get H.next = some (.map (bEs l)) ∧ ∀ s, hasS l s = hasS x.flatten s) ∧ (∀ k, k < H.next → H'.get k = H.get k) ∧ H.next < H'.next := by
  obtain ⟨hx1, hx2⟩ := hx
  have hnm := aeval_nm
  refine WpCall.slim (M := 26) (rs := [.tmp 2]) (hw.call _) hw.ice hw.froz Try.func64 rfl rfl code64.2 rfl ?_; dsimp only [code64, envOf, Nat.reduceAdd]
  repeat' (first
     | (refine WpL.nil (hK _ _ ?_); clear hK K; try dsimp only [thenQ, blockQ]) | refine Rx.move (hk := ?_) | refine Rx.assign (hk := ?_) | refine Rx.load (hk := ?_) | refine Rx.bin (hk := ?_) | refine Rx.indexAddr (hk := ?_) | refine Rx.len (hk := ?_) | refine Rx.makeMap (hk := ?_) | refine Rx.mapUpdate (hk := ?_) | (refine Rx.cond (h1 := fun hb => ?_) (h2 := fun hb => ?_) <;> (try simp only [Bool.not_true, Bool.not_false, reduceCtorEq] at hb) <;> (try (cases hb; done)) <;> (try have hbp := hb) <;> (try simp only [decide_eq_true_eq, decide_eq_false_iff_not] at hbp)) | refine Wp.seq ?_ | (refine Wp.ops' fun K hK => ?_) | refine Wp.block ?_ | (refine Wp.skip ?_; try dsimp only [thenQ, blockQ]) | (refine Wp.ret ?_; try dsimp only [thenQ, blockQ]) | (refine Wp.exit ?_; try simp only [thenQ, blockQ, reduceIte]))
  refine Wp.forI [2, 3, 9, 10] [] 11 x.length (fun i E H2 => (∃ l, H2.get H.next = some (.map (bEs l)) ∧ ∀ s, hasS l s = hasS (x.take i).flatten s) ∧ ∀ k, k < H.next → H2.get k = H.get k) (by first | (simp only [sB, Nat.reduceBEq, *]; done) | rfl) ⟨⟨[], by rw [Hp.get_alloc, if_pos (by rfl)]; rfl, fun s => rfl⟩, fun k hk => by rw [Hp.get_alloc, if_neg (by omega)]⟩ ?_
  rintro i E H2 hi hcE hrH hnH hsI ⟨⟨l, hm, hl⟩, hold⟩
  (try simp only [forall_cons, forall_nil, and_true, sB, sO, Nat.reduceBEq, Nat.reduceAdd, Nat.reduceLeDiff, tyF, *] at hcE)
  (try simp only [forall_cons, forall_nil, and_true, sB, sO, Nat.reduceBEq, Nat.reduceAdd, Nat.reduceLeDiff, tyF, *] at hrH)
  (try simp only [Hp.next_alloc, Hp.next_set, H0_next, Nat.zero_add, Nat.reduceAdd] at hnH)
  repeat' (first
     | (refine WpL.nil (hK _ _ ?_); clear hK K; try dsimp only [thenQ, blockQ]) | refine Rx.move (hk := ?_) | refine Rx.assign (hk := ?_) | refine Rx.load (hk := ?_) | refine Rx.bin (hk := ?_) | refine Rx.indexAddr (hk := ?_) | refine Rx.len (hk := ?_) | refine Rx.makeMap (hk := ?_) | refine Rx.mapUpdate (hk := ?_) | (refine Rx.cond (h1 := fun hb => ?_) (h2 := fun hb => ?_) <;> (try simp only [Bool.not_true, Bool.not_false, reduceCtorEq] at hb) <;> (try (cases hb; done)) <;> (try have hbp := hb) <;> (try simp only [decide_eq_true_eq, decide_eq_false_iff_not] at hbp)) | refine Wp.seq ?_ | (refine Wp.ops' fun K hK => ?_) | refine Wp.block ?_ | (refine Wp.skip ?_; try dsimp only [thenQ, blockQ]) | (refine Wp.ret ?_; try dsimp only [thenQ, blockQ]) | (refine Wp.exit ?_; try simp only [thenQ, blockQ, reduceIte]))
  · have hlt : i < x.length := by simpa using hb
    have hgx : x[i]? = some x[i] := List.getElem?_eq_getElem hlt
    have hsm := hx2 _ (List.getElem_mem hlt)
    have hg2 : H2.get r = some (.cells (x.map lstS) imm true) := by rw [hold r hr]; exact hg
    have htk : (x.take (i + 1)).flatten = (x.take i).flatten ++ x[i] := by rw [List.take_add_one, hgx, List.flatten_append]; simp
    generalize x[i] = row at *
    repeat' (first
       | (refine WpL.nil (hK _ _ ?_); clear hK K; try dsimp only [thenQ, blockQ]) | refine Ry.move (hk := ?_) | refine Ry.assign (hk := ?_) | refine Ry.load (hk := ?_) | refine Ry.bin (hk := ?_) | refine Ry.indexAddr (hk := ?_) | refine Ry.len (hk := ?_) | refine Ry.makeMap (hk := ?_) | refine Ry.mapUpdate (hk := ?_) | (refine Ry.cond (h1 := fun hb => ?_) (h2 := fun hb => ?_) <;> (try simp only [Bool.not_true, Bool.not_false, reduceCtorEq] at hb) <;> (try (cases hb; done)) <;> (try have hbp := hb) <;> (try simp only [decide_eq_true_eq, decide_eq_false_iff_not] at hbp)) | refine Wp.seq ?_ | (refine Wp.ops' fun K hK => ?_) | refine Wp.block ?_ | (refine Wp.skip ?_; try dsimp only [thenQ, blockQ]) | (refine Wp.ret ?_; try dsimp only [thenQ, blockQ]) | (refine Wp.exit ?_; try simp only [thenQ, blockQ, reduceIte]))
    refine Wp.forI [2, 3, 9, 10, 11, 15, 16] [] 17 row.length (fun j E H3 => (∃ l, H3.get H.next = some (.map (bEs l)) ∧ ∀ s, hasS l s = hasS ((x.take i).flatten ++ row.take j) s) ∧ ∀ k, k < H.next → H3.get k = H.get k) (by first | (simp only [sB, Nat.reduceBEq, *]; done) | rfl) ⟨⟨l, hm, fun s => by rw [hl, List.take_zero, List.append_nil]⟩, hold⟩ ?_
    clear hm hl l hold hg2
    rintro j E3 H3 hj hcE hrH hnH hsI ⟨⟨l, hm, hl⟩, hold⟩
    (try simp only [forall_cons, forall_nil, and_true, sB, sO, Nat.reduceBEq, Nat.reduceAdd, Nat.reduceLeDiff, tyF, *] at hcE)
    (try simp only [forall_cons, forall_nil, and_true, sB, sO, Nat.reduceBEq, Nat.reduceAdd, Nat.reduceLeDiff, tyF, *] at hrH)
    (try simp only [Hp.next_alloc, Hp.next_set, H0_next, Nat.zero_add, Nat.reduceAdd] at hnH)
    repeat' (first
       | (refine WpL.nil (hK _ _ ?_); clear hK K; try dsimp only [thenQ, blockQ]) | refine Rx.move (hk := ?_) | refine Rx.assign (hk := ?_) | refine Rx.load (hk := ?_) | refine Rx.bin (hk := ?_) | refine Rx.indexAddr (hk := ?_) | refine Rx.len (hk := ?_) | refine Rx.makeMap (hk := ?_) | refine Rx.mapUpdate (hk := ?_) | (refine Rx.cond (h1 := fun hb => ?_) (h2 := fun hb => ?_) <;> (try simp only [Bool.not_true, Bool.not_false, reduceCtorEq] at hb) <;> (try (cases hb; done)) <;> (try have hbp := hb) <;> (try simp only [decide_eq_true_eq, decide_eq_false_iff_not] at hbp)) | refine Wp.seq ?_ | (refine Wp.ops' fun K hK => ?_) | refine Wp.block ?_ | (refine Wp.skip ?_; try dsimp only [thenQ, blockQ]) | (refine Wp.ret ?_; try dsimp only [thenQ, blockQ]) | (refine Wp.exit ?_; try simp only [thenQ, blockQ, reduceIte]))
    · have hlt2 : j < row.length := by simpa using hb
      have hgx2 : row[j]? = some row[j] := List.getElem?_eq_getElem hlt2
      have hup := upd_bEs hm row[j]
      have htk2 : row.take (j + 1) = row.take j ++ [row[j]] := by rw [List.take_add_one, hgx2]; rfl
      repeat' (first
         | (refine WpL.nil (hK _ _ ?_); clear hK K; try dsimp only [thenQ, blockQ]) | refine Rx.move (hk := ?_) | refine Rx.assign (hk := ?_) | refine Rx.load (hk := ?_) | refine Rx.bin (hk := ?_) | refine Rx.indexAddr (hk := ?_) | refine Rx.len (hk := ?_) | refine Rx.makeMap (hk := ?_) | refine Rx.mapUpdate (hk := ?_) | (refine Rx.cond (h1 := fun hb => ?_) (h2 := fun hb => ?_) <;> (try simp only [Bool.not_true, Bool.not_false, reduceCtorEq] at hb) <;> (try (cases hb; done)) <;> (try have hbp := hb) <;> (try simp only [decide_eq_true_eq, decide_eq_false_iff_not] at hbp)) | refine Wp.seq ?_ | (refine Wp.ops' fun K hK => ?_) | refine Wp.block ?_ | (refine Wp.skip ?_; try dsimp only [thenQ, blockQ]) | (refine Wp.ret ?_; try dsimp only [thenQ, blockQ]) | (refine Wp.exit ?_; try simp only [thenQ, blockQ, reduceIte]))
      refine ⟨by omega, (by simp only [forall_cons, forall_nil, and_true, sB, sO, Nat.reduceBEq, Nat.reduceAdd, Nat.reduceLeDiff, tyF, *]), (by simp only [forall_cons, forall_nil, and_true, sB, sO, Nat.reduceBEq, Nat.reduceAdd, Nat.reduceLeDiff, tyF, *]), by (try simp only [Hp.next_alloc, Hp.next_set, H0_next, Nat.zero_add, Nat.reduceAdd]); omega, (by simp only [sB, Nat.reduceBEq, *]; exact i64_succ (n := row.length) (by omega) (by omega)), ?_⟩
      refine ⟨⟨addS l row[j], by rw [Hp.get_set, if_pos (by rfl)], fun s => ?_⟩, fun k hk => by rw [Hp.get_set, if_neg (by omega)]; exact hold k hk⟩
      rw [hasS_addS, hl, htk2, ← List.append_assoc, hasS_append ((x.take i).flatten ++ row.take j)]
    · have hje : j = row.length := by simp at hb; omega
      repeat' (first
         | (refine WpL.nil (hK _ _ ?_); clear hK K; try dsimp only [thenQ, blockQ]) | refine Rx.move (hk := ?_) | refine Rx.assign (hk := ?_) | refine Rx.load (hk := ?_) | refine Rx.bin (hk := ?_) | refine Rx.indexAddr (hk := ?_) | refine Rx.len (hk := ?_) | refine Rx.makeMap (hk := ?_) | refine Rx.mapUpdate (hk := ?_) | (refine Rx.cond (h1 := fun hb => ?_) (h2 := fun hb => ?_) <;> (try simp only [Bool.not_true, Bool.not_false, reduceCtorEq] at hb) <;> (try (cases hb; done)) <;> (try have hbp := hb) <;> (try simp only [decide_eq_true_eq, decide_eq_false_iff_not] at hbp)) | refine Wp.seq ?_ | (refine Wp.ops' fun K hK => ?_) | refine Wp.block ?_ | (refine Wp.skip ?_; try dsimp only [thenQ, blockQ]) | (refine Wp.ret ?_; try dsimp only [thenQ, blockQ]) | (refine Wp.exit ?_; try simp only [thenQ, blockQ, reduceIte]))
      refine ⟨by omega, (by simp only [forall_cons, forall_nil, and_true, sB, sO, Nat.reduceBEq, Nat.reduceAdd, Nat.reduceLeDiff, tyF, *]), (by simp only [forall_cons, forall_nil, and_true, sB, sO, Nat.reduceBEq, Nat.reduceAdd, Nat.reduceLeDiff, tyF, *]), by (try simp only [Hp.next_alloc, Hp.next_set, H0_next, Nat.zero_add, Nat.reduceAdd]); omega, (by simp only [sB, Nat.reduceBEq, *]; exact i64_succ (n := x.length) (by omega) (by omega)), ?_⟩
      exact ⟨⟨l, hm, fun s => by rw [hl, htk, hje, List.take_length]⟩, hold⟩
  · repeat' (first
       | (refine WpL.nil (hK _ _ ?_); clear hK K; try dsimp only [thenQ, blockQ]) | refine Rx.move (hk := ?_) | refine Rx.assign (hk := ?_) | refine Rx.load (hk := ?_) | refine Rx.bin (hk := ?_) | refine Rx.indexAddr (hk := ?_) | refine Rx.len (hk := ?_) | refine Rx.makeMap (hk := ?_) | refine Rx.mapUpdate (hk := ?_) | (refine Rx.cond (h1 := fun hb => ?_) (h2 := fun hb => ?_) <;> (try simp only [Bool.not_true, Bool.not_false, reduceCtorEq] at hb) <;> (try (cases hb; done)) <;> (try have hbp := hb) <;> (try simp only [decide_eq_true_eq, decide_eq_false_iff_not] at hbp)) | refine Wp.seq ?_ | (refine Wp.ops' fun K hK => ?_) | refine Wp.block ?_ | (refine Wp.skip ?_; try dsimp only [thenQ, blockQ]) | (refine Wp.ret ?_; try dsimp only [thenQ, blockQ]) | (refine Wp.exit ?_; try simp only [thenQ, blockQ, reduceIte]))
    all_goals (refine ⟨by first | exact .inl rfl | exact .inr rfl | exact .inl trivial | exact .inr trivial, _, (by (try simp only [sB, Nat.reduceBEq, resultsA, resultA, *]); first | done | with_reducible rfl), ?_⟩; try simp only [oneOr])
    have hie : i = x.length := by simp at hb; omega
    refine ⟨trivial, ⟨l, hm, fun s => by rw [hl, hie, List.take_length]⟩, hold, by omega⟩
/-- Where 'resolve' keeps its sets. -/
structure Rs where
  r12 : Nat
  mv : Nat
  r5 : Nat
  ma : Nat
  r6 : Nat
  mf : Nat
  r9 : Nat
structure RsOk (X : Rs) (vs an : List (List UInt8)) (fm : List (Nm × Int)) (H : Hp) : Prop where
  b12 : H.get X.r12 = some (.cells [.map X.mv] 0 true)
  bv : ∃ l, H.get X.mv = some (.map (bEs l)) ∧ ∀ s, hasS l s = hasS vs s
  b5 : H.get X.r5 = some (.cells [.map X.ma] 0 true)
  ba : ∃ l, H.get X.ma = some (.map (bEs l)) ∧ ∀ s, hasS l s = hasS an s
  b6 : H.get X.r6 = some (.cells [.map X.mf] 0 true)
  bf : H.get X.mf = some (.map (vEs fm))
structure RsLt (X : Rs) (n : Nat) : Prop where
  l12 : X.r12 < n
  lv : X.mv < n
  l5 : X.r5 < n
  la : X.ma < n
  l6 : X.r6 < n
  lf : X.mf < n
structure RsNe (X : Rs) : Prop where
  l12 : X.r12 ≠ X.r9
  lv : X.mv ≠ X.r9
  l5 : X.r5 ≠ X.r9
  la : X.ma ≠ X.r9
  l6 : X.r6 ≠ X.r9
  lf : X.mf ≠ X.r9
theorem RsOk.keep {X : Rs} {vs an : List (List UInt8)} {fm : List (Nm × Int)} {H H' : Hp} (h : RsOk X vs an fm H) (h12 : H'.get X.r12 = H.get X.r12) (hv : H'.get X.mv = H.get X.mv) (h5 : H'.get X.r5 = H.get X.r5) (ha : H'.get X.ma = H.get X.ma) (h6 : H'.get X.r6 = H.get X.r6) (hf : H'.get X.mf = H.get X.mf) : RsOk X vs an fm H' where
  b12 := by rw [h12]; exact h.b12
  bv := by rw [hv]; exact h.bv
  b5 := by rw [h5]; exact h.b5
  ba := by rw [ha]; exact h.ba
  b6 := by rw [h6]; exact h.b6
  bf := by rw [hf]; exact h.bf
theorem RsOk.low {X : Rs} {vs an : List (List UInt8)} {fm : List (Nm × Int)} {H H' : Hp} {n : Nat} (h : RsOk X vs an fm H) (hl : RsLt X n) (k : Low n H H') : RsOk X vs an fm H' :=
  h.keep (k _ hl.l12) (k _ hl.lv) (k _ hl.l5) (k _ hl.la) (k _ hl.l6) (k _ hl.lf)
set_option maxHeartbeats 8000000 in
theorem res1_wp {cfg : Cfg} (hw : Plain cfg 65) {X : Rs} {vs an : List (List UInt8)} {fm : List (Nm × Int)} {base : Nat} (hl : RsLt X base) {I : Hp → Prop} (hI : OfLow base I) (hR : ∀ H, I H → RsOk X vs an fm H) :
    VisitE cfg base I 65 [.ptr X.r12 0, .ptr X.r5 0] fun x _ => defX vs an x := by
  intro x d H hz hbase hi
  obtain ⟨h12, ⟨lv, hv1, hv2⟩, h5, ⟨la, ha1, ha2⟩, h6, hf⟩ := hR H hi
  have l12 := hl.l12
  have llv := hl.lv
  have l5 := hl.l5
  have lla := hl.la
  have g12 : (H.alloc (.cells x.cells 0 true)).get X.r12 = some (.cells [.map X.mv] 0 true) := by rw [Hp.get_alloc, if_neg (by omega)]; exact h12
  have g5 : (H.alloc (.cells x.cells 0 true)).get X.r5 = some (.cells [.map X.ma] 0 true) := by rw [Hp.get_alloc, if_neg (by omega)]; exact h5
  have gv : (H.alloc (.cells x.cells 0 true)).get X.mv = some (.map (bEs lv)) := by rw [Hp.get_alloc, if_neg (by omega)]; exact hv1
  have ga : (H.alloc (.cells x.cells 0 true)).get X.ma = some (.map (bEs la)) := by rw [Hp.get_alloc, if_neg (by omega)]; exact ha1
  have kv := look_bEs gv x.name
  have ka := look_bEs ga x.name
  rw [hv2] at kv
  rw [ha2] at ka
  clear h12 h5 hv1 ha1 gv ga hv2 ha2 hf h6
  have e12 : (X.r12 == H.next) = false := ne_beq (by omega)
  have e5 : (X.r5 == H.next) = false := ne_beq (by omega)
  simp only [List.append_nil, List.cons_append, List.nil_append]
  refine WpCall.slim (M := 27) (rs := [.tmp 6]) (hw.call _) hw.ice hw.froz Try.func65 rfl rfl code65.2 rfl ?_; dsimp only [code65, envOf, Nat.reduceAdd]
  repeat' (first
     | (refine WpL.nil (hK _ _ ?_); clear hK K; try dsimp only [thenQ, blockQ]) | refine Rx.move (hk := ?_) | refine Rx.assign (hk := ?_) | refine Rx.load (hk := ?_) | refine Rx.bin (hk := ?_) | refine Rx.fieldAddr (hk := ?_) | refine Rx.pick (hk := ?_) | refine Rx.box (hk := ?_) | refine Rx.lookup (hk := ?_) | (refine Rx.guardU (hk := ?_); dsimp only [setO]) | (refine Rx.guard (h1 := fun hg => ?_) (h2 := fun hg => ?_) <;> (try simp only [Bool.not_true, Bool.not_false, reduceCtorEq] at hg) <;> (try (cases hg; done)) <;> (try have hgp := hg) <;> (try simp only [decide_eq_true_eq, decide_eq_false_iff_not] at hgp) <;> (try dsimp only [setO])) | (refine Rx.cond (h1 := fun hb => ?_) (h2 := fun hb => ?_) <;> (try simp only [Bool.not_true, Bool.not_false, reduceCtorEq] at hb) <;> (try (cases hb; done)) <;> (try have hbp := hb) <;> (try simp only [decide_eq_true_eq, decide_eq_false_iff_not] at hbp)) | refine Wp.seq ?_ | (refine Wp.ops' fun K hK => ?_) | refine Wp.block ?_ | (refine Wp.skip ?_; try dsimp only [thenQ, blockQ]) | (refine Wp.ret ?_; try dsimp only [thenQ, blockQ]) | (refine Wp.exit ?_; try simp only [thenQ, blockQ, reduceIte]))
  all_goals
    all_goals (refine ⟨by first | exact .inl rfl | exact .inr rfl | exact .inl trivial | exact .inr trivial, _, (by (try simp only [sB, Nat.reduceBEq, resultsA, resultA, *]); first | done | with_reducible rfl), ?_⟩; try simp only [oneOr])
    refine ⟨?_, (FrB.refl _ _).alloc _, hI _ _ hi ((Low.refl _ _).alloc hbase _)⟩
    rw [defX]
    (try simp only [Bool.not_eq_true', Bool.not_eq_false'] at *); simp only [*, decide_true, decide_false, Bool.false_or, Bool.or_false, Bool.true_or, Bool.or_true, Bool.false_and, Bool.and_false, Bool.true_and, Bool.and_true, Bool.not_true, Bool.not_false, if_true, if_false, Int.reduceEq]
theorem keyS4 : keyKind Try.prog 9 = some .string := by kernel_rfl
def wI (w : Bool) : Int := if w = true then 5 else 0
set_option maxHeartbeats 8000000 in
theorem res2_wp {cfg : Cfg} (hw : Plain cfg 66) {X : Rs} {vs an : List (List UInt8)} {fm : List (Nm × Int)} {base : Nat} (hl : RsLt X base) (h9 : X.r9 < base) (hne : RsNe X) :
    VisitS cfg base (fun (w : Bool) H => RsOk X vs an fm H ∧ H.get X.r9 = some (.cells [.int .i64 (wI w)] 0 true)) 66 [.ptr X.r12 0, .ptr X.r5 0, .ptr X.r6 0, .ptr X.r9 0] (rsS fm vs an) := by
  intro x d w H hz hbase hi
  obtain ⟨hok, hw9⟩ := hi
  have hok' := hok
  obtain ⟨h12, ⟨lv, hv1, hv2⟩, h5, ⟨la, ha1, ha2⟩, h6, hf⟩ := hok
  have l12 := hl.l12
  have llv := hl.lv
  have l5 := hl.l5
  have lla := hl.la
  have l6 := hl.l6
  have llf := hl.lf
  have hlow : Low base H (H.alloc (.cells x.cells 0 true)) := (Low.refl _ _).alloc hbase _
  have g12 : (H.alloc (.cells x.cells 0 true)).get X.r12 = some (.cells [.map X.mv] 0 true) := by rw [hlow _ l12]; exact h12
  have g5 : (H.alloc (.cells x.cells 0 true)).get X.r5 = some (.cells [.map X.ma] 0 true) := by rw [hlow _ l5]; exact h5
  have g6 : (H.alloc (.cells x.cells 0 true)).get X.r6 = some (.cells [.map X.mf] 0 true) := by rw [hlow _ l6]; exact h6
  have g9 : (H.alloc (.cells x.cells 0 true)).get X.r9 = some (.cells [.int .i64 (wI w)] 0 true) := by rw [hlow _ h9]; exact hw9
  have gv : (H.alloc (.cells x.cells 0 true)).get X.mv = some (.map (bEs lv)) := by rw [hlow _ llv]; exact hv1
  have ga : (H.alloc (.cells x.cells 0 true)).get X.ma = some (.map (bEs la)) := by rw [hlow _ lla]; exact ha1
  have gf : (H.alloc (.cells x.cells 0 true)).get X.mf = some (.map (vEs fm)) := by rw [hlow _ llf]; exact hf
  have gb : (H.alloc (.cells x.cells 0 true)).get H.next = some (.cells x.cells 0 true) := by rw [Hp.get_alloc, if_pos (by rfl)]
  have kv := look_bEs gv x.name
  have ka := look_bEs ga x.name
  have kf := look_ok (P := Try.prog) (t := 84) Try.underlying84 keyS4 (by kernel_rfl) gf x.to
  rw [hv2] at kv
  rw [ha2] at ka
  have hlen := exprsSz_len x.args
  have hsz := x.sz_eq
  have hok1 : RsOk X vs an fm (H.alloc (.cells x.cells 0 true)) := hok'.low hl hlow
  have hx0 : ∀ a b, Ab.extract (.tup [a, b]) 0 = some a := fun _ _ => rfl
  have hx1 : ∀ a b, Ab.extract (.tup [a, b]) 1 = some b := fun _ _ => rfl
  have hfr : FrB base H (H.alloc (.cells x.cells 0 true)) := (FrB.refl _ _).alloc _
  have hfr2 : FrB base H ((H.alloc (.cells x.cells 0 true)).set X.r9 (.cells [.int .i64 5] 0 true)) := hfr.set (.inr h9) _
  have hok2 : RsOk X vs an fm ((H.alloc (.cells x.cells 0 true)).set X.r9 (.cells [.int .i64 5] 0 true)) := hok1.keep (by rw [Hp.get_set, if_neg hne.l12]) (by rw [Hp.get_set, if_neg hne.lv]) (by rw [Hp.get_set, if_neg hne.l5]) (by rw [Hp.get_set, if_neg hne.la]) (by rw [Hp.get_set, if_neg hne.l6]) (by rw [Hp.get_set, if_neg hne.lf])
  have hw2 : ((H.alloc (.cells x.cells 0 true)).set X.r9 (.cells [.int .i64 5] 0 true)).get X.r9 = some (.cells [.int .i64 (wI true)] 0 true) := by rw [Hp.get_set, if_pos rfl]; rfl
  have s12 : ((H.alloc (.cells x.cells 0 true)).set X.r9 (.cells [.int .i64 5] 0 true)).get X.r12 = some (.cells [.map X.mv] 0 true) := hok2.b12
  have sb : ((H.alloc (.cells x.cells 0 true)).set X.r9 (.cells [.int .i64 5] 0 true)).get H.next = some (.cells x.cells 0 true) := by rw [Hp.get_set, if_neg (by omega)]; exact gb
  have sv : lookupA Try.prog ((H.alloc (.cells x.cells 0 true)).set X.r9 (.cells [.int .i64 5] 0 true)) 112 (.map X.mv) (.str x.name) false = some (.bool (hasS vs x.name)) := by
    obtain ⟨l, q1, q2⟩ := hok2.bv
    rw [look_bEs q1, q2]
  clear h12 hv1 hv2 h5 ha1 ha2 h6 hf gv ga gf hok' hw9 hlow
  have e12 : (X.r12 == H.next) = false := ne_beq (by omega)
  have e5 : (X.r5 == H.next) = false := ne_beq (by omega)
  have e6 : (X.r6 == H.next) = false := ne_beq (by omega)
  have e9 : (X.r9 == H.next) = false := ne_beq (by omega)
  have d12 : (X.r12 == X.r9) = false := ne_beq hne.l12
  have dn : (H.next == X.r9) = false := ne_beq (by omega)
  simp only [List.append_nil, List.cons_append, List.nil_append]
  refine WpCall.slim (M := 49) (rs := [.tmp 8]) (hw.call _) hw.ice hw.froz Try.func66 rfl rfl code66.2 rfl ?_; dsimp only [code66, envOf, Nat.reduceAdd]
  repeat' (first
     | (refine WpL.nil (hK _ _ ?_); clear hK K; try dsimp only [thenQ, blockQ]) | refine Rx.move (hk := ?_) | refine Rx.assign (hk := ?_) | refine Rx.load (hk := ?_) | refine Rx.bin (hk := ?_) | refine Rx.fieldAddr (hk := ?_) | refine Rx.len (hk := ?_) | refine Rx.pick (hk := ?_) | refine Rx.box (hk := ?_) | refine Rx.store (hk := ?_) | refine Rx.extract (hk := ?_) | refine Rx.lookup (hk := ?_) | (refine Rx.guardU (hk := ?_); dsimp only [setO]) | (refine Rx.guard (h1 := fun hg => ?_) (h2 := fun hg => ?_) <;> (try simp only [Bool.not_true, Bool.not_false, reduceCtorEq] at hg) <;> (try (cases hg; done)) <;> (try have hgp := hg) <;> (try simp only [decide_eq_true_eq, decide_eq_false_iff_not] at hgp) <;> (try dsimp only [setO])) | (refine Rx.cond (h1 := fun hb => ?_) (h2 := fun hb => ?_) <;> (try simp only [Bool.not_true, Bool.not_false, reduceCtorEq] at hb) <;> (try (cases hb; done)) <;> (try have hbp := hb) <;> (try simp only [decide_eq_true_eq, decide_eq_false_iff_not] at hbp)) | refine Wp.seq ?_ | (refine Wp.ops' fun K hK => ?_) | refine Wp.block ?_ | (refine Wp.skip ?_; try dsimp only [thenQ, blockQ]) | (refine Wp.ret ?_; try dsimp only [thenQ, blockQ]) | (refine Wp.exit ?_; try simp only [thenQ, blockQ, reduceIte]))
  all_goals
    all_goals (refine ⟨by first | exact .inl rfl | exact .inr rfl | exact .inl trivial | exact .inr trivial, _, (by (try simp only [sB, Nat.reduceBEq, resultsA, resultA, *]); first | done | with_reducible rfl), ?_⟩; try simp only [oneOr])
    first
    | refine ⟨?_, hfr, hok1, ?_⟩
    | refine ⟨?_, hfr2, hok2, ?_⟩
    all_goals
      (try rw [g9])
      (try rw [hw2])
      clear g12 g5 g6 g9 kv ka kf hx0 hx1 gb s12 sb sv hok1 hok2 hfr hfr2 hw2 e12 e5 e6 e9 d12 dn hl hne hlen hsz
      simp_all [rsS, wI]
end Go.Proofs.Ytjkmbpieknaekaa
namespace Go.Proofs.Ytjkmbpieknaekaa
set_option maxRecDepth 20000
set_option linter.unusedSimpArgs false
set_option linter.unusedVariables false
set_option linter.unusedSectionVars false
set_option linter.defProp false
open Go Go.Ab
namespace tyP4g
def tyF := And.intro @sz3 (And.intro @pt3 (And.intro @bt3 (And.intro @zr3 (And.intro @sz9 (And.intro @pt9 (And.intro @bt9 (And.intro @zr9 (And.intro @ln9 (And.intro @ix9 (And.intro @sz22 (And.intro @pt22 (And.intro @bt22 (And.intro @zr22 (And.intro @ix22l (And.intro @ix22s (And.intro @ln22l (And.intro @ln22s (And.intro @ln22n (And.intro @sz23 (And.intro @pt23 (And.intro @bt23 (And.intro @zr23 (And.intro @ix23l (And.intro @ix23s (And.intro @ln23l (And.intro @ln23s (And.intro @ln23n (And.intro @sz25 (And.intro @pt25 (And.intro @bt25 (And.intro @zr25 (And.intro @fa25_0p (And.intro @fa25_0c (And.intro @fd25_0 (And.intro @fa25_1p (And.intro @fa25_1c (And.intro @fd25_1 (And.intro @sz30 (And.intro @pt30 (And.intro @bt30 (And.intro @zr30 (And.intro @sz35 (And.intro @pt35 (And.intro @bt35 (And.intro @zr35 (And.intro @ix35l (And.intro @ix35s (And.intro @ln35l (And.intro @ln35s (And.intro @ln35n (And.intro @sz36 (And.intro @pt36 (And.intro @bt36 (And.intro @zr36 (And.intro @ix36l (And.intro @ix36s (And.intro @ln36l (And.intro @ln36s (And.intro @ln36n (And.intro @sz39 (And.intro @pt39 (And.intro @bt39 (And.intro @zr39 (And.intro @fa39_0p (And.intro @fa39_0c (And.intro @fd39_0 (And.intro @fa39_1p (And.intro @fa39_1c (And.intro @fd39_1 (And.intro @fa39_2p (And.intro @fa39_2c (And.intro @fd39_2 (And.intro @fa39_3p (And.intro @fa39_3c (And.intro @fd39_3 (And.intro @fa39_4p (And.intro @fa39_4c (And.intro @fd39_4 (And.intro @sz41 (And.intro @pt41 (And.intro @bt41 (And.intro @zr41 (And.intro @fa41_0p (And.intro @fa41_0c (And.intro @fd41_0 (And.intro @fa41_1p (And.intro @fa41_1c (And.intro @fd41_1 (And.intro @fa41_2p (And.intro @fa41_2c (And.intro @fd41_2 (And.intro @fa41_3p (And.intro @fa41_3c (And.intro @fd41_3 (And.intro @fa41_4p (And.intro @fa41_4c (And.intro @fd41_4 (And.intro @sz46 (And.intro @pt46 (And.intro @bt46 (And.intro @zr46 (And.intro @fa46_0p (And.intro @fa46_0c (And.intro @fd46_0 (And.intro @fa46_1p (And.intro @fa46_1c (And.intro @fd46_1 (And.intro @fa46_2p (And.intro @fa46_2c (And.intro @fd46_2 (And.intro @fa46_3p (And.intro @fa46_3c (And.intro @fd46_3 (And.intro @fa46_4p (And.intro @fa46_4c (And.intro @fd46_4 (And.intro @fa46_5p (And.intro @fa46_5c (And.intro @fd46_5 (And.intro @fa46_6p (And.intro @fa46_6c (And.intro @fd46_6 (And.intro @fa46_7p (And.intro @fa46_7c (And.intro @fd46_7 (And.intro @fa46_8p (And.intro @fa46_8c (And.intro @fd46_8 (And.intro @sz84 (And.intro @pt84 (And.intro @bt84 (And.intro @zr84 (And.intro @sz112 (And.intro @pt112 (And.intro @bt112 (And.intro @zr112 (And.intro @sz142 (And.intro @pt142 (And.intro @bt142 (And.intro @zr142 (And.intro @ix142l (And.intro @ix142s (And.intro @ln142l (And.intro @ln142s (And.intro @ln142n (And.intro @bsR1 (@bsR2)))))))))))))))))))))))))))))))))))))))))))))))))))))))))))))))))))))))))))))))))))))))))))))))))))))))))))))))))))))))))))))))))))))))))))))))))))
end tyP4g
open tyP4g
noncomputable def code34 : { c : SC // slim 67 (Try.f34.body.getD .skip) = c } := by
  refine ⟨?_, ?_⟩
  rotate_left
  · simp only [Try.f34, Option.getD_some, slim, slimR, slimL, slimD, slimG, Nat.blt, Nat.ble]
    rfl
noncomputable def levRes : List En := [enDecl]
theorem levRes_ok (ρ : Nat → Int) : EnsOk Try.prog ρ levRes := ⟨enDecl_ok ρ, trivial⟩
set_option maxRecDepth 100000 in
set_option maxHeartbeats 16000000 in
theorem resolve_con (ρ : Nat → Int) (p : Pr) (hz : p.sz < 2 ^ 36) : Con Try.prog ρ 34 (prE p) (.int .i64 (resP p)) := Con.lev fit (pls := pls) (levRes_ok ρ) (.cons (.agg p.pure) .nil) (.int _ _) (by
  have hw : Plain (cfgN pls levRes) 34 := plainN (fun _ => rfl) rfl
  have kd : ∀ H, WpCall Try.prog (cfgN pls levRes) 62 [.agg p.cells] H fun v H' => v = .tup [lstS (arNames p), lstS (fnNms p)] ∧ H' = H := fun H => WpCall.en (enc := prE) (out := fun p => .tup [lstS (arNames p), lstS (fnNms p)]) prE_inj (x := p) rfl hz
  have hps : Plains (cfgN pls levRes) := ⟨plainN (fun _ => rfl) rfl, plainN (fun _ => rfl) rfl, plainN (fun _ => rfl) rfl, plainN (fun _ => rfl) rfl⟩
  have hpz : p.sz = 1 + arrsSz p.arrays + fnsSz p.funcs := rfl
  have hla := arrsSz_len p.arrays
  have hlf := fnsSz_len p.funcs
  have hal : (arNames p).length = p.arrays.length := by simp [arNames]
  have hfl : (fnNms p).length = p.funcs.length := by simp [fnNms]
  have hx0 : ∀ a b, Ab.extract (.tup [a, b]) 0 = some a := fun _ _ => rfl
  have hx1 : ∀ a b, Ab.extract (.tup [a, b]) 1 = some b := fun _ _ => rfl
  have hnm := aeval_nm
  rw [prE]
  refine WpCall.slim (M := 67) (rs := [.tmp 2]) (hw.call _) hw.ice hw.froz Try.func34 rfl rfl code34.2 rfl ?_; dsimp only [code34, envOf, Nat.reduceAdd]
  repeat' (first
     | (refine WpL.nil (hK _ _ ?_); clear hK K; try dsimp only [thenQ, blockQ]) | refine Rx.move (hk := ?_) | refine Rx.assign (hk := ?_) | refine Rx.load (hk := ?_) | refine Rx.bin (hk := ?_) | refine Rx.un (hk := ?_) | refine Rx.fieldAddr (hk := ?_) | refine Rx.indexAddr (hk := ?_) | refine Rx.len (hk := ?_) | refine Rx.pick (hk := ?_) | refine Rx.box (hk := ?_) | refine Rx.alloc (hk := ?_) | refine Rx.store (hk := ?_) | refine Rx.extract (hk := ?_) | refine Rx.makeFunc (hk := ?_) | refine Rx.makeMap (hk := ?_) | refine Rx.mapUpdate (hk := ?_) | refine Rx.buildSlice (hk := ?_) | (refine Rx.call (hk := ?_); simp only [List.cons_append, List.nil_append, List.append_nil]; refine WpCall.mono ?_ (kd _); rintro _ _ ⟨rfl, rfl⟩; try dsimp only [setO]) | (refine Rx.guardU (hk := ?_); dsimp only [setO]) | (refine Rx.guard (h1 := fun hg => ?_) (h2 := fun hg => ?_) <;> (try simp only [Bool.not_true, Bool.not_false, reduceCtorEq] at hg) <;> (try (cases hg; done)) <;> (try have hgp := hg) <;> (try simp only [decide_eq_true_eq, decide_eq_false_iff_not] at hgp) <;> (try dsimp only [setO])) | (refine Rx.cond (h1 := fun hb => ?_) (h2 := fun hb => ?_) <;> (try simp only [Bool.not_true, Bool.not_false, reduceCtorEq] at hb) <;> (try (cases hb; done)) <;> (try have hbp := hb) <;> (try simp only [decide_eq_true_eq, decide_eq_false_iff_not] at hbp)) | refine Wp.seq ?_ | (refine Wp.ops' fun K hK => ?_)
     | refine Wp.draw (id := 6) (by first | rfl | exact hplan _ | (rw [hS.plan]; rfl)) (by kernel_rfl) (by simp only [slimL, slimD, slimG, Nat.blt, Nat.ble]; rfl) fun K hK => ?_ | refine Wp.block ?_ | (refine Wp.skip ?_; try dsimp only [thenQ, blockQ]) | (refine Wp.ret ?_; try dsimp only [thenQ, blockQ]) | (refine Wp.exit ?_; try simp only [thenQ, blockQ, reduceIte]))
  refine WpL.call rfl (by (try simp only [sB, Nat.reduceBEq, *, -hK]); first | done | with_reducible rfl) (by (try simp only [sB, Nat.reduceBEq, aevals, List.cons_append, List.nil_append, *, -hK]); first | done | with_reducible rfl) ?_; simp only [List.cons_append, List.nil_append, List.append_nil]
  refine WpCall.mono ?_ (set_wp (x := [arNames p]) (imm := 0) (plainN (fun _ => rfl) rfl) (by rw [Hp.get_alloc, if_pos (by rfl)]; rfl) (Nat.lt_succ_self _) ⟨by simp, by simp; omega⟩)
  rintro v H2 ⟨rfl, ⟨la, hma, hla2⟩, hold, hlt2⟩
  simp only [Hp.next_alloc, H0_next] at hma hold hlt2
  rw [show ([arNames p] : List (List (List UInt8))).flatten = arNames p by simp] at hla2
  have g20 : H2.get 0 = some (.cells p.cells 0 true) := by rw [hold 0 (by omega), Hp.get_alloc, if_neg (by simp), Hp.get_alloc, if_pos (by rfl)]
  clear hold
  dsimp only [setO]
  repeat' (first
     | (refine WpL.nil (hK _ _ ?_); clear hK K; try dsimp only [thenQ, blockQ]) | refine Rx.move (hk := ?_) | refine Rx.assign (hk := ?_) | refine Rx.load (hk := ?_) | refine Rx.bin (hk := ?_) | refine Rx.un (hk := ?_) | refine Rx.fieldAddr (hk := ?_) | refine Rx.indexAddr (hk := ?_) | refine Rx.len (hk := ?_) | refine Rx.pick (hk := ?_) | refine Rx.box (hk := ?_) | refine Rx.alloc (hk := ?_) | refine Rx.store (hk := ?_) | refine Rx.extract (hk := ?_) | refine Rx.makeFunc (hk := ?_) | refine Rx.makeMap (hk := ?_) | refine Rx.mapUpdate (hk := ?_) | refine Rx.buildSlice (hk := ?_) | (refine Rx.guardU (hk := ?_); dsimp only [setO]) | (refine Rx.guard (h1 := fun hg => ?_) (h2 := fun hg => ?_) <;> (try simp only [Bool.not_true, Bool.not_false, reduceCtorEq] at hg) <;> (try (cases hg; done)) <;> (try have hgp := hg) <;> (try simp only [decide_eq_true_eq, decide_eq_false_iff_not] at hgp) <;> (try dsimp only [setO])) | (refine Rx.cond (h1 := fun hb => ?_) (h2 := fun hb => ?_) <;> (try simp only [Bool.not_true, Bool.not_false, reduceCtorEq] at hb) <;> (try (cases hb; done)) <;> (try have hbp := hb) <;> (try simp only [decide_eq_true_eq, decide_eq_false_iff_not] at hbp)) | refine Wp.seq ?_ | (refine Wp.ops' fun K hK => ?_) | (refine Wp.draw (id := 6) (by first | rfl | exact hplan _ | (rw [hS.plan]; rfl)) (by kernel_rfl) (by simp only [slimL, slimD, slimG, Nat.blt, Nat.ble]; rfl) fun K hK => ?_) | refine Wp.block ?_ | (refine Wp.skip ?_; try dsimp only [thenQ, blockQ])
     | (refine Wp.ret ?_; try dsimp only [thenQ, blockQ]) | (refine Wp.exit ?_; try simp only [thenQ, blockQ, reduceIte]))
  generalize hHs : Hp.set (Hp.set _ _ _) _ _ = Hs
  have ns : H2.next + 3 ≤ Hs.next := by rw [← hHs]; exact Nat.le_refl _
  have gs0 : Hs.get 0 = some (.cells p.cells 0 true) := by rw [← hHs, Hp.get_set, if_neg (by omega), Hp.get_set, if_neg (by omega), Hp.get_alloc, if_neg (by simp only [Hp.next_alloc]; omega), Hp.get_alloc, if_neg (by simp only [Hp.next_alloc]; omega), Hp.get_alloc, if_neg (by omega)]; exact g20
  have gsa : Hs.get 2 = some (.map (bEs la)) := by rw [← hHs, Hp.get_set, if_neg (by omega), Hp.get_set, if_neg (by omega), Hp.get_alloc, if_neg (by simp only [Hp.next_alloc]; omega), Hp.get_alloc, if_neg (by simp only [Hp.next_alloc]; omega), Hp.get_alloc, if_neg (by omega)]; exact hma
  have gs5 : Hs.get (H2.next + 1) = some (.cells [.map 2] 0 true) := by rw [← hHs, Hp.get_set, if_neg (by omega), Hp.get_set, if_pos (by rfl)]
  have gs6 : Hs.get (H2.next + 2) = some (.cells [.map H2.next] 0 true) := by rw [← hHs, Hp.get_set, if_pos (by rfl)]
  have gsf : Hs.get H2.next = some (.map (vEs [])) := by rw [← hHs, Hp.get_set, if_neg (by omega), Hp.get_set, if_neg (by omega), Hp.get_alloc, if_neg (by simp only [Hp.next_alloc]; omega), Hp.get_alloc, if_neg (by simp only [Hp.next_alloc]; omega), Hp.get_alloc, if_pos (by rfl)]; rfl
  clear hHs hma
  have hlt2' : 3 ≤ H2.next := by omega
  clear hlt2
  have hE0 : (0 == H2.next) = false := ne_beq (by omega)
  have hE2 : (2 == H2.next) = false := ne_beq (by omega)
  refine Wp.forI [1, 2, 5, 6, 23, 24] [0, 2, H2.next + 1, H2.next + 2] 25 p.funcs.length (fun i E H => ∃ m, fnPar (p.funcs.drop i) m = fnPar p.funcs [] ∧ H.get H2.next = some (.map (vEs m))) (by first | (simp only [sB, Nat.reduceBEq, *]; done) | rfl) ⟨[], by simp, gsf⟩ ?_
  rintro i E H3 hi hcE hrH hnH hsI ⟨m, hJ, hm⟩
  (try simp only [forall_cons, forall_nil, and_true, sB, sO, Nat.reduceBEq, Nat.reduceAdd, Nat.reduceLeDiff, tyF, gs0, gsa, gs5, gs6, *] at hcE)
  (try simp only [forall_cons, forall_nil, and_true, sB, sO, Nat.reduceBEq, Nat.reduceAdd, Nat.reduceLeDiff, tyF, gs0, gsa, gs5, gs6, *] at hrH)
  (try simp only [Hp.next_alloc, Hp.next_set, H0_next, Nat.zero_add, Nat.reduceAdd] at hnH)
  have hB0 : (0 == H3.next) = false := ne_beq (by omega)
  have hC0 : (H3.next == 0) = false := ne_beq (by omega)
  have hB1 : (2 == H3.next) = false := ne_beq (by omega)
  have hC1 : (H3.next == 2) = false := ne_beq (by omega)
  have hB2 : (H2.next + 1 == H3.next) = false := ne_beq (by omega)
  have hC2 : (H3.next == H2.next + 1) = false := ne_beq (by omega)
  have hB3 : (H2.next + 2 == H3.next) = false := ne_beq (by omega)
  have hC3 : (H3.next == H2.next + 2) = false := ne_beq (by omega)
  obtain ⟨h30, h3a, h35, h36⟩ := hrH
  repeat' (first
     | (refine WpL.nil (hK _ _ ?_); clear hK K; try dsimp only [thenQ, blockQ]) | refine Rx.move (hk := ?_) | refine Rx.assign (hk := ?_) | refine Rx.load (hk := ?_) | refine Rx.bin (hk := ?_) | refine Rx.un (hk := ?_) | refine Rx.fieldAddr (hk := ?_) | refine Rx.indexAddr (hk := ?_) | refine Rx.len (hk := ?_) | refine Rx.pick (hk := ?_) | refine Rx.box (hk := ?_) | refine Rx.alloc (hk := ?_) | refine Rx.store (hk := ?_) | refine Rx.extract (hk := ?_) | refine Rx.makeFunc (hk := ?_) | refine Rx.makeMap (hk := ?_) | refine Rx.mapUpdate (hk := ?_) | refine Rx.buildSlice (hk := ?_) | (refine Rx.guardU (hk := ?_); dsimp only [setO]) | (refine Rx.guard (h1 := fun hg => ?_) (h2 := fun hg => ?_) <;> (try simp only [Bool.not_true, Bool.not_false, reduceCtorEq] at hg) <;> (try (cases hg; done)) <;> (try have hgp := hg) <;> (try simp only [decide_eq_true_eq, decide_eq_false_iff_not] at hgp) <;> (try dsimp only [setO])) | (refine Rx.cond (h1 := fun hb => ?_) (h2 := fun hb => ?_) <;> (try simp only [Bool.not_true, Bool.not_false, reduceCtorEq] at hb) <;> (try (cases hb; done)) <;> (try have hbp := hb) <;> (try simp only [decide_eq_true_eq, decide_eq_false_iff_not] at hbp)) | refine Wp.seq ?_ | (refine Wp.ops' fun K hK => ?_) | (refine Wp.draw (id := 6) (by first | rfl | exact hplan _ | (rw [hS.plan]; rfl)) (by kernel_rfl) (by simp only [slimL, slimD, slimG, Nat.blt, Nat.ble]; rfl) fun K hK => ?_) | refine Wp.block ?_ | (refine Wp.skip ?_; try dsimp only [thenQ, blockQ])
     | (refine Wp.ret ?_; try dsimp only [thenQ, blockQ]) | (refine Wp.exit ?_; try simp only [thenQ, blockQ, reduceIte]))
  · have hlt : i < p.funcs.length := by simpa using hb
    have hgx : p.funcs[i]? = some p.funcs[i] := List.getElem?_eq_getElem hlt
    have hgn : (fnNms p)[i]? = some p.funcs[i].name := by rw [fnNms, List.getElem?_map, hgx]; rfl
    have hu := upd_vEs (P := Try.prog) (t := 84) Try.underlying84 keyS4 hm p.funcs[i].name p.funcs[i].params.length
    rw [List.drop_eq_getElem_cons hlt, fnPar] at hJ
    repeat' (first
       | (refine WpL.nil (hK _ _ ?_); clear hK K; try dsimp only [thenQ, blockQ]) | refine Rx.move (hk := ?_) | refine Rx.assign (hk := ?_) | refine Rx.load (hk := ?_) | refine Rx.bin (hk := ?_) | refine Rx.un (hk := ?_) | refine Rx.fieldAddr (hk := ?_) | refine Rx.indexAddr (hk := ?_) | refine Rx.len (hk := ?_) | refine Rx.pick (hk := ?_) | refine Rx.box (hk := ?_) | refine Rx.alloc (hk := ?_) | refine Rx.store (hk := ?_) | refine Rx.extract (hk := ?_) | refine Rx.makeFunc (hk := ?_) | refine Rx.makeMap (hk := ?_) | refine Rx.mapUpdate (hk := ?_) | refine Rx.buildSlice (hk := ?_) | (refine Rx.guardU (hk := ?_); dsimp only [setO]) | (refine Rx.guard (h1 := fun hg => ?_) (h2 := fun hg => ?_) <;> (try simp only [Bool.not_true, Bool.not_false, reduceCtorEq] at hg) <;> (try (cases hg; done)) <;> (try have hgp := hg) <;> (try simp only [decide_eq_true_eq, decide_eq_false_iff_not] at hgp) <;> (try dsimp only [setO])) | (refine Rx.cond (h1 := fun hb => ?_) (h2 := fun hb => ?_) <;> (try simp only [Bool.not_true, Bool.not_false, reduceCtorEq] at hb) <;> (try (cases hb; done)) <;> (try have hbp := hb) <;> (try simp only [decide_eq_true_eq, decide_eq_false_iff_not] at hbp)) | refine Wp.seq ?_ | (refine Wp.ops' fun K hK => ?_) | (refine Wp.draw (id := 6) (by first | rfl | exact hplan _ | (rw [hS.plan]; rfl)) (by kernel_rfl) (by simp only [slimL, slimD, slimG, Nat.blt, Nat.ble]; rfl) fun K hK => ?_) | refine Wp.block ?_ | (refine Wp.skip ?_; try dsimp only [thenQ, blockQ])
       | (refine Wp.ret ?_; try dsimp only [thenQ, blockQ]) | (refine Wp.exit ?_; try simp only [thenQ, blockQ, reduceIte]))
    refine ⟨by omega, (by simp only [forall_cons, forall_nil, and_true, sB, sO, Nat.reduceBEq, Nat.reduceAdd, Nat.reduceLeDiff, tyF, *]), (by simp only [forall_cons, forall_nil, and_true, sB, sO, Nat.reduceBEq, Nat.reduceAdd, Nat.reduceLeDiff, tyF, *]), by (try simp only [Hp.next_alloc, Hp.next_set, H0_next, Nat.zero_add, Nat.reduceAdd]); omega, (by simp only [sB, Nat.reduceBEq, *]; exact i64_succ (n := p.funcs.length) (by omega) (by omega)), ?_⟩
    exact ⟨_, hJ, by rw [Hp.get_set, if_pos rfl]⟩
  · have hie : i = p.funcs.length := by simp at hb; omega
    rw [hie, List.drop_length, fnPar] at hJ
    subst hJ
    clear hie hsI hi hb hbp
    repeat' (first
       | (refine WpL.nil (hK _ _ ?_); clear hK K; try dsimp only [thenQ, blockQ]) | refine Rx.move (hk := ?_) | refine Rx.assign (hk := ?_) | refine Rx.load (hk := ?_) | refine Rx.bin (hk := ?_) | refine Rx.un (hk := ?_) | refine Rx.fieldAddr (hk := ?_) | refine Rx.indexAddr (hk := ?_) | refine Rx.len (hk := ?_) | refine Rx.pick (hk := ?_) | refine Rx.box (hk := ?_) | refine Rx.alloc (hk := ?_) | refine Rx.store (hk := ?_) | refine Rx.extract (hk := ?_) | refine Rx.makeFunc (hk := ?_) | refine Rx.makeMap (hk := ?_) | refine Rx.mapUpdate (hk := ?_) | refine Rx.buildSlice (hk := ?_) | (refine Rx.guardU (hk := ?_); dsimp only [setO]) | (refine Rx.guard (h1 := fun hg => ?_) (h2 := fun hg => ?_) <;> (try simp only [Bool.not_true, Bool.not_false, reduceCtorEq] at hg) <;> (try (cases hg; done)) <;> (try have hgp := hg) <;> (try simp only [decide_eq_true_eq, decide_eq_false_iff_not] at hgp) <;> (try dsimp only [setO])) | (refine Rx.cond (h1 := fun hb => ?_) (h2 := fun hb => ?_) <;> (try simp only [Bool.not_true, Bool.not_false, reduceCtorEq] at hb) <;> (try (cases hb; done)) <;> (try have hbp := hb) <;> (try simp only [decide_eq_true_eq, decide_eq_false_iff_not] at hbp)) | refine Wp.seq ?_ | (refine Wp.ops' fun K hK => ?_) | (refine Wp.draw (id := 6) (by first | rfl | exact hplan _ | (rw [hS.plan]; rfl)) (by kernel_rfl) (by simp only [slimL, slimD, slimG, Nat.blt, Nat.ble]; rfl) fun K hK => ?_) | refine Wp.block ?_ | (refine Wp.skip ?_; try dsimp only [thenQ, blockQ])
       | (refine Wp.ret ?_; try dsimp only [thenQ, blockQ]) | (refine Wp.exit ?_; try simp only [thenQ, blockQ, reduceIte]))
    generalize hHq : Hp.set (Hp.alloc H3 _) _ _ = Hq
    have nq : H3.next + 1 ≤ Hq.next := by rw [← hHq]; exact Nat.le_refl _
    have oldq : ∀ k, k < H3.next → Hq.get k = H3.get k := fun k hk => by rw [← hHq, Hp.get_set, if_neg (by omega), Hp.get_alloc, if_neg (by omega)]
    have q9 : Hq.get H3.next = some (.cells [.int .i64 (wI false)] 0 true) := by rw [← hHq, Hp.get_set, if_pos rfl]; rfl
    clear hHq
    refine Wp.forI [5, 6, 9, 41, 42] [] 43 p.funcs.length (fun i E H => ∃ w, H.get H3.next = some (.cells [.int .i64 (wI w)] 0 true) ∧ resP p = resFns (fnPar p.funcs []) (arNames p) (p.funcs.drop i) w ∧ H.get (H2.next + 1) = some (.cells [.map 2] 0 true) ∧ (∃ l, H.get 2 = some (.map (bEs l)) ∧ ∀ s, hasS l s = hasS (arNames p) s) ∧ H.get (H2.next + 2) = some (.cells [.map H2.next] 0 true) ∧ H.get H2.next = some (.map (vEs (fnPar p.funcs [])))) (by first | (simp only [sB, Nat.reduceBEq, *]; done) | rfl) ⟨false, q9, rfl, by rw [oldq _ (by omega)]; exact h35, ⟨la, by rw [oldq _ (by omega)]; exact h3a, hla2⟩, by rw [oldq _ (by omega)]; exact h36, by rw [oldq _ (by omega)]; exact hm⟩ ?_
    clear hm hla2 la h30 h3a h35 h36 gs0 gsa gs5 gs6 gsf q9 oldq
    rintro i E H4 hi hcE hrH hnH hsI ⟨w, g9, hJ, g5, ⟨la, ga, hla⟩, g6, gf⟩
    (try simp only [forall_cons, forall_nil, and_true, sB, sO, Nat.reduceBEq, Nat.reduceAdd, Nat.reduceLeDiff, tyF, *] at hcE)
    (try simp only [forall_cons, forall_nil, and_true, sB, sO, Nat.reduceBEq, Nat.reduceAdd, Nat.reduceLeDiff, tyF, *] at hrH)
    (try simp only [Hp.next_alloc, Hp.next_set, H0_next, Nat.zero_add, Nat.reduceAdd] at hnH)
    repeat' (first
       | (refine WpL.nil (hK _ _ ?_); clear hK K; try dsimp only [thenQ, blockQ]) | refine Rx.move (hk := ?_) | refine Rx.assign (hk := ?_) | refine Rx.load (hk := ?_) | refine Rx.bin (hk := ?_) | refine Rx.un (hk := ?_) | refine Rx.fieldAddr (hk := ?_) | refine Rx.indexAddr (hk := ?_) | refine Rx.len (hk := ?_) | refine Rx.pick (hk := ?_) | refine Rx.box (hk := ?_) | refine Rx.alloc (hk := ?_) | refine Rx.store (hk := ?_) | refine Rx.extract (hk := ?_) | refine Rx.makeFunc (hk := ?_) | refine Rx.makeMap (hk := ?_) | refine Rx.mapUpdate (hk := ?_) | refine Rx.buildSlice (hk := ?_) | (refine Rx.guardU (hk := ?_); dsimp only [setO]) | (refine Rx.guard (h1 := fun hg => ?_) (h2 := fun hg => ?_) <;> (try simp only [Bool.not_true, Bool.not_false, reduceCtorEq] at hg) <;> (try (cases hg; done)) <;> (try have hgp := hg) <;> (try simp only [decide_eq_true_eq, decide_eq_false_iff_not] at hgp) <;> (try dsimp only [setO])) | (refine Rx.cond (h1 := fun hb => ?_) (h2 := fun hb => ?_) <;> (try simp only [Bool.not_true, Bool.not_false, reduceCtorEq] at hb) <;> (try (cases hb; done)) <;> (try have hbp := hb) <;> (try simp only [decide_eq_true_eq, decide_eq_false_iff_not] at hbp)) | refine Wp.seq ?_ | (refine Wp.ops' fun K hK => ?_) | (refine Wp.draw (id := 6) (by first | rfl | exact hplan _ | (rw [hS.plan]; rfl)) (by kernel_rfl) (by simp only [slimL, slimD, slimG, Nat.blt, Nat.ble]; rfl) fun K hK => ?_) | refine Wp.block ?_ | (refine Wp.skip ?_; try dsimp only [thenQ, blockQ])
       | (refine Wp.ret ?_; try dsimp only [thenQ, blockQ]) | (refine Wp.exit ?_; try simp only [thenQ, blockQ, reduceIte]))
    · have hlt : i < p.funcs.length := by simpa using hb
      have hgx : p.funcs[i]? = some p.funcs[i] := List.getElem?_eq_getElem hlt
      have hsm := fnsSz_mem (List.getElem_mem hlt)
      have hsz : p.funcs[i].sz = 1 + p.funcs[i].name.length + strsSz p.funcs[i].params + strsSz p.funcs[i].locals + stmtsSz p.funcs[i].body + p.funcs[i].value.sz := rfl
      have hpl := strsSz_len p.funcs[i].params
      have hll := strsSz_len p.funcs[i].locals
      have hdr : resFns (fnPar p.funcs []) (arNames p) (p.funcs.drop i) w = if walkFn (fun x _ => defX (p.funcs[i].params ++ p.funcs[i].locals) (arNames p) x) p.funcs[i] = true ∧ (walkS (rsS (fnPar p.funcs []) (p.funcs[i].params ++ p.funcs[i].locals) (arNames p)) p.funcs[i].body 0 w).1 = true then resFns (fnPar p.funcs []) (arNames p) (p.funcs.drop (i + 1)) (walkS (rsS (fnPar p.funcs []) (p.funcs[i].params ++ p.funcs[i].locals) (arNames p)) p.funcs[i].body 0 w).2 else 3 := by rw [List.drop_eq_getElem_cons hlt]; rfl
      rw [hdr] at hJ
      clear hdr
      have hfz : p.funcs[i].sz < 2 ^ 60 := by omega
      generalize p.funcs[i] = g at *
      repeat' (first
         | (refine WpL.nil (hK _ _ ?_); clear hK K; try dsimp only [thenQ, blockQ]) | refine Rx.move (hk := ?_) | refine Rx.assign (hk := ?_) | refine Rx.load (hk := ?_) | refine Rx.bin (hk := ?_) | refine Rx.un (hk := ?_) | refine Rx.fieldAddr (hk := ?_) | refine Rx.indexAddr (hk := ?_) | refine Rx.len (hk := ?_) | refine Rx.pick (hk := ?_) | refine Rx.box (hk := ?_) | refine Rx.alloc (hk := ?_) | refine Rx.store (hk := ?_) | refine Rx.extract (hk := ?_) | refine Rx.makeFunc (hk := ?_) | refine Rx.makeMap (hk := ?_) | refine Rx.mapUpdate (hk := ?_) | refine Rx.buildSlice (hk := ?_) | (refine Rx.guardU (hk := ?_); dsimp only [setO]) | (refine Rx.guard (h1 := fun hg => ?_) (h2 := fun hg => ?_) <;> (try simp only [Bool.not_true, Bool.not_false, reduceCtorEq] at hg) <;> (try (cases hg; done)) <;> (try have hgp := hg) <;> (try simp only [decide_eq_true_eq, decide_eq_false_iff_not] at hgp) <;> (try dsimp only [setO])) | (refine Rx.cond (h1 := fun hb => ?_) (h2 := fun hb => ?_) <;> (try simp only [Bool.not_true, Bool.not_false, reduceCtorEq] at hb) <;> (try (cases hb; done)) <;> (try have hbp := hb) <;> (try simp only [decide_eq_true_eq, decide_eq_false_iff_not] at hbp)) | refine Wp.seq ?_ | (refine Wp.ops' fun K hK => ?_) | (refine Wp.draw (id := 6) (by first | rfl | exact hplan _ | (rw [hS.plan]; rfl)) (by kernel_rfl) (by simp only [slimL, slimD, slimG, Nat.blt, Nat.ble]; rfl) fun K hK => ?_) | refine Wp.block ?_ | (refine Wp.skip ?_; try dsimp only [thenQ, blockQ])
         | (refine Wp.ret ?_; try dsimp only [thenQ, blockQ]) | (refine Wp.exit ?_; try simp only [thenQ, blockQ, reduceIte]))
      generalize hHb : Hp.alloc (Hp.set _ _ _) _ = Hb
      have nb : Hb.next = H4.next + 2 := by rw [← hHb]; rfl
      have oldb : ∀ k, k < H4.next → Hb.get k = H4.get k := fun k hk => by rw [← hHb, Hp.get_alloc, if_neg (by simp only [Hp.next_set, Hp.next_alloc]; omega), Hp.get_set, if_neg (by omega), Hp.get_alloc, if_neg (by omega)]
      have gbr : Hb.get (H4.next + 1) = some (.cells [lstS g.params, lstS g.locals] 0 true) := by rw [← hHb, Hp.get_alloc, if_pos (by rfl)]
      have gb11 : Hb.get H4.next = some (.cells g.cells 0 true) := by rw [← hHb, Hp.get_alloc, if_neg (by simp only [Hp.next_set, Hp.next_alloc]; omega), Hp.get_set, if_pos rfl]
      clear hHb
      refine WpL.call rfl (by (try simp only [sB, Nat.reduceBEq, *, -hK]); first | done | with_reducible rfl) (by (try simp only [sB, Nat.reduceBEq, aevals, List.cons_append, List.nil_append, *, -hK]); first | done | with_reducible rfl) ?_; simp only [List.cons_append, List.nil_append, List.append_nil]
      refine WpCall.mono ?_ (set_wp (x := [g.params, g.locals]) (imm := 0) (plainN (fun _ => rfl) rfl) gbr (by omega) ⟨by simp, by simp; omega⟩)
      rintro v H5 ⟨rfl, ⟨lv, hmv, hlv⟩, old5, n5⟩
      rw [show ([g.params, g.locals] : List (List (List UInt8))).flatten = g.params ++ g.locals by simp] at hlv
      have o5 : ∀ k, k < H4.next → H5.get k = H4.get k := fun k hk => by rw [old5 k (by omega), oldb k hk]
      have g511 : H5.get H4.next = some (.cells g.cells 0 true) := by rw [old5 _ (by omega)]; exact gb11
      have g59 : H5.get H3.next = some (.cells [.int .i64 (wI w)] 0 true) := by rw [o5 _ (by omega)]; exact g9
      have g55 : H5.get (H2.next + 1) = some (.cells [.map 2] 0 true) := by rw [o5 _ (by omega)]; exact g5
      have g5a : H5.get 2 = some (.map (bEs la)) := by rw [o5 _ (by omega)]; exact ga
      have g56 : H5.get (H2.next + 2) = some (.cells [.map H2.next] 0 true) := by rw [o5 _ (by omega)]; exact g6
      have g5f : H5.get H2.next = some (.map (vEs (fnPar p.funcs []))) := by rw [o5 _ (by omega)]; exact gf
      clear o5 old5 gbr gb11 oldb g9 g5 ga g6 gf
      have e1 : (H4.next == H5.next) = false := ne_beq (by omega)
      dsimp only [setO]
      repeat' (first
         | (refine WpL.nil (hK _ _ ?_); clear hK K; try dsimp only [thenQ, blockQ]) | refine Rx.move (hk := ?_) | refine Rx.assign (hk := ?_) | refine Rx.load (hk := ?_) | refine Rx.bin (hk := ?_) | refine Rx.un (hk := ?_) | refine Rx.fieldAddr (hk := ?_) | refine Rx.indexAddr (hk := ?_) | refine Rx.len (hk := ?_) | refine Rx.pick (hk := ?_) | refine Rx.box (hk := ?_) | refine Rx.alloc (hk := ?_) | refine Rx.store (hk := ?_) | refine Rx.extract (hk := ?_) | refine Rx.makeFunc (hk := ?_) | refine Rx.makeMap (hk := ?_) | refine Rx.mapUpdate (hk := ?_) | refine Rx.buildSlice (hk := ?_) | (refine Rx.guardU (hk := ?_); dsimp only [setO]) | (refine Rx.guard (h1 := fun hg => ?_) (h2 := fun hg => ?_) <;> (try simp only [Bool.not_true, Bool.not_false, reduceCtorEq] at hg) <;> (try (cases hg; done)) <;> (try have hgp := hg) <;> (try simp only [decide_eq_true_eq, decide_eq_false_iff_not] at hgp) <;> (try dsimp only [setO])) | (refine Rx.cond (h1 := fun hb => ?_) (h2 := fun hb => ?_) <;> (try simp only [Bool.not_true, Bool.not_false, reduceCtorEq] at hb) <;> (try (cases hb; done)) <;> (try have hbp := hb) <;> (try simp only [decide_eq_true_eq, decide_eq_false_iff_not] at hbp)) | refine Wp.seq ?_ | (refine Wp.ops' fun K hK => ?_) | (refine Wp.draw (id := 6) (by first | rfl | exact hplan _ | (rw [hS.plan]; rfl)) (by kernel_rfl) (by simp only [slimL, slimD, slimG, Nat.blt, Nat.ble]; rfl) fun K hK => ?_) | refine Wp.block ?_ | (refine Wp.skip ?_; try dsimp only [thenQ, blockQ])
         | (refine Wp.ret ?_; try dsimp only [thenQ, blockQ]) | (refine Wp.exit ?_; try simp only [thenQ, blockQ, reduceIte]))
      generalize hHd : Hp.set (Hp.alloc H5 _) _ _ = Hd
      have nd : Hd.next = H5.next + 1 := by rw [← hHd]; rfl
      have oldd : ∀ k, k < H5.next → Hd.get k = H5.get k := fun k hk => by rw [← hHd, Hp.get_set, if_neg (by omega), Hp.get_alloc, if_neg (by omega)]
      have d12 : Hd.get H5.next = some (.cells [.map Hb.next] 0 true) := by rw [← hHd, Hp.get_set, if_pos rfl, nb]
      clear hHd
      have hok : RsOk ⟨H5.next, Hb.next, H2.next + 1, 2, H2.next + 2, H2.next, H3.next⟩ (g.params ++ g.locals) (arNames p) (fnPar p.funcs []) Hd := {
        b12 := d12
        bv := ⟨lv, by show Hd.get Hb.next = _; rw [oldd _ n5]; exact hmv, hlv⟩
        b5 := by show Hd.get (H2.next + 1) = _; rw [oldd _ (by omega)]; exact g55
        ba := ⟨la, by show Hd.get 2 = _; rw [oldd _ (by omega)]; exact g5a, hla⟩
        b6 := by show Hd.get (H2.next + 2) = _; rw [oldd _ (by omega)]; exact g56
        bf := by show Hd.get H2.next = _; rw [oldd _ (by omega)]; exact g5f }
      have hd9 : Hd.get H3.next = some (.cells [.int .i64 (wI w)] 0 true) := by rw [oldd _ (by omega)]; exact g59
      have hd11 : Hd.get H4.next = some (.cells g.cells 0 true) := by rw [oldd _ (by omega)]; exact g511
      have hlX : ∀ n, Hd.next ≤ n → RsLt ⟨H5.next, Hb.next, H2.next + 1, 2, H2.next + 2, H2.next, H3.next⟩ n := fun n hn => ⟨by show H5.next < n; omega, by show Hb.next < n; omega, by show H2.next + 1 < n; omega, by show 2 < n; omega, by show H2.next + 2 < n; omega, by show H2.next < n; omega⟩
      have hnX : RsNe ⟨H5.next, Hb.next, H2.next + 1, 2, H2.next + 2, H2.next, H3.next⟩ := ⟨by show H5.next ≠ H3.next; omega, by show Hb.next ≠ H3.next; omega, by show H2.next + 1 ≠ H3.next; omega, by show 2 ≠ H3.next; omega, by show H2.next + 2 ≠ H3.next; omega, by show H2.next ≠ H3.next; omega⟩
      clear g59 g55 g5a g56 g5f d12 oldd hmv hlv hla g511
      refine WpL.call rfl (by (try simp only [sB, Nat.reduceBEq, *, -hK]); first | done | with_reducible rfl) (by (try simp only [sB, Nat.reduceBEq, aevals, List.cons_append, List.nil_append, *, -hK]); first | done | with_reducible rfl) ?_; simp only [List.cons_append, List.nil_append, List.append_nil]
      refine WpCall.mono ?_ (walkExprs_wp hps (I := fun H' => Low Hd.next Hd H') (fun a b h1 h2 => h1.trans h2) (res1_wp (plainN (fun _ => rfl) rfl) (hlX _ (Nat.le_refl _)) (fun a b h1 h2 => h1.trans h2) fun H' h => hok.low (hlX _ (Nat.le_refl _)) h) g Hd hfz (Nat.le_refl _) (Low.refl _ _))
      rintro v H6 ⟨rfl, hf6, hlow6⟩
      have n6 := hf6.next
      have hok6 := hok.low (hlX _ (Nat.le_refl _)) hlow6
      have h69 : H6.get H3.next = some (.cells [.int .i64 (wI w)] 0 true) := by rw [hlow6 _ (by omega)]; exact hd9
      have h611 : H6.get H4.next = some (.cells g.cells 0 true) := by rw [hlow6 _ (by omega)]; exact hd11
      clear hlow6 hf6 hok hd9 hd11
      dsimp only [setO]
      cases hwf : walkFn (fun x _ => defX (g.params ++ g.locals) (arNames p) x) g with
      | false =>
        repeat' (first
           | (refine WpL.nil (hK _ _ ?_); clear hK K; try dsimp only [thenQ, blockQ]) | refine Rx.move (hk := ?_) | refine Rx.assign (hk := ?_) | refine Rx.load (hk := ?_) | refine Rx.bin (hk := ?_) | refine Rx.un (hk := ?_) | refine Rx.fieldAddr (hk := ?_) | refine Rx.indexAddr (hk := ?_) | refine Rx.len (hk := ?_) | refine Rx.pick (hk := ?_) | refine Rx.box (hk := ?_) | refine Rx.alloc (hk := ?_) | refine Rx.store (hk := ?_) | refine Rx.extract (hk := ?_) | refine Rx.makeFunc (hk := ?_) | refine Rx.makeMap (hk := ?_) | refine Rx.mapUpdate (hk := ?_) | refine Rx.buildSlice (hk := ?_) | (refine Rx.guardU (hk := ?_); dsimp only [setO]) | (refine Rx.guard (h1 := fun hg => ?_) (h2 := fun hg => ?_) <;> (try simp only [Bool.not_true, Bool.not_false, reduceCtorEq] at hg) <;> (try (cases hg; done)) <;> (try have hgp := hg) <;> (try simp only [decide_eq_true_eq, decide_eq_false_iff_not] at hgp) <;> (try dsimp only [setO])) | (refine Rx.cond (h1 := fun hb => ?_) (h2 := fun hb => ?_) <;> (try simp only [Bool.not_true, Bool.not_false, reduceCtorEq] at hb) <;> (try (cases hb; done)) <;> (try have hbp := hb) <;> (try simp only [decide_eq_true_eq, decide_eq_false_iff_not] at hbp)) | refine Wp.seq ?_ | (refine Wp.ops' fun K hK => ?_) | (refine Wp.draw (id := 6) (by first | rfl | exact hplan _ | (rw [hS.plan]; rfl)) (by kernel_rfl) (by simp only [slimL, slimD, slimG, Nat.blt, Nat.ble]; rfl) fun K hK => ?_) | refine Wp.block ?_ | (refine Wp.skip ?_; try dsimp only [thenQ, blockQ])
           | (refine Wp.ret ?_; try dsimp only [thenQ, blockQ]) | (refine Wp.exit ?_; try simp only [thenQ, blockQ, reduceIte]))
        all_goals (refine ⟨by first | exact .inl rfl | exact .inr rfl | exact .inl trivial | exact .inr trivial, _, (by (try simp only [sB, Nat.reduceBEq, resultsA, resultA, *]); first | done | with_reducible rfl), ?_⟩; try simp only [oneOr])
        rw [hJ, hwf]; simp
      | true =>
        rw [hwf] at hJ
        repeat' (first
           | (refine WpL.nil (hK _ _ ?_); clear hK K; try dsimp only [thenQ, blockQ]) | refine Rx.move (hk := ?_) | refine Rx.assign (hk := ?_) | refine Rx.load (hk := ?_) | refine Rx.bin (hk := ?_) | refine Rx.un (hk := ?_) | refine Rx.fieldAddr (hk := ?_) | refine Rx.indexAddr (hk := ?_) | refine Rx.len (hk := ?_) | refine Rx.pick (hk := ?_) | refine Rx.box (hk := ?_) | refine Rx.alloc (hk := ?_) | refine Rx.store (hk := ?_) | refine Rx.extract (hk := ?_) | refine Rx.makeFunc (hk := ?_) | refine Rx.makeMap (hk := ?_) | refine Rx.mapUpdate (hk := ?_) | refine Rx.buildSlice (hk := ?_) | (refine Rx.guardU (hk := ?_); dsimp only [setO]) | (refine Rx.guard (h1 := fun hg => ?_) (h2 := fun hg => ?_) <;> (try simp only [Bool.not_true, Bool.not_false, reduceCtorEq] at hg) <;> (try (cases hg; done)) <;> (try have hgp := hg) <;> (try simp only [decide_eq_true_eq, decide_eq_false_iff_not] at hgp) <;> (try dsimp only [setO])) | (refine Rx.cond (h1 := fun hb => ?_) (h2 := fun hb => ?_) <;> (try simp only [Bool.not_true, Bool.not_false, reduceCtorEq] at hb) <;> (try (cases hb; done)) <;> (try have hbp := hb) <;> (try simp only [decide_eq_true_eq, decide_eq_false_iff_not] at hbp)) | refine Wp.seq ?_ | (refine Wp.ops' fun K hK => ?_) | (refine Wp.draw (id := 6) (by first | rfl | exact hplan _ | (rw [hS.plan]; rfl)) (by kernel_rfl) (by simp only [slimL, slimD, slimG, Nat.blt, Nat.ble]; rfl) fun K hK => ?_) | refine Wp.block ?_ | (refine Wp.skip ?_; try dsimp only [thenQ, blockQ])
           | (refine Wp.ret ?_; try dsimp only [thenQ, blockQ]) | (refine Wp.exit ?_; try simp only [thenQ, blockQ, reduceIte]))
        refine WpL.call rfl (by (try simp only [sB, Nat.reduceBEq, *, -hK]); first | done | with_reducible rfl) (by (try simp only [sB, Nat.reduceBEq, aevals, List.cons_append, List.nil_append, *, -hK]); first | done | with_reducible rfl) ?_; simp only [List.cons_append, List.nil_append, List.append_nil]
        refine WpCall.mono ?_ (walkStmts_wp (plainN (fun _ => rfl) rfl) (base := H6.next) (I := fun (w : Bool) H => RsOk ⟨H5.next, Hb.next, H2.next + 1, 2, H2.next + 2, H2.next, H3.next⟩ (g.params ++ g.locals) (arNames p) (fnPar p.funcs []) H ∧ H.get H3.next = some (.cells [.int .i64 (wI w)] 0 true)) (fun s a b h1 h2 => ⟨h1.1.low (hlX _ n6) h2, by rw [h2 _ (by omega)]; exact h1.2⟩) (res2_wp (plainN (fun _ => rfl) rfl) (hlX _ n6) (by show H3.next < _; omega) hnX) (stmtsSz g.body + 1) g.body (by omega) 0 w H6 (by omega) (Nat.le_refl _) ⟨hok6, h69⟩)
        rintro v H7 ⟨rfl, hf7, hok7, h79⟩
        have n7 := hf7.next
        dsimp only [setO]
        repeat' (first
           | (refine WpL.nil (hK _ _ ?_); clear hK K; try dsimp only [thenQ, blockQ]) | refine Rx.move (hk := ?_) | refine Rx.assign (hk := ?_) | refine Rx.load (hk := ?_) | refine Rx.bin (hk := ?_) | refine Rx.un (hk := ?_) | refine Rx.fieldAddr (hk := ?_) | refine Rx.indexAddr (hk := ?_) | refine Rx.len (hk := ?_) | refine Rx.pick (hk := ?_) | refine Rx.box (hk := ?_) | refine Rx.alloc (hk := ?_) | refine Rx.store (hk := ?_) | refine Rx.extract (hk := ?_) | refine Rx.makeFunc (hk := ?_) | refine Rx.makeMap (hk := ?_) | refine Rx.mapUpdate (hk := ?_) | refine Rx.buildSlice (hk := ?_) | (refine Rx.guardU (hk := ?_); dsimp only [setO]) | (refine Rx.guard (h1 := fun hg => ?_) (h2 := fun hg => ?_) <;> (try simp only [Bool.not_true, Bool.not_false, reduceCtorEq] at hg) <;> (try (cases hg; done)) <;> (try have hgp := hg) <;> (try simp only [decide_eq_true_eq, decide_eq_false_iff_not] at hgp) <;> (try dsimp only [setO])) | (refine Rx.cond (h1 := fun hb => ?_) (h2 := fun hb => ?_) <;> (try simp only [Bool.not_true, Bool.not_false, reduceCtorEq] at hb) <;> (try (cases hb; done)) <;> (try have hbp := hb) <;> (try simp only [decide_eq_true_eq, decide_eq_false_iff_not] at hbp)) | refine Wp.seq ?_ | (refine Wp.ops' fun K hK => ?_) | (refine Wp.draw (id := 6) (by first | rfl | exact hplan _ | (rw [hS.plan]; rfl)) (by kernel_rfl) (by simp only [slimL, slimD, slimG, Nat.blt, Nat.ble]; rfl) fun K hK => ?_) | refine Wp.block ?_ | (refine Wp.skip ?_; try dsimp only [thenQ, blockQ])
           | (refine Wp.ret ?_; try dsimp only [thenQ, blockQ]) | (refine Wp.exit ?_; try simp only [thenQ, blockQ, reduceIte]))
        · all_goals (refine ⟨by first | exact .inl rfl | exact .inr rfl | exact .inl trivial | exact .inr trivial, _, (by (try simp only [sB, Nat.reduceBEq, resultsA, resultA, *]); first | done | with_reducible rfl), ?_⟩; try simp only [oneOr])
          rw [hJ]; simp_all
        · refine ⟨by omega, (by simp only [forall_cons, forall_nil, and_true, sB, sO, Nat.reduceBEq, Nat.reduceAdd, Nat.reduceLeDiff, tyF, *]), (by simp only [forall_cons, forall_nil, and_true, sB, sO, Nat.reduceBEq, Nat.reduceAdd, Nat.reduceLeDiff, tyF, *]), by (try simp only [Hp.next_alloc, Hp.next_set, H0_next, Nat.zero_add, Nat.reduceAdd]); omega, (by simp only [sB, Nat.reduceBEq, *]; exact i64_succ (n := p.funcs.length) (by omega) (by omega)), ?_⟩
          refine ⟨_, h79, ?_, hok7.b5, hok7.ba, hok7.b6, hok7.bf⟩
          rw [hJ, if_pos ⟨rfl, by simp_all⟩]
    · repeat' (first
         | (refine WpL.nil (hK _ _ ?_); clear hK K; try dsimp only [thenQ, blockQ]) | refine Rx.move (hk := ?_) | refine Rx.assign (hk := ?_) | refine Rx.load (hk := ?_) | refine Rx.bin (hk := ?_) | refine Rx.un (hk := ?_) | refine Rx.fieldAddr (hk := ?_) | refine Rx.indexAddr (hk := ?_) | refine Rx.len (hk := ?_) | refine Rx.pick (hk := ?_) | refine Rx.box (hk := ?_) | refine Rx.alloc (hk := ?_) | refine Rx.store (hk := ?_) | refine Rx.extract (hk := ?_) | refine Rx.makeFunc (hk := ?_) | refine Rx.makeMap (hk := ?_) | refine Rx.mapUpdate (hk := ?_) | refine Rx.buildSlice (hk := ?_) | (refine Rx.guardU (hk := ?_); dsimp only [setO]) | (refine Rx.guard (h1 := fun hg => ?_) (h2 := fun hg => ?_) <;> (try simp only [Bool.not_true, Bool.not_false, reduceCtorEq] at hg) <;> (try (cases hg; done)) <;> (try have hgp := hg) <;> (try simp only [decide_eq_true_eq, decide_eq_false_iff_not] at hgp) <;> (try dsimp only [setO])) | (refine Rx.cond (h1 := fun hb => ?_) (h2 := fun hb => ?_) <;> (try simp only [Bool.not_true, Bool.not_false, reduceCtorEq] at hb) <;> (try (cases hb; done)) <;> (try have hbp := hb) <;> (try simp only [decide_eq_true_eq, decide_eq_false_iff_not] at hbp)) | refine Wp.seq ?_ | (refine Wp.ops' fun K hK => ?_) | (refine Wp.draw (id := 6) (by first | rfl | exact hplan _ | (rw [hS.plan]; rfl)) (by kernel_rfl) (by simp only [slimL, slimD, slimG, Nat.blt, Nat.ble]; rfl) fun K hK => ?_) | refine Wp.block ?_ | (refine Wp.skip ?_; try dsimp only [thenQ, blockQ])
         | (refine Wp.ret ?_; try dsimp only [thenQ, blockQ]) | (refine Wp.exit ?_; try simp only [thenQ, blockQ, reduceIte]))
      all_goals (refine ⟨by first | exact .inl rfl | exact .inr rfl | exact .inl trivial | exact .inr trivial, _, (by (try simp only [sB, Nat.reduceBEq, resultsA, resultA, *]); first | done | with_reducible rfl), ?_⟩; try simp only [oneOr])
      have hie : i = p.funcs.length := by simp at hb; omega
      rw [hJ, hie, List.drop_length, resFns, wI])
end Go.Proofs.Ytjkmbpieknaekaa
namespace Go.Proofs.Ytjkmbpieknaekaa
set_option maxRecDepth 20000
set_option linter.unusedSimpArgs false
set_option linter.unusedVariables false
set_option linter.unusedSectionVars false
set_option linter.defProp false
open Go Go.Ab
namespace tyW4e
def tyF := And.intro @sz3 (And.intro @pt3 (And.intro @bt3 (And.intro @zr3 (And.intro @sz9 (And.intro @pt9 (And.intro @bt9 (And.intro @zr9 (And.intro @ln9 (And.intro @ix9 (And.intro @sz22 (And.intro @pt22 (And.intro @bt22 (And.intro @zr22 (And.intro @ix22l (And.intro @ix22s (And.intro @ln22l (And.intro @ln22s (And.intro @ln22n (And.intro @sz23 (And.intro @pt23 (And.intro @bt23 (And.intro @zr23 (And.intro @ix23l (And.intro @ix23s (And.intro @ln23l (And.intro @ln23s (And.intro @ln23n (And.intro @sz25 (And.intro @pt25 (And.intro @bt25 (And.intro @zr25 (And.intro @fa25_0p (And.intro @fa25_0c (And.intro @fd25_0 (And.intro @fa25_1p (And.intro @fa25_1c (And.intro @fd25_1 (And.intro @sz35 (And.intro @pt35 (And.intro @bt35 (And.intro @zr35 (And.intro @ix35l (And.intro @ix35s (And.intro @ln35l (And.intro @ln35s (And.intro @ln35n (And.intro @sz36 (And.intro @pt36 (And.intro @bt36 (And.intro @zr36 (And.intro @ix36l (And.intro @ix36s (And.intro @ln36l (And.intro @ln36s (And.intro @ln36n (And.intro @sz39 (And.intro @pt39 (And.intro @bt39 (And.intro @zr39 (And.intro @fa39_0p (And.intro @fa39_0c (And.intro @fd39_0 (And.intro @fa39_1p (And.intro @fa39_1c (And.intro @fd39_1 (And.intro @fa39_2p (And.intro @fa39_2c (And.intro @fd39_2 (And.intro @fa39_3p (And.intro @fa39_3c (And.intro @fd39_3 (And.intro @fa39_4p (And.intro @fa39_4c (And.intro @fd39_4 (And.intro @sz41 (And.intro @pt41 (And.intro @bt41 (And.intro @zr41 (And.intro @fa41_0p (And.intro @fa41_0c (And.intro @fd41_0 (And.intro @fa41_1p (And.intro @fa41_1c (And.intro @fd41_1 (And.intro @fa41_2p (And.intro @fa41_2c (And.intro @fd41_2 (And.intro @fa41_3p (And.intro @fa41_3c (And.intro @fd41_3 (And.intro @fa41_4p (And.intro @fa41_4c (And.intro @fd41_4 (And.intro @sz44 (And.intro @pt44 (And.intro @bt44 (And.intro @zr44 (And.intro @fa44_0p (And.intro @fa44_0c (And.intro @fd44_0 (And.intro @fa44_1p (And.intro @fa44_1c (And.intro @fd44_1 (And.intro @sz46 (And.intro @pt46 (And.intro @bt46 (And.intro @zr46 (And.intro @fa46_0p (And.intro @fa46_0c (And.intro @fd46_0 (And.intro @fa46_1p (And.intro @fa46_1c (And.intro @fd46_1 (And.intro @fa46_2p (And.intro @fa46_2c (And.intro @fd46_2 (And.intro @fa46_3p (And.intro @fa46_3c (And.intro @fd46_3 (And.intro @fa46_4p (And.intro @fa46_4c (And.intro @fd46_4 (And.intro @fa46_5p (And.intro @fa46_5c (And.intro @fd46_5 (And.intro @fa46_6p (And.intro @fa46_6c (And.intro @fd46_6 (And.intro @fa46_7p (And.intro @fa46_7c (And.intro @fd46_7 (And.intro @fa46_8p (And.intro @fa46_8c (@fd46_8))))))))))))))))))))))))))))))))))))))))))))))))))))))))))))))))))))))))))))))))))))))))))))))))))))))))))))))))))))))))))))))))))))))
end tyW4e
open tyW4e
noncomputable def code31 : { c : SC // slim 68 (Try.f31.body.getD .skip) = c } := by
  refine ⟨?_, ?_⟩
  rotate_left
  · simp only [Try.f31, Option.getD_some, slim, slimR, slimL, slimD, slimG, Nat.blt, Nat.ble]
    rfl
set_option maxHeartbeats 4000000 in
theorem limits_wp {cfg : Cfg} (hp : Plains cfg) (hw : Plain cfg 31) (h1w : Plain cfg 54) (h2w : Plain cfg 56) (p : Pr) (hz : p.sz < 2 ^ 60) :
    WpCall Try.prog cfg 31 [.agg p.cells] H0 fun v _ => v = .bool (limP p) := by
  have hpz : p.sz = 1 + arrsSz p.arrays + fnsSz p.funcs := rfl
  have hla := arrsSz_len p.arrays
  have hlf := fnsSz_len p.funcs
  have hla2 : p.arrays.length < 2 ^ 60 := by omega
  have hlf2 : p.funcs.length < 2 ^ 60 := by omega
  refine WpCall.slim (M := 68) (rs := [.tmp 2]) (hw.call _) hw.ice hw.froz Try.func31 rfl rfl code31.2 rfl ?_; dsimp only [code31, envOf, Nat.reduceAdd]
  repeat' (first
     | (refine WpL.nil (hK _ _ ?_); clear hK K; try dsimp only [thenQ, blockQ]) | refine Rx.move (hk := ?_) | refine Rx.assign (hk := ?_) | refine Rx.load (hk := ?_) | refine Rx.bin (hk := ?_) | refine Rx.un (hk := ?_) | refine Rx.fieldAddr (hk := ?_) | refine Rx.indexAddr (hk := ?_) | refine Rx.len (hk := ?_) | refine Rx.pick (hk := ?_) | refine Rx.box (hk := ?_) | refine Rx.alloc (hk := ?_) | refine Rx.store (hk := ?_) | refine Rx.makeFunc (hk := ?_) | (refine Rx.guardU (hk := ?_); dsimp only [setO]) | (refine Rx.guard (h1 := fun hg => ?_) (h2 := fun hg => ?_) <;> (try simp only [Bool.not_true, Bool.not_false, reduceCtorEq] at hg) <;> (try (cases hg; done)) <;> (try have hgp := hg) <;> (try simp only [decide_eq_true_eq, decide_eq_false_iff_not] at hgp) <;> (try dsimp only [setO])) | (refine Rx.cond (h1 := fun hb => ?_) (h2 := fun hb => ?_) <;> (try simp only [Bool.not_true, Bool.not_false, reduceCtorEq] at hb) <;> (try (cases hb; done)) <;> (try have hbp := hb) <;> (try simp only [decide_eq_true_eq, decide_eq_false_iff_not] at hbp)) | refine Wp.seq ?_ | (refine Wp.ops' fun K hK => ?_) | refine Wp.block ?_ | (refine Wp.skip ?_; try dsimp only [thenQ, blockQ]) | (refine Wp.ret ?_; try dsimp only [thenQ, blockQ]) | (refine Wp.exit ?_; try simp only [thenQ, blockQ, reduceIte]))
  · all_goals (refine ⟨by first | exact .inl rfl | exact .inr rfl | exact .inl trivial | exact .inr trivial, _, (by (try simp only [sB, Nat.reduceBEq, resultsA, resultA, *]); first | done | with_reducible rfl), ?_⟩; try simp only [oneOr])
    simp_all [limP]; try (intros; omega)
  · refine Wp.loopN (fun i E H => p.arrays.all (fun a => !decide (a.len < 1) && !decide (16 < a.len)) = (p.arrays.drop i).all (fun a => !decide (a.len < 1) && !decide (16 < a.len)) ∧ E.at 1 = .ptr 0 0 ∧ E.at 21 = .lst (p.arrays.map Ar.cells) ∧ E.at 22 = .int .i64 p.arrays.length ∧ E.at 23 = .int .i64 i ∧ 0 < H.next ∧ H.get 0 = some (.cells p.cells 0 true)) p.arrays.length ?_ ?_
    · rintro i E H hi ⟨hc, h1, h21, h22, h23, hn, hg0⟩
      have e0 : (0 == H.next) = false := by simp; omega
      repeat' (first
         | (refine WpL.nil (hK _ _ ?_); clear hK K; try dsimp only [thenQ, blockQ]) | refine Rx.move (hk := ?_) | refine Rx.assign (hk := ?_) | refine Rx.load (hk := ?_) | refine Rx.bin (hk := ?_) | refine Rx.un (hk := ?_) | refine Rx.fieldAddr (hk := ?_) | refine Rx.indexAddr (hk := ?_) | refine Rx.len (hk := ?_) | refine Rx.pick (hk := ?_) | refine Rx.box (hk := ?_) | refine Rx.alloc (hk := ?_) | refine Rx.store (hk := ?_) | refine Rx.makeFunc (hk := ?_) | (refine Rx.guardU (hk := ?_); dsimp only [setO]) | (refine Rx.guard (h1 := fun hg => ?_) (h2 := fun hg => ?_) <;> (try simp only [Bool.not_true, Bool.not_false, reduceCtorEq] at hg) <;> (try (cases hg; done)) <;> (try have hgp := hg) <;> (try simp only [decide_eq_true_eq, decide_eq_false_iff_not] at hgp) <;> (try dsimp only [setO])) | (refine Rx.cond (h1 := fun hb => ?_) (h2 := fun hb => ?_) <;> (try simp only [Bool.not_true, Bool.not_false, reduceCtorEq] at hb) <;> (try (cases hb; done)) <;> (try have hbp := hb) <;> (try simp only [decide_eq_true_eq, decide_eq_false_iff_not] at hbp)) | refine Wp.seq ?_ | (refine Wp.ops' fun K hK => ?_) | refine Wp.block ?_ | (refine Wp.skip ?_; try dsimp only [thenQ, blockQ]) | (refine Wp.ret ?_; try dsimp only [thenQ, blockQ]) | (refine Wp.exit ?_; try simp only [thenQ, blockQ, reduceIte]))
      · have hlt : i < p.arrays.length := by simpa using hb
        have hgx : p.arrays[i]? = some p.arrays[i] := List.getElem?_eq_getElem hlt
        have hd : (p.arrays.drop i).all (fun a => !decide (a.len < 1) && !decide (16 < a.len)) = ((!decide (p.arrays[i].len < 1) && !decide (16 < p.arrays[i].len)) && (p.arrays.drop (i + 1)).all (fun a => !decide (a.len < 1) && !decide (16 < a.len))) := by rw [List.drop_eq_getElem_cons hlt, List.all_cons]
        repeat' (first
           | (refine WpL.nil (hK _ _ ?_); clear hK K; try dsimp only [thenQ, blockQ]) | refine Rx.move (hk := ?_) | refine Rx.assign (hk := ?_) | refine Rx.load (hk := ?_) | refine Rx.bin (hk := ?_) | refine Rx.un (hk := ?_) | refine Rx.fieldAddr (hk := ?_) | refine Rx.indexAddr (hk := ?_) | refine Rx.len (hk := ?_) | refine Rx.pick (hk := ?_) | refine Rx.box (hk := ?_) | refine Rx.alloc (hk := ?_) | refine Rx.store (hk := ?_) | refine Rx.makeFunc (hk := ?_) | (refine Rx.guardU (hk := ?_); dsimp only [setO]) | (refine Rx.guard (h1 := fun hg => ?_) (h2 := fun hg => ?_) <;> (try simp only [Bool.not_true, Bool.not_false, reduceCtorEq] at hg) <;> (try (cases hg; done)) <;> (try have hgp := hg) <;> (try simp only [decide_eq_true_eq, decide_eq_false_iff_not] at hgp) <;> (try dsimp only [setO])) | (refine Rx.cond (h1 := fun hb => ?_) (h2 := fun hb => ?_) <;> (try simp only [Bool.not_true, Bool.not_false, reduceCtorEq] at hb) <;> (try (cases hb; done)) <;> (try have hbp := hb) <;> (try simp only [decide_eq_true_eq, decide_eq_false_iff_not] at hbp)) | refine Wp.seq ?_ | (refine Wp.ops' fun K hK => ?_) | refine Wp.block ?_ | (refine Wp.skip ?_; try dsimp only [thenQ, blockQ]) | (refine Wp.ret ?_; try dsimp only [thenQ, blockQ]) | (refine Wp.exit ?_; try simp only [thenQ, blockQ, reduceIte]))
        · all_goals (refine ⟨by first | exact .inl rfl | exact .inr rfl | exact .inl trivial | exact .inr trivial, _, (by (try simp only [sB, Nat.reduceBEq, resultsA, resultA, *]); first | done | with_reducible rfl), ?_⟩; try simp only [oneOr])
          have hfa : p.arrays.all (fun a => !decide (a.len < 1) && !decide (16 < a.len)) = false := by rw [hc, hd]; simp_all
          simp only [limP, hfa]; simp
        · refine ⟨hlt, ?_, (by first | (simp only [sB, Nat.reduceBEq, *]; done) | rfl), (by first | (simp only [sB, Nat.reduceBEq, *]; done) | rfl), (by first | (simp only [sB, Nat.reduceBEq, *]; done) | rfl), ?_, by simp only [Hp.next_set, Hp.next_alloc]; omega, (by first | (simp only [sB, sO, Nat.reduceBEq, Nat.reduceAdd, Nat.reduceLeDiff, tyF, *]; done) | rfl)⟩
          · rw [hc, hd]; simp_all
          · simp only [at_set, Nat.reduceBEq, cond_true, wrap_succ (show i < 2 ^ 62 by omega)]
        · all_goals (refine ⟨by first | exact .inl rfl | exact .inr rfl | exact .inl trivial | exact .inr trivial, _, (by (try simp only [sB, Nat.reduceBEq, resultsA, resultA, *]); first | done | with_reducible rfl), ?_⟩; try simp only [oneOr])
          have hfa : p.arrays.all (fun a => !decide (a.len < 1) && !decide (16 < a.len)) = false := by rw [hc, hd]; simp_all
          simp only [limP, hfa]; simp
      · have hia : i = p.arrays.length := by simp at hb; omega
        have hca : p.arrays.all (fun a => !decide (a.len < 1) && !decide (16 < a.len)) = true := by rw [hc, hia]; simp
        clear hc
        repeat' (first
           | (refine WpL.nil (hK _ _ ?_); clear hK K; try dsimp only [thenQ, blockQ]) | refine Rx.move (hk := ?_) | refine Rx.assign (hk := ?_) | refine Rx.load (hk := ?_) | refine Rx.bin (hk := ?_) | refine Rx.un (hk := ?_) | refine Rx.fieldAddr (hk := ?_) | refine Rx.indexAddr (hk := ?_) | refine Rx.len (hk := ?_) | refine Rx.pick (hk := ?_) | refine Rx.box (hk := ?_) | refine Rx.alloc (hk := ?_) | refine Rx.store (hk := ?_) | refine Rx.makeFunc (hk := ?_) | (refine Rx.guardU (hk := ?_); dsimp only [setO]) | (refine Rx.guard (h1 := fun hg => ?_) (h2 := fun hg => ?_) <;> (try simp only [Bool.not_true, Bool.not_false, reduceCtorEq] at hg) <;> (try (cases hg; done)) <;> (try have hgp := hg) <;> (try simp only [decide_eq_true_eq, decide_eq_false_iff_not] at hgp) <;> (try dsimp only [setO])) | (refine Rx.cond (h1 := fun hb => ?_) (h2 := fun hb => ?_) <;> (try simp only [Bool.not_true, Bool.not_false, reduceCtorEq] at hb) <;> (try (cases hb; done)) <;> (try have hbp := hb) <;> (try simp only [decide_eq_true_eq, decide_eq_false_iff_not] at hbp)) | refine Wp.seq ?_ | (refine Wp.ops' fun K hK => ?_) | refine Wp.block ?_ | (refine Wp.skip ?_; try dsimp only [thenQ, blockQ]) | (refine Wp.ret ?_; try dsimp only [thenQ, blockQ]) | (refine Wp.exit ?_; try simp only [thenQ, blockQ, reduceIte]))
        refine Wp.loopN (fun i E H => p.funcs.all limFn = (p.funcs.drop i).all limFn ∧ E.at 37 = .lst (p.funcs.map Fu.cells) ∧ E.at 38 = .int .i64 p.funcs.length ∧ E.at 39 = .int .i64 i ∧ 0 < H.next) p.funcs.length ?_ ?_
        · rintro i E H hi ⟨hc, h37, h38, h39, hn⟩
          repeat' (first
             | (refine WpL.nil (hK _ _ ?_); clear hK K; try dsimp only [thenQ, blockQ]) | refine Rx.move (hk := ?_) | refine Rx.assign (hk := ?_) | refine Rx.load (hk := ?_) | refine Rx.bin (hk := ?_) | refine Rx.un (hk := ?_) | refine Rx.fieldAddr (hk := ?_) | refine Rx.indexAddr (hk := ?_) | refine Rx.len (hk := ?_) | refine Rx.pick (hk := ?_) | refine Rx.box (hk := ?_) | refine Rx.alloc (hk := ?_) | refine Rx.store (hk := ?_) | refine Rx.makeFunc (hk := ?_) | (refine Rx.guardU (hk := ?_); dsimp only [setO]) | (refine Rx.guard (h1 := fun hg => ?_) (h2 := fun hg => ?_) <;> (try simp only [Bool.not_true, Bool.not_false, reduceCtorEq] at hg) <;> (try (cases hg; done)) <;> (try have hgp := hg) <;> (try simp only [decide_eq_true_eq, decide_eq_false_iff_not] at hgp) <;> (try dsimp only [setO])) | (refine Rx.cond (h1 := fun hb => ?_) (h2 := fun hb => ?_) <;> (try simp only [Bool.not_true, Bool.not_false, reduceCtorEq] at hb) <;> (try (cases hb; done)) <;> (try have hbp := hb) <;> (try simp only [decide_eq_true_eq, decide_eq_false_iff_not] at hbp)) | refine Wp.seq ?_ | (refine Wp.ops' fun K hK => ?_) | refine Wp.block ?_ | (refine Wp.skip ?_; try dsimp only [thenQ, blockQ]) | (refine Wp.ret ?_; try dsimp only [thenQ, blockQ]) | (refine Wp.exit ?_; try simp only [thenQ, blockQ, reduceIte]))
          · have hlt : i < p.funcs.length := by simpa using hb
            have hgx : p.funcs[i]? = some p.funcs[i] := List.getElem?_eq_getElem hlt
            have hd : (p.funcs.drop i).all limFn = (limFn p.funcs[i] && (p.funcs.drop (i + 1)).all limFn) := by rw [List.drop_eq_getElem_cons hlt, List.all_cons]
            have hxm := fnsSz_mem (List.getElem_mem hlt)
            generalize hx0 : p.funcs[i] = x at *
            have hsx : x.sz = 1 + x.name.length + strsSz x.params + strsSz x.locals + stmtsSz x.body + x.value.sz := rfl
            repeat' (first
               | (refine WpL.nil (hK _ _ ?_); clear hK K; try dsimp only [thenQ, blockQ]) | refine Rx.move (hk := ?_) | refine Rx.assign (hk := ?_) | refine Rx.load (hk := ?_) | refine Rx.bin (hk := ?_) | refine Rx.un (hk := ?_) | refine Rx.fieldAddr (hk := ?_) | refine Rx.indexAddr (hk := ?_) | refine Rx.len (hk := ?_) | refine Rx.pick (hk := ?_) | refine Rx.box (hk := ?_) | refine Rx.alloc (hk := ?_) | refine Rx.store (hk := ?_) | refine Rx.makeFunc (hk := ?_) | (refine Rx.guardU (hk := ?_); dsimp only [setO]) | (refine Rx.guard (h1 := fun hg => ?_) (h2 := fun hg => ?_) <;> (try simp only [Bool.not_true, Bool.not_false, reduceCtorEq] at hg) <;> (try (cases hg; done)) <;> (try have hgp := hg) <;> (try simp only [decide_eq_true_eq, decide_eq_false_iff_not] at hgp) <;> (try dsimp only [setO])) | (refine Rx.cond (h1 := fun hb => ?_) (h2 := fun hb => ?_) <;> (try simp only [Bool.not_true, Bool.not_false, reduceCtorEq] at hb) <;> (try (cases hb; done)) <;> (try have hbp := hb) <;> (try simp only [decide_eq_true_eq, decide_eq_false_iff_not] at hbp)) | refine Wp.seq ?_ | (refine Wp.ops' fun K hK => ?_) | refine Wp.block ?_ | (refine Wp.skip ?_; try dsimp only [thenQ, blockQ]) | (refine Wp.ret ?_; try dsimp only [thenQ, blockQ]) | (refine Wp.exit ?_; try simp only [thenQ, blockQ, reduceIte]))
            · generalize hH5 : Hp.set _ (H.next + 2) _ = H5
              have hn5 : H5.next = H.next + 3 := by rw [← hH5]; rfl
              have hg5a : H5.get H.next = some (.cells x.cells 0 true) := by rw [← hH5]; simp only [get_set, get_alloc, Hp.next_alloc, Hp.next_set, nb1, nb2, nb3, Nat.add_assoc, Nat.reduceAdd, beq_self_eq_true, cond_true, cond_false, Nat.reduceBEq]
              have hg5b : H5.get (H.next + 1) = some (.cells [.int .i64 0] 0 true) := by rw [← hH5]; simp only [get_set, get_alloc, Hp.next_alloc, Hp.next_set, nb1, nb2, nb3, Nat.add_assoc, Nat.reduceAdd, beq_self_eq_true, cond_true, cond_false, Nat.reduceBEq]
              have hg5c : H5.get (H.next + 2) = some (.cells [.int .i64 0] 0 true) := by rw [← hH5]; simp only [get_set, get_alloc, Hp.next_alloc, Hp.next_set, nb1, nb2, nb3, Nat.add_assoc, Nat.reduceAdd, beq_self_eq_true, cond_true, cond_false, Nat.reduceBEq]
              refine WpL.call rfl (by (try simp only [sB, Nat.reduceBEq, *, -hK]); first | done | with_reducible rfl) (by (try simp only [sB, Nat.reduceBEq, aevals, List.cons_append, List.nil_append, *, -hK]); first | done | with_reducible rfl) ?_; simp only [List.cons_append, List.nil_append, List.append_nil]
              refine WpCall.mono ?_ (walkStmts_wp hp.ws (base := H.next + 3) (fun s Ha Hb h hlow => ⟨by rw [hlow _ (by omega)]; exact h.1, by rw [hlow _ (by omega)]; exact h.2.1, fun r q1 q2 q3 => by rw [hlow r q1]; exact h.2.2 r q1 q2 q3⟩) (lim1_wp h1w (base := H.next + 3) (rn := H.next + 1) (rl := H.next + 2) (by omega) (by omega) (by omega) H5) (stmtsSz x.body + 1) x.body (by omega) 0 (0, 0) H5 (by omega) (by omega) ⟨hg5b, hg5c, fun _ _ _ _ => rfl⟩)
              rintro v H6 ⟨rfl, hf6, hi6⟩
              have hn6 := hf6.next
              have hg6 : H6.get H.next = some (.cells x.cells 0 true) := by rw [hi6.2.2 _ (by omega) (by omega) (by omega)]; exact hg5a
              dsimp only [setO]
              repeat' (first
                 | (refine WpL.nil (hK _ _ ?_); clear hK K; try dsimp only [thenQ, blockQ]) | refine Rx.move (hk := ?_) | refine Rx.assign (hk := ?_) | refine Rx.load (hk := ?_) | refine Rx.bin (hk := ?_) | refine Rx.un (hk := ?_) | refine Rx.fieldAddr (hk := ?_) | refine Rx.indexAddr (hk := ?_) | refine Rx.len (hk := ?_) | refine Rx.pick (hk := ?_) | refine Rx.box (hk := ?_) | refine Rx.alloc (hk := ?_) | refine Rx.store (hk := ?_) | refine Rx.makeFunc (hk := ?_) | (refine Rx.guardU (hk := ?_); dsimp only [setO]) | (refine Rx.guard (h1 := fun hg => ?_) (h2 := fun hg => ?_) <;> (try simp only [Bool.not_true, Bool.not_false, reduceCtorEq] at hg) <;> (try (cases hg; done)) <;> (try have hgp := hg) <;> (try simp only [decide_eq_true_eq, decide_eq_false_iff_not] at hgp) <;> (try dsimp only [setO])) | (refine Rx.cond (h1 := fun hb => ?_) (h2 := fun hb => ?_) <;> (try simp only [Bool.not_true, Bool.not_false, reduceCtorEq] at hb) <;> (try (cases hb; done)) <;> (try have hbp := hb) <;> (try simp only [decide_eq_true_eq, decide_eq_false_iff_not] at hbp)) | refine Wp.seq ?_ | (refine Wp.ops' fun K hK => ?_) | refine Wp.block ?_ | (refine Wp.skip ?_; try dsimp only [thenQ, blockQ]) | (refine Wp.ret ?_; try dsimp only [thenQ, blockQ]) | (refine Wp.exit ?_; try simp only [thenQ, blockQ, reduceIte]))
              · refine WpL.call rfl (by (try simp only [sB, Nat.reduceBEq, *, -hK]); first | done | with_reducible rfl) (by (try simp only [sB, Nat.reduceBEq, aevals, List.cons_append, List.nil_append, *, -hK]); first | done | with_reducible rfl) ?_; simp only [List.cons_append, List.nil_append, List.append_nil]
                refine WpCall.mono ?_ (walkExprs_wp hp (base := 0) (I := fun _ => True) (fun _ _ _ _ => trivial) (lim2_wp h2w (fun _ _ _ _ => trivial)) x H6 (by omega) (by omega) trivial)
                rintro v H7 ⟨rfl, hf7, _⟩
                have hn7 := hf7.next
                dsimp only [setO]
                repeat' (first
                   | (refine WpL.nil (hK _ _ ?_); clear hK K; try dsimp only [thenQ, blockQ]) | refine Rx.move (hk := ?_) | refine Rx.assign (hk := ?_) | refine Rx.load (hk := ?_) | refine Rx.bin (hk := ?_) | refine Rx.un (hk := ?_) | refine Rx.fieldAddr (hk := ?_) | refine Rx.indexAddr (hk := ?_) | refine Rx.len (hk := ?_) | refine Rx.pick (hk := ?_) | refine Rx.box (hk := ?_) | refine Rx.alloc (hk := ?_) | refine Rx.store (hk := ?_) | refine Rx.makeFunc (hk := ?_) | (refine Rx.guardU (hk := ?_); dsimp only [setO]) | (refine Rx.guard (h1 := fun hg => ?_) (h2 := fun hg => ?_) <;> (try simp only [Bool.not_true, Bool.not_false, reduceCtorEq] at hg) <;> (try (cases hg; done)) <;> (try have hgp := hg) <;> (try simp only [decide_eq_true_eq, decide_eq_false_iff_not] at hgp) <;> (try dsimp only [setO])) | (refine Rx.cond (h1 := fun hb => ?_) (h2 := fun hb => ?_) <;> (try simp only [Bool.not_true, Bool.not_false, reduceCtorEq] at hb) <;> (try (cases hb; done)) <;> (try have hbp := hb) <;> (try simp only [decide_eq_true_eq, decide_eq_false_iff_not] at hbp)) | refine Wp.seq ?_ | (refine Wp.ops' fun K hK => ?_) | refine Wp.block ?_ | (refine Wp.skip ?_; try dsimp only [thenQ, blockQ]) | (refine Wp.ret ?_; try dsimp only [thenQ, blockQ]) | (refine Wp.exit ?_; try simp only [thenQ, blockQ, reduceIte]))
                · all_goals (refine ⟨by first | exact .inl rfl | exact .inr rfl | exact .inl trivial | exact .inr trivial, _, (by (try simp only [sB, Nat.reduceBEq, resultsA, resultA, *]); first | done | with_reducible rfl), ?_⟩; try simp only [oneOr])
                  have hff : p.funcs.all limFn = false := by rw [hc, hd]; simp_all [limFn]
                  simp only [limP, hff]; simp
                · refine ⟨hlt, ?_, (by first | (simp only [sB, Nat.reduceBEq, *]; done) | rfl), (by first | (simp only [sB, Nat.reduceBEq, *]; done) | rfl), ?_, by omega⟩
                  · rw [hc, hd]; simp_all [limFn]
                  · simp only [at_set, Nat.reduceBEq, cond_true, wrap_succ (show i < 2 ^ 62 by omega)]
              · all_goals (refine ⟨by first | exact .inl rfl | exact .inr rfl | exact .inl trivial | exact .inr trivial, _, (by (try simp only [sB, Nat.reduceBEq, resultsA, resultA, *]); first | done | with_reducible rfl), ?_⟩; try simp only [oneOr])
                have hff : p.funcs.all limFn = false := by rw [hc, hd]; simp_all [limFn]
                simp only [limP, hff]; simp
            · all_goals (refine ⟨by first | exact .inl rfl | exact .inr rfl | exact .inl trivial | exact .inr trivial, _, (by (try simp only [sB, Nat.reduceBEq, resultsA, resultA, *]); first | done | with_reducible rfl), ?_⟩; try simp only [oneOr])
              have hlx : limFn x = false := by
                simp only [limFn, Bool.and_eq_false_iff, decide_eq_false_iff_not]
                first | exact .inl (.inl (.inl (by assumption))) | exact .inl (.inl (.inr (by assumption)))
              have hff : p.funcs.all limFn = false := by rw [hc, hd, hlx, Bool.false_and]
              simp only [limP, hff]; simp
            · all_goals (refine ⟨by first | exact .inl rfl | exact .inr rfl | exact .inl trivial | exact .inr trivial, _, (by (try simp only [sB, Nat.reduceBEq, resultsA, resultA, *]); first | done | with_reducible rfl), ?_⟩; try simp only [oneOr])
              have hlx : limFn x = false := by
                simp only [limFn, Bool.and_eq_false_iff, decide_eq_false_iff_not]
                first | exact .inl (.inl (.inl (by assumption))) | exact .inl (.inl (.inr (by assumption)))
              have hff : p.funcs.all limFn = false := by rw [hc, hd, hlx, Bool.false_and]
              simp only [limP, hff]; simp
          · all_goals (refine ⟨by first | exact .inl rfl | exact .inr rfl | exact .inl trivial | exact .inr trivial, _, (by (try simp only [sB, Nat.reduceBEq, resultsA, resultA, *]); first | done | with_reducible rfl), ?_⟩; try simp only [oneOr])
            have : i = p.funcs.length := by simp at hb; omega
            simp_all [limP]; try (intros; omega)
        · exact ⟨rfl, (by first | (simp only [sB, Nat.reduceBEq, *]; done) | rfl), (by first | (simp only [sB, Nat.reduceBEq, *]; done) | rfl), (by first | (simp only [sB, Nat.reduceBEq, *]; done) | rfl), by omega⟩
    · exact ⟨rfl, (by first | (simp only [sB, Nat.reduceBEq, *]; done) | rfl), (by first | (simp only [sB, Nat.reduceBEq, *]; done) | rfl), (by first | (simp only [sB, Nat.reduceBEq, *]; done) | rfl), (by first | (simp only [sB, Nat.reduceBEq, *]; done) | rfl), by simp [Hp.next_alloc, H0_next], (by first | (simp only [sB, sO, Nat.reduceBEq, Nat.reduceAdd, Nat.reduceLeDiff, tyF, *]; done) | rfl)⟩
  · all_goals (refine ⟨by first | exact .inl rfl | exact .inr rfl | exact .inl trivial | exact .inr trivial, _, (by (try simp only [sB, Nat.reduceBEq, resultsA, resultA, *]); first | done | with_reducible rfl), ?_⟩; try simp only [oneOr])
    simp_all [limP]; try (intros; omega)
end Go.Proofs.Ytjkmbpieknaekaa
