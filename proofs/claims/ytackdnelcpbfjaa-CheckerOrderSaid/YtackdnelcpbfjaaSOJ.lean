/- Parts: G5, G2s, G2p, G6, L4a, Sem6, Rep6, Rep6b, Rep6c, L4b, GOk, GF, SglA. -/
import Derived.Test.YtackdnelcpbfjaaSOI
set_option linter.unusedSimpArgs false
set_option linter.unusedVariables false
set_option linter.unusedSectionVars false
set_option linter.defProp false
namespace Go.Proofs.Ytackdnelcpbfjaa
set_option maxRecDepth 20000
set_option linter.unusedSimpArgs false
set_option linter.unusedVariables false
set_option linter.unusedSectionVars false
set_option linter.defProp false
set_option maxRecDepth 20000
open Go Go.Ab
namespace tyG5
def tyF := And.intro @tq3 (And.intro @tq9 (And.intro @tq26 (And.intro @tq35 (And.intro @tq36 (And.intro @tq37 (And.intro @tq39 (And.intro @tq46 (And.intro @tq80 (And.intro @zS17 (@bin_quo))))))))))
end tyG5
open tyG5
set_option maxRecDepth 100000 in
set_option maxHeartbeats 32000000 in
theorem stmtG_step {lG : List En} (hG : GenL lG) {k : Nat} {f : Int} {deep : Nat} (hd : deep ≤ 3) (hst : deep ≤ 2 → StmtSpec lG k f (deep + 1)) : StmtSpec lG (k + 1) f deep := by
  intro lo H r s hrd hL
  have hw : Plain (cfgN pls lG) 65 := hG.plain (by rfl)
  have hnx : Plain (cfgN pls lG) 31 := hG.plain (by rfl)
  have hkeep : (cfgN pls lG).keep 65 = false := rfl
  have hrl := hrd.1
  have hlo := hrd.2.1
  have hq16 : (16 : Int) ≠ 0 := by decide
  have hq2 : (2 : Int) ≠ 0 := by decide
  have hlen0 : ((nmsG f).length : Int) ≠ 0 := by rcases nmsG_len f with h | h <;> rw [h] <;> decide
  rw [stmtG, stmtB]
  refine WpCall.slim (M := 156) (rs := [.cell 6 46]) (hw.call _) hw.ice hw.froz Try.func65 rfl rfl code65.2 rfl ?_; dsimp only [code65, envOf, Nat.reduceAdd]
  repeat' (first
     | (apply Rx.nl ?_; clear hK K) | apply Rx.o ?_ | apply Rx.on ?_ | apply Rx.gu ?_ | (apply Rx.gd (fun hg hgp => ?_) (fun hg hgp => ?_) <;> try (cases hg; done)) | (apply Rx.cd (fun hb hbp => ?_) (fun hb hbp => ?_) <;> try (cases hb; done)) | apply Wp.seq ?_ | (apply Wp.ops' fun K hK => ?_) | (apply Rx.dT 8 [(3, 9), (3, 11), (6, 9), (6, 11)] fun K hK => ?_) | (apply Rx.dT 10 [(0, 7), (0, 10), (0, 12), (4, 7), (4, 10), (4, 12)] fun K hK => ?_) | (apply Rx.dT 24 [(3, 14), (6, 14), (7, 14), (11, 14), (13, 14)] fun K hK => ?_) | (apply Rx.dT 28 [(1, 4), (1, 6), (5, 6)] fun K hK => ?_) | (apply Rx.nq ?_; try intro _) | (apply Rx.nt ?_ ?_ <;> clear hK K) | apply WpT.step ?_ | apply WpT.step0 rfl ?_ | apply Rx.gv ?_ | (apply Rx.gt (fun hg hgp => ?_) (fun hg hgp => ?_) <;> try (cases hg; done)) | apply Wp.block ?_ | apply Rx.sk ?_ | apply Rx.rt ?_ | apply Rx.xt ?_)
  refine WpL.call rfl eVk eAk ?_; simp only [List.cons_append, List.nil_append, List.append_nil]
  refine WpCall.mono ?_ (next_wp hnx (hrd.keep (Nat.le_succ _) fun q hq => by rw [Hp.get_alloc, if_neg (by omega)]) hL)
  rintro v H2 ⟨rfl, hr2, n2, o2⟩
  simp only [Hp.next_alloc] at n2
  have g2 : H2.get H.next = some (.cells [.int .i64 0, .str [], .str [], .int .i64 0, .int .i64 0, .int .i64 0, .str [], .int .i64 0, .nilS, .int .i64 0, .int .i64 0, .str [], .int .i64 0, .nilS, .nilS, .nilS, .nilS] 0 true) := by rw [o2 _ (by omega), Hp.get_alloc, if_pos rfl]
  have o2' : ∀ q, q < H.next → q ≠ r → H2.get q = H.get q := fun q h1 h2 => by rw [o2 q h2, Hp.get_alloc, if_neg (by omega)]
  have hL1 := nextG_len s.1
  generalize (nextG s.1).1 = n at *
  generalize (nextG s.1).2 = L1 at *
  obtain ⟨sL, c⟩ := s
  simp only [] at *
  have hq := pickG_range (n := n) (m := 16) (by omega) (by omega)
  have hm := pickG_range (n := w64 (n.tdiv 16)) (m := 1000) (by omega) (by omega)
  obtain ⟨hi0, hix⟩ := getD_tmod (nmsG f) hlen0 hm.1 []
  have hxs := ixS2 hm.1
  have hxa := arr_at hm.1
  have hxf := fg_at hm.1
  clear o2
  dsimp only [setO]
  repeat' (first
     | (apply Rx.nl ?_; clear hK K) | apply Rx.o ?_ | apply Rx.on ?_ | (apply Rx.call ?_; first | refine Rx.k (names_en hG.nms _ _) ?_ | refine Rx.k (pick_en hG.pick _ 1000 (by decide) _) ?_) | apply Rx.gu ?_ | (apply Rx.gd (fun hg hgp => ?_) (fun hg hgp => ?_) <;> try (cases hg; done)) | (apply Rx.cd (fun hb hbp => ?_) (fun hb hbp => ?_) <;> try (cases hb; done)) | apply Wp.seq ?_ | (apply Wp.ops' fun K hK => ?_) | (apply Rx.dT 8 [(3, 9), (3, 11), (6, 9), (6, 11)] fun K hK => ?_) | (apply Rx.dT 10 [(0, 7), (0, 10), (0, 12), (4, 7), (4, 10), (4, 12)] fun K hK => ?_) | (apply Rx.dT 24 [(3, 14), (6, 14), (7, 14), (11, 14), (13, 14)] fun K hK => ?_) | (apply Rx.dT 28 [(1, 4), (1, 6), (5, 6)] fun K hK => ?_) | (apply Rx.nq ?_; try intro _) | (apply Rx.nt ?_ ?_ <;> clear hK K) | apply WpT.step ?_ | apply WpT.step0 rfl ?_ | apply Rx.gv ?_ | (apply Rx.gt (fun hg hgp => ?_) (fun hg hgp => ?_) <;> try (cases hg; done)) | apply Wp.block ?_ | apply Rx.sk ?_ | apply Rx.rt ?_ | apply Rx.xt ?_)
  refine WpL.call rfl eVk eAk ?_; simp only [List.cons_append, List.nil_append, List.append_nil]
  refine WpCall.mono ?_ (pick_en hG.pick n 16 (by decide) _)
  rintro _ _ ⟨rfl, rfl⟩
  dsimp only [setO]
  refine Rx.o ?_
  refine WpL.nil (hK _ _ ?_)
  clear hK K
  dsimp only [thenQ, blockQ]
  generalize pickG n 16 = q0 at *
  generalize pickG (w64 (n.tdiv 16)) 1000 = m at *
  obtain ⟨lv, hgr, hlen⟩ := hr2.len
  rename_i H2
  simp only [slimR, slimL, slimD, slimG, Nat.blt, Nat.ble, List.getElem?_cons_succ, List.getElem?_cons_zero, Option.bind_some]
  refine Wp.seq ?_
  refine Wp.seq ?_
  refine Wp.ops' fun K hK0 => ?_
  have hK : ∀ E2 H3, (E2.at 0 = .ptr r 0 ∧ E2.at 1 = .int .i64 f ∧ E2.at 2 = .int .i64 deep ∧ E2.at 6 = .ptr H.next 0 ∧ E2.at 8 = lstS (nmsG f) ∧ E2.at 9 = .int .i64 m ∧ E2.at 10 = .int .i64 q0 ∧ (∃ b, E2.at 44 = .bool b ∧ (b = true ↔ (((2 : Int) < deep ∧ 8 ≤ q0 ∧ q0 < 12) ∨ (10 ≤ c ∧ 10 ≤ q0)))) ∧ H3 = H2) → K E2 H3 := by
    rintro E2 H3 ⟨k0, k1, k2, k6, k8, k9, k10, ⟨b, k44, hb⟩, rfl⟩
    apply hK0
    clear hK0 K
    dsimp only [thenQ, blockQ]
    have hqe : kindG deep c q0 = if ((2 : Int) < deep ∧ 8 ≤ q0 ∧ q0 < 12) ∨ (10 ≤ c ∧ 10 ≤ q0) then 0 else q0 := rfl
    generalize kindG deep c q0 = q at *
    have hqr : 0 ≤ q ∧ q < 16 := by rw [hqe]; split <;> omega
    have hqd : 8 ≤ q → q < 12 → deep ≤ 2 := by rw [hqe]; split <;> omega
    refine Wp.join (fun E' H' => E'.at 0 = .ptr r 0 ∧ E'.at 1 = .int .i64 f ∧ E'.at 2 = .int .i64 deep ∧ E'.at 6 = .ptr H.next 0 ∧ E'.at 8 = lstS (nmsG f) ∧ E'.at 9 = .int .i64 m ∧ E'.at 10 = .int .i64 q ∧ H' = H3) ?_ ?_
    · cases b with
      | true =>
        rw [if_pos (hb.1 rfl)] at hqe
        repeat' (first
           | (apply Rx.nl ?_; clear hK K) | apply Rx.o ?_ | apply Rx.on ?_ | apply Rx.gu ?_ | (apply Rx.gd (fun hg hgp => ?_) (fun hg hgp => ?_) <;> try (cases hg; done)) | (apply Rx.cd (fun hb hbp => ?_) (fun hb hbp => ?_) <;> try (cases hb; done)) | apply Wp.seq ?_ | (apply Wp.ops' fun K hK => ?_) | (apply Rx.dT 8 [(3, 9), (3, 11), (6, 9), (6, 11)] fun K hK => ?_) | (apply Rx.dT 10 [(0, 7), (0, 10), (0, 12), (4, 7), (4, 10), (4, 12)] fun K hK => ?_) | (apply Rx.dT 24 [(3, 14), (6, 14), (7, 14), (11, 14), (13, 14)] fun K hK => ?_) | (apply Rx.dT 28 [(1, 4), (1, 6), (5, 6)] fun K hK => ?_) | (apply Rx.nq ?_; try intro _) | (apply Rx.nt ?_ ?_ <;> clear hK K) | apply WpT.step ?_ | apply WpT.step0 rfl ?_ | apply Rx.gv ?_ | (apply Rx.gt (fun hg hgp => ?_) (fun hg hgp => ?_) <;> try (cases hg; done)) | apply Wp.block ?_ | apply Rx.sk ?_ | apply Rx.rt ?_ | apply Rx.xt ?_)
        exact ⟨rfl, eE, eE, eE, eE, eE, eE, (by first | (simp only [sB, Nat.reduceBEq, hqe, *]; done) | rfl), rfl⟩
      | false =>
        rw [if_neg (fun h => by have := hb.2 h; cases this)] at hqe
        repeat' (first
           | (apply Rx.nl ?_; clear hK K) | apply Rx.o ?_ | apply Rx.on ?_ | apply Rx.gu ?_ | (apply Rx.gd (fun hg hgp => ?_) (fun hg hgp => ?_) <;> try (cases hg; done)) | (apply Rx.cd (fun hb hbp => ?_) (fun hb hbp => ?_) <;> try (cases hb; done)) | apply Wp.seq ?_ | (apply Wp.ops' fun K hK => ?_) | (apply Rx.dT 8 [(3, 9), (3, 11), (6, 9), (6, 11)] fun K hK => ?_) | (apply Rx.dT 10 [(0, 7), (0, 10), (0, 12), (4, 7), (4, 10), (4, 12)] fun K hK => ?_) | (apply Rx.dT 24 [(3, 14), (6, 14), (7, 14), (11, 14), (13, 14)] fun K hK => ?_) | (apply Rx.dT 28 [(1, 4), (1, 6), (5, 6)] fun K hK => ?_) | (apply Rx.nq ?_; try intro _) | (apply Rx.nt ?_ ?_ <;> clear hK K) | apply WpT.step ?_ | apply WpT.step0 rfl ?_ | apply Rx.gv ?_ | (apply Rx.gt (fun hg hgp => ?_) (fun hg hgp => ?_) <;> try (cases hg; done)) | apply Wp.block ?_ | apply Rx.sk ?_ | apply Rx.rt ?_ | apply Rx.xt ?_)
        exact ⟨rfl, eE, eE, eE, eE, eE, eE, (by first | (simp only [sB, Nat.reduceBEq, hqe, *]; done) | rfl), rfl⟩
    clear k0 k1 k2 k6 k8 k9 k10 k44 hb hqe hq
    rintro E3 H' ⟨k0, k1, k2, k6, k8, k9, k10, rfl⟩
    have hat : AtT f deep lo H H' r L1 c q m E3 := ⟨hd, hrl, hlo, n2, g2, o2', hr2, by omega, hm, hqd, k0, k1, k2, k6, k8, k9, k10⟩
    by_cases c1 : q < 6
    · exact tail_assign hG hst hat c1
    by_cases c2 : q < 8
    · exact tail_store hG hst hat c1 c2
    by_cases c3 : q < 10
    · exact tail_if hG hst hat c1 c2 c3
    by_cases c4 : q < 12
    · exact tail_while hG hst hat c1 c2 c3 c4
    by_cases c5 : q < 14
    · exact tail_out hG hst hat c1 c2 c3 c4 c5
    by_cases c6 : q < 15
    · exact tail_call hG hst hat c1 c2 c3 c4 c5 c6
    exact tail_trap hG hst hat c1 c2 c3 c4 c5 c6
  clear hK0
  repeat' (first
     | (apply Rx.nl ?_; clear hK K) | apply Rx.o ?_ | apply Rx.on ?_ | apply Rx.gu ?_ | (apply Rx.gd (fun hg hgp => ?_) (fun hg hgp => ?_) <;> try (cases hg; done)) | apply Wp.seq ?_ | (apply Wp.ops' fun K hK => ?_) | (apply Rx.dT 8 [(3, 9), (3, 11), (6, 9), (6, 11)] fun K hK => ?_) | (apply Rx.dT 10 [(0, 7), (0, 10), (0, 12), (4, 7), (4, 10), (4, 12)] fun K hK => ?_) | (apply Rx.dT 24 [(3, 14), (6, 14), (7, 14), (11, 14), (13, 14)] fun K hK => ?_) | (apply Rx.dT 28 [(1, 4), (1, 6), (5, 6)] fun K hK => ?_) | (apply Rx.nq ?_; try intro _) | (apply Rx.nt ?_ ?_ <;> clear hK K) | apply WpT.step ?_ | apply WpT.step0 rfl ?_ | apply Rx.gv ?_ | (apply Rx.gt (fun hg hgp => ?_) (fun hg hgp => ?_) <;> try (cases hg; done)) | apply Wp.block ?_ | apply Rx.sk ?_ | apply Rx.rt ?_ | apply Rx.xt ?_)
  all_goals
    refine ⟨eE, eE, eE, eE, eE, eE, eE, ⟨_, eE, ?_⟩, rfl⟩
    first
    | exact ⟨fun _ => by omega, fun _ => rfl⟩
    | exact ⟨fun h => (by cases h), fun h => (by omega : False).elim⟩
    | exact ⟨fun h => by (have h := of_decide_eq_true h; omega), fun h => decide_eq_true (by omega)⟩
theorem stmt_all {lG : List En} (hG : GenL lG) (f : Int) : ∀ (k deep : Nat), 4 ≤ deep + k → deep ≤ 3 → StmtSpec lG k f deep
  | 0, deep, h1, h2 => by omega
  | k + 1, deep, h1, h2 => stmtG_step hG h2 fun h => stmt_all hG f k (deep + 1) (by omega) (by omega)
end Go.Proofs.Ytackdnelcpbfjaa
namespace Go.Proofs.Ytackdnelcpbfjaa
set_option maxRecDepth 20000
set_option linter.unusedSimpArgs false
set_option linter.unusedVariables false
set_option linter.unusedSectionVars false
set_option linter.defProp false
open Go Go.Ab
theorem RowOwn.pushL {P : Program} {t u e : TypeId} {z b : Nat} {zz : List AV} (ht : P.underlying t = some (.slice e)) (hs : sizeA P e = some z) (hb : bytesA P e = some b) (hz : zeroA P e = some zz) (hzz : zz.length = z) (hsrc : srcType P u = true)
    {lo n : Nat} {H : Hp} {v : AV} {ws : List (List AV)} (h : RowOwn (fun k => lo ≤ k) n H z v ws) (hlo : lo ≤ H.next) {x : AV} {rows w : List (List AV)} (hx : srcCells H z x = some (rows.length, rows.flatten)) (hone : rows.flatten.all AV.one = true)
    (hw : RowsW (fun k => lo ≤ k ∧ ∀ o m z', v ≠ .sl k o m z') n H z rows w) (hb1 : (ws.length + rows.length) * b ≤ maxRoom) (hb2 : ws.length + rows.length ≤ maxRoom) :
    ∃ v' H', appendA P false H t u v x = some (v', H') ∧ RowOwn (fun k => lo ≤ k) n H' z v' (ws ++ w) ∧ H.next ≤ H'.next ∧ H'.next ≤ H.next + 1 ∧ (∀ k, k < H.next → (∀ o m z', v ≠ .sl k o m z') → H'.get k = H.get k) ∧ (∀ k o m z', v' = .sl k o m z' → k = H.next ∨ v' = v) ∧ (v' = .nilS → v = .nilS) := by
  have hwl2 : rows.length = w.length := All2.len hw
  by_cases h0 : rows = []
  · subst h0
    have hw0 : w = [] := List.eq_nil_of_length_eq_zero (by simpa using hwl2.symm)
    subst hw0
    refine ⟨v, H, ?_, by rw [List.append_nil]; exact h, Nat.le_refl _, Nat.le_succ _, fun _ _ _ => rfl, fun _ _ _ _ _ => .inr rfl, fun e => e⟩
    rcases h with ⟨rfl, rfl⟩ | ⟨q, imm', rows, rfl, h1, h2, h3, h4, h5⟩ <;>
    · simp only [List.length_nil] at hx
      simp only [appendA, ht, hs, hb, hz, hsrc, hx]
  · have hpos : 0 < rows.length := List.length_pos_iff.2 h0
    obtain ⟨m, hm⟩ : ∃ m, rows.length = m + 1 := ⟨rows.length - 1, by omega⟩
    rcases h with ⟨rfl, rfl⟩ | ⟨q, imm', rows', rfl, h1, h2, h3, h4, h5⟩
    · have hb1' : rows.length * b ≤ maxRoom := by simpa using hb1
      have hb2' : rows.length ≤ maxRoom := by simpa using hb2
      refine ⟨.sl H.next 0 rows.length z, H.alloc (.cells rows.flatten 0 true), ?_, .inr ⟨H.next, 0, rows, rfl, hlo, Nat.lt_succ_self _, by rw [Hp.get_alloc, if_pos rfl], Nat.zero_le _, ?_⟩, Nat.le_succ _, Nat.le_refl _, fun k hk _ => by rw [Hp.get_alloc, if_neg (by omega)], fun k o m z' e => ?_, fun e => by cases e⟩
      · rw [hm] at hx hb1' hb2' ⊢
        simp only [appendA, ht, hs, hb, hz, hsrc, hx, hone, hzz, and_self, if_true, trimA, appendOnto, hb1', hb2']
      · exact RowsW.keep2 hw (fun k h1 h2 => ⟨h2.1, by omega⟩) (Nat.le_succ _) fun k h1 h2 => by rw [Hp.get_alloc, if_neg (by omega)]
      · simp only [AV.sl.injEq] at e
        exact .inl e.1.symm
    · have hrl := rows_len (RowsW.len h5)
      have hwl : rows'.length = ws.length := All2.len h5
      have htr : trimA false H z (.sl q 0 rows'.length z) = H := by
        unfold trimA
        simp only [h3, Nat.zero_add]
        have : Nat.blt (rows'.length * z) rows'.flatten.length = false := by
          cases hb : Nat.blt (rows'.length * z) rows'.flatten.length with
          | false => rfl
          | true => rw [Nat.blt_eq] at hb; omega
        simp only [Bool.not_false, Bool.true_and, this, Bool.false_and]
      refine ⟨.sl H.next 0 (rows'.length + rows.length) z, (H.kill q).alloc (.cells (rows'.flatten ++ rows.flatten) (imm' - 0) true), ?_, .inr ⟨H.next, imm' - 0, rows' ++ rows, by simp, hlo, Nat.lt_succ_self _, ?_, by rw [List.flatten_append, List.length_append]; omega, ?_⟩, Nat.le_succ _, Nat.le_refl _, fun k hk hno => ?_, fun k o m z' e => ?_, fun e => by cases e⟩
      · rw [hm] at hx hb1 hb2 ⊢
        simp only [appendA, ht, hs, hb, hz, hsrc, hx, hone, htr, hzz, and_self, if_true, appendOnto, h3, Nat.zero_add, List.drop_zero, Bool.false_eq_true, if_false]
        rw [if_pos ⟨by rw [hwl]; exact hb1, by rw [hwl]; exact hb2, by omega, trivial, h4⟩]
      · show ((H.kill q).alloc _).get (H.kill q).next = _
        rw [Hp.get_alloc, if_pos rfl]; simp
      · have hold : ∀ k, k < H.next → k ≠ q → ((H.kill q).alloc (.cells (rows'.flatten ++ rows.flatten) (imm' - 0) true)).get k = H.get k := fun k h6 h7 => by rw [Hp.get_alloc, if_neg (by simp only [Hp.next_kill]; omega), Hp.get_kill, if_neg h7]
        refine All2.append (h5.keep2 (fun k h6 h7 => ⟨h7.1, by omega⟩) (Nat.le_succ _) fun k h6 h7 => hold k h7 h6.2) (RowsW.keep2 hw (fun k h6 h7 => ⟨h7.1, by omega⟩) (Nat.le_succ _) fun k h6 h7 => hold k h7 fun e => h6.2 0 rows'.length z (by rw [e]))
      · rw [Hp.get_alloc, if_neg (by simp only [Hp.next_kill]; omega), Hp.get_kill, if_neg (fun e => hno 0 rows'.length z (by rw [e]))]
      · simp only [AV.sl.injEq] at e
        exact .inl e.1.symm
theorem src_rows {z : Nat} {H : Hp} {rows : List (List AV)} (h : ∀ r ∈ rows, r.length = z) : srcCells H z (.lst rows) = some (rows.length, rows.flatten) := by
  simp only [srcCells]
  rw [if_pos (by rw [List.all_eq_true]; intro r hr; simp [h r hr])]
theorem Ex.wk : ∀ (m : Nat) (x : Ex), x.cells.map (wkN m) = x.cells
  | 0, x => by rw [show wkN 0 = id from rfl, List.map_id]
  | m + 1, x => by
    rw [Ex.cells_eq]
    simp only [List.map_cons, List.map_nil, wkN, List.map_map]
    have : (fun row => List.map (wkN m) row) ∘ Ex.cells = Ex.cells := funext fun y => Ex.wk m y
    rw [this]
theorem wk_exs (l : List Ex) (m : Nat) : wkN m (.lst (l.map Ex.cells)) = .lst (l.map Ex.cells) := by
  cases m with
  | zero => rfl
  | succ m =>
    simp only [wkN, List.map_map]
    have : (fun row => List.map (wkN m) row) ∘ Ex.cells = Ex.cells := funext fun y => Ex.wk m y
    rw [this]
theorem St.wk : ∀ (m : Nat) (x : St), x.cells.map (wkN m) = x.cells
  | 0, x => by rw [show wkN 0 = id from rfl, List.map_id]
  | m + 1, x => by
    rw [St.cells_eq]
    simp only [List.map_cons, List.map_nil, wkN, List.map_map]
    have h1 : (fun row => List.map (wkN m) row) ∘ Ex.cells = Ex.cells := funext fun y => Ex.wk m y
    have h2 : (fun row => List.map (wkN m) row) ∘ St.cells = St.cells := funext fun y => St.wk m y
    rw [h1, h2]
theorem wk_sts (l : List St) (m : Nat) : wkN m (.lst (l.map St.cells)) = .lst (l.map St.cells) := by
  cases m with
  | zero => rfl
  | succ m =>
    simp only [wkN, List.map_map]
    have : (fun row => List.map (wkN m) row) ∘ St.cells = St.cells := funext fun y => St.wk m y
    rw [this]
theorem RdW.exs {S : Nat → Prop} {n : Nat} {H : Hp} (l : List Ex) : RdW S (n + 1) H (.lst (l.map Ex.cells)) (.lst (l.map Ex.cells)) := .flat ⟨exs_pure l, trivial⟩ (wk_exs l)
theorem RdW.sts {S : Nat → Prop} {n : Nat} {H : Hp} (l : List St) : RdW S (n + 1) H (.lst (l.map St.cells)) (.lst (l.map St.cells)) := .flat ⟨sts_pure l, trivial⟩ (wk_sts l)
theorem CellsW.ex {S : Nat → Prop} {n : Nat} {H : Hp} (x : Ex) : CellsW S (n + 1) H x.cells x.cells := by
  rw [Ex.cells_eq]
  exact .cons (.int _ _) (.cons (.int _ _) (.cons (.str _) (.cons (.int _ _) (.cons (.exs _) .nil))))
theorem CellsW.st {S : Nat → Prop} {n : Nat} {H : Hp} (x : St) : CellsW S (n + 1) H x.cells x.cells := by
  rw [St.cells_eq]
  exact .cons (.int _ _) (.cons (.str _) (.cons (.str _) (.cons (.int _ _) (.cons (.int _ _) (.cons (.int _ _) (.cons (.str _) (.cons (.int _ _) (.cons (.exs _) (.cons (.int _ _) (.cons (.int _ _) (.cons (.str _) (.cons (.int _ _) (.cons (.exs _) (.cons (.exs _) (.cons (.sts _) (.cons (.sts _) .nil))))))))))))))))
theorem CellsW.fu {S : Nat → Prop} {n : Nat} {H : Hp} (x : Fu) : CellsW S (n + 1) H x.cells x.cells :=
  .cons (.str _) (.cons (.lstS _) (.cons (.lstS _) (.cons (.sts _) (.cons (.int _ _) (.cons (.int _ _) (.cons (.str _) (.cons (.int _ _) (.cons (.exs _) .nil))))))))
theorem CellsW.ar {S : Nat → Prop} {n : Nat} {H : Hp} (x : Ar) : CellsW S (n + 1) H x.cells x.cells := .cons (.str _) (.cons (.int _ _) .nil)
theorem RowsW.ars {S : Nat → Prop} {n : Nat} {H : Hp} : ∀ l : List Ar, RowsW S (n + 1) H 2 (l.map Ar.cells) (l.map Ar.cells)
  | [] => trivial
  | a :: l => ⟨⟨rfl, CellsW.ar a⟩, RowsW.ars l⟩
theorem ars_one : ∀ l : List Ar, (l.map Ar.cells).flatten.all AV.one = true
  | [] => rfl
  | a :: l => by rw [List.map_cons, List.flatten_cons, List.all_append, a.one, ars_one l]; rfl
theorem wk_strs (l : List (List UInt8)) (m : Nat) : wkN m (lstS l) = lstS l := by
  cases m with
  | zero => rfl
  | succ m =>
    show AV.lst ((l.map fun s => [AV.str s]).map fun row => row.map (wkN m)) = _
    rw [List.map_map]
    congr 1
    exact List.map_congr_left fun s _ => by cases m <;> rfl
theorem wk_int (m : Nat) (k : IntKind) (n : Int) : wkN m (.int k n) = .int k n := by cases m <;> rfl
theorem wk_str (m : Nat) (s : List UInt8) : wkN m (.str s) = .str s := by cases m <;> rfl
theorem Fu.wk (m : Nat) (x : Fu) : x.cells.map (wkN m) = x.cells := by
  rw [Fu.cells_eq]
  simp only [List.map_cons, List.map_nil, wk_str, wk_int, wk_strs, wk_sts, wk_exs]
theorem Ar.wk (m : Nat) (x : Ar) : x.cells.map (wkN m) = x.cells := by
  rw [Ar.cells_eq]
  simp only [List.map_cons, List.map_nil, wk_str, wk_int]
theorem wk_rows {α : Type} {f : α → List AV} (h : ∀ m x, (f x).map (wkN m) = f x) (l : List α) (m : Nat) : wkN m (.lst (l.map f)) = .lst (l.map f) := by
  cases m with
  | zero => rfl
  | succ m =>
    simp only [wkN, List.map_map]
    have : (fun row => List.map (wkN m) row) ∘ f = f := funext fun y => h m y
    rw [this]
theorem CellsW.pr {S : Nat → Prop} {n : Nat} {H : Hp} (x : Pr) : CellsW S (n + 1) H x.cells x.cells :=
  .cons (.flat ⟨.map fun x _ => x.pure, trivial⟩ (wk_rows Ar.wk _)) (.cons (.flat ⟨.map fun x _ => x.pure, trivial⟩ (wk_rows Fu.wk _)) .nil)
theorem con_of_wk2 {cfg : Cfg} (fit : Fit Try.prog) {ρ : Nat → Int} (hD : DecOk cfg.dec ρ) (hc : ∀ f args r, cfg.call f args = some r → Con Try.prog ρ f args r) {g : FuncId} {args : List AV} {r : AV} {n : Nat}
    (hp : PureL args) (h : WpCall Try.prog cfg g args H0 fun v H' => ∃ m u, iceV H' m v = some u ∧ wkN n u = r) : Con Try.prog ρ g args r := by
  unfold WpCall at h
  obtain ⟨v, H', h1, m, u, h2, h3⟩ := h
  refine Con.wk' n (Con.of_made (m := m) fit hD hc hp ?_) h3
  unfold WpCall
  exact ⟨v, H', h1, h2⟩
end Go.Proofs.Ytackdnelcpbfjaa
namespace Go.Proofs.Ytackdnelcpbfjaa
set_option maxRecDepth 20000
set_option linter.unusedSimpArgs false
set_option linter.unusedVariables false
set_option linter.unusedSectionVars false
set_option linter.defProp false
open Go Go.Ab
/-- A row is appended: S: the blocks of the old row, S': of the new one. The block of the new row holds the old rows and the new one. -/
theorem RowOwn.pushS {P : Program} {t e : TypeId} {z b : Nat} {zz : List AV} (ht : P.underlying t = some (.slice e)) (hs : sizeA P e = some z) (hb : bytesA P e = some b) (hz : zeroA P e = some zz) (hzz : zz.length = z) (hsrc : srcType P t = true)
    {S S' : Nat → Prop} {n : Nat} {H : Hp} {v : AV} {ws : List (List AV)} (h : RowOwn S n H z v ws) (hSS : ∀ k, k < H.next → S k → S' k) (hN : S' H.next) {r imm : Nat} {row : List AV} (hg : H.get r = some (.cells row imm true)) (hrow : row.length = z) (hone : row.all AV.one = true)
    (hb1 : (ws.length + 1) * b ≤ maxRoom) (hb2 : ws.length + 1 ≤ maxRoom) :
    ∃ H' rows imm', appendA P false H t t v (.sl r 0 1 z) = some (.sl H.next 0 (ws.length + 1) z, H') ∧ rows.length = ws.length ∧ (∀ x ∈ rows, x.length = z) ∧ H'.get H.next = some (.cells (rows.flatten ++ row) imm' true) ∧ imm' ≤ rows.flatten.length ∧ H'.next = H.next + 1 ∧ (∀ k, k < H.next → (∀ o m z', v ≠ .sl k o m z') → H'.get k = H.get k) ∧
      RowsW (fun k => S' k ∧ k ≠ H.next) n H' z rows ws := by
  have hx : srcCells H z (.sl r 0 1 z) = some (1, row) := by
    have := src_sl (H := H) (r := r) (o := 0) (n := 1) (z := z) (s := z) hg (by rw [List.drop_zero, List.length_take]; omega)
    rw [this, List.drop_zero, List.take_of_length_le (by omega)]
  rcases h with ⟨rfl, rfl⟩ | ⟨q, imm', rows, rfl, h1, h2, h3, h4, h5⟩
  · exact ⟨H.alloc (.cells row 0 true), [], 0, append_nil ht hs hb hz hsrc hx hone hzz (by simpa using hb1) (by simpa using hb2), rfl, by simp, by rw [Hp.get_alloc, if_pos rfl]; simp, Nat.zero_le _, rfl, fun k hk _ => by rw [Hp.get_alloc, if_neg (by omega)], trivial⟩
  · have hrl := rows_len (RowsW.len h5)
    have hwl : rows.length = ws.length := All2.len h5
    have htr : trimA false H z (.sl q 0 rows.length z) = H := by
      unfold trimA
      simp only [h3, Nat.zero_add]
      have : Nat.blt (rows.length * z) rows.flatten.length = false := by
        cases hb : Nat.blt (rows.length * z) rows.flatten.length with
        | false => rfl
        | true => rw [Nat.blt_eq] at hb; omega
      simp only [Bool.not_false, Bool.true_and, this, Bool.false_and]
    refine ⟨(H.kill q).alloc (.cells (rows.flatten ++ row) (imm' - 0) true), rows, imm' - 0, ?_, hwl, RowsW.len h5, ?_, by omega, rfl, fun k hk hno => ?_, ?_⟩
    · simp only [appendA, ht, hs, hb, hz, hsrc, hx, hone, htr, hzz, and_self, if_true, appendOnto, h3, Nat.zero_add, List.drop_zero, Bool.false_eq_true, if_false]
      rw [if_pos ⟨by rw [hwl]; exact hb1, by rw [hwl]; exact hb2, by omega, trivial, h4⟩, hwl]
    · show ((H.kill q).alloc _).get (H.kill q).next = _
      rw [Hp.get_alloc, if_pos rfl]
    · rw [Hp.get_alloc, if_neg (by simp only [Hp.next_kill]; omega), Hp.get_kill, if_neg (fun e => hno 0 rows.length z (by rw [e]))]
    · exact h5.keep2 (fun k h6 h7 => ⟨hSS k h6 h7.1, by omega⟩) (Nat.le_succ _) fun k h6 h7 => by rw [Hp.get_alloc, if_neg (by simp only [Hp.next_kill]; omega), Hp.get_kill, if_neg h6.2]
/-- A row with an own block, from its parts. -/
theorem RowOwn.of {S : Nat → Prop} {n q z imm : Nat} {H : Hp} {rows ws : List (List AV)} {row w : List AV} (hS : S q) (hq : q < H.next) (hz : ∀ x ∈ rows, x.length = z) (hrow : row.length = z) (hg : H.get q = some (.cells (rows.flatten ++ row) imm true)) (hi : imm ≤ rows.flatten.length) (hr : RowsW (fun k => S k ∧ k ≠ q) n H z rows ws) (hw : CellsW (fun k => S k ∧ k ≠ q) n H row w) : RowOwn S n H z (.sl q 0 (ws.length + 1) z) (ws ++ [w]) := by
  have hl : rows.length = ws.length := All2.len hr
  exact .inr ⟨q, imm, rows ++ [row], by rw [List.length_append, hl]; rfl, hS, hq, by rw [hg]; simp, by rw [List.flatten_append, List.length_append]; omega, hr.append ⟨⟨hrow, hw⟩, trivial⟩⟩
theorem own_strs {S : Nat → Prop} {n : Nat} {H : Hp} {r : Nat} (l : List (List UInt8)) (hS : S r) (hr : r < H.next) (hg : H.get r = some (.cells (l.map .str) 0 true)) : RowOwn S (n + 1) H 1 (.sl r 0 l.length 1) (l.map fun s => [AV.str s]) :=
  .inr ⟨r, 0, l.map fun s => [AV.str s], by rw [List.length_map], hS, hr, by rw [strs_flat]; exact hg, Nat.zero_le _, RowsW.strs l⟩
/-- A function in memory, its parts in blocks of their own ('pt': whose a block is). -/
structure FnL (pt : Nat → Nat) (b n : Nat) (H : Hp) (f : Fu) (p l bo : AV) (v : List AV) : Prop where
  len : v.length = 5
  one : v.all AV.one = true
  ps : RowOwn (fun q => pt q = b) n H 1 p (f.params.map fun s => [AV.str s])
  ls : RowOwn (fun q => pt q = b + 1) n H 1 l (f.locals.map fun s => [AV.str s])
  bo : RowOwn (fun q => pt q = b + 2) n H 17 bo (f.body.map St.cells)
  vw : CellsW (fun q => pt q = b + 3) n H v f.value.cells
def fnC (nm : List UInt8) (p l bo : AV) (v : List AV) : List AV := [.str nm, p, l, bo] ++ v
/-- A program in memory: two arrays, two functions. -/
structure ProgL (pt : Nat → Nat) (n : Nat) (H : Hp) (ra rf : Nat) (x y : Int) (f g : Fu) (pf lf bf : AV) (vf : List AV) (pg lg bg : AV) (vg : List AV) : Prop where
  ga : H.get ra = some (.cells [.str [97], .int .i64 x, .str [98], .int .i64 y] 0 true)
  gf : H.get rf = some (.cells (fnC f.name pf lf bf vf ++ fnC g.name pg lg bg vg) 0 true)
  ltA : ra < H.next
  ltF : rf < H.next
  lra : pt ra = 1
  lrf : pt rf = 2
  F : FnL pt 3 n H f pf lf bf vf
  G : FnL pt 7 n H g pg lg bg vg
def labP (M a b c q : Nat) : Nat := if q ≤ M then 0 else if q = M + 1 then 1 else if q = M + 7 then 2 else if q = M + 3 then 3 else if q = M + 4 then 4 else if q = M + 5 then 7 else if q = M + 6 then 8 else if q < a then 5 else if q < b then 6 else if q < c then 9 else 10
theorem labP5 {M a b c q : Nat} (h : M + 8 ≤ q) (h1 : q < a) : labP M a b c q = 5 := by unfold labP; (repeat' split) <;> omega
theorem labP6 {M a b c q : Nat} (h : M + 8 ≤ q) (h1 : a ≤ q) (h2 : q < b) : labP M a b c q = 6 := by unfold labP; (repeat' split) <;> omega
theorem labP9 {M a b c q : Nat} (h : M + 8 ≤ q) (h0 : a ≤ q) (h1 : b ≤ q) (h2 : q < c) : labP M a b c q = 9 := by unfold labP; (repeat' split) <;> omega
theorem labP10 {M a b c q : Nat} (h : M + 8 ≤ q) (h0 : a ≤ q) (h1 : b ≤ q) (h2 : c ≤ q) : labP M a b c q = 10 := by unfold labP; (repeat' split) <;> omega
end Go.Proofs.Ytackdnelcpbfjaa
namespace Go.Proofs.Ytackdnelcpbfjaa
set_option maxRecDepth 20000
set_option linter.unusedSimpArgs false
set_option linter.unusedVariables false
set_option linter.unusedSectionVars false
set_option linter.defProp false
set_option maxRecDepth 20000
open Go Go.Ab
namespace tyG6
def tyF := And.intro @tq2 (And.intro @tq3 (And.intro @tq9 (And.intro @tq22 (And.intro @tq23 (And.intro @tq25 (And.intro @tq26 (And.intro @tq35 (And.intro @tq36 (And.intro @tq37 (And.intro @tq39 (And.intro @tq41 (And.intro @tq44 (And.intro @tq46 (And.intro @tq80 (And.intro @bin_quo (And.intro @nms2 (And.intro @Nat.zero_mul (@Nat.one_mul))))))))))))))))))
end tyG6
open tyG6
noncomputable def code11 : { c : SC // slim 61 (Try.f11.body.getD .skip) = c } := by
  refine ⟨?_, ?_⟩
  rotate_left
  · simp only [Try.f11, Option.getD_some, slim, slimR, slimL, slimD, slimG, Nat.blt, Nat.ble]
    rfl
def StAll (lG : List En) : Prop := ∀ (f : Int) (k deep : Nat), 4 ≤ deep + k → deep ≤ 3 → StmtSpec lG k f deep
theorem stAll {lG : List En} (hG : GenL lG) : StAll lG := stmt_all hG
def genB1 (L : List Int) : List St × Sd := stmtsG 0 4 0 5 ((nextG L).2, 0)
def genV1 (L : List Int) : Ex × List Int := exprG 0 4 1 (genB1 L).2.1
def genB2 (L : List Int) : List St × Sd := stmtsG 1 3 1 3 ((genV1 L).2, (genB1 L).2.2)
def genV2 (L : List Int) : Ex × List Int := exprG 1 4 1 (genB2 L).2.1
def genF (L : List Int) : Fu := ⟨[102], [[120], [121]], [[105], [106]], (genB1 L).1, (genV1 L).1⟩
def genGf (L : List Int) : Fu := ⟨[103], [[110]], [[105]], (genB2 L).1, (genV2 L).1⟩
def genAr (L : List Int) : List Ar := [⟨[97], 1 + pickG (nextG L).1 4⟩, ⟨[98], 1 + pickG (w64 ((nextG L).1.tdiv 4)) 4⟩]
def genP (l : List Int) : Pr := ⟨genAr (l.take 60), [genF (l.take 60), genGf (l.take 60)]⟩
/-- A program in memory: a row of arrays, a row of two functions. -/
structure ProgM (lo n : Nat) (H : Hp) (p : Pr) (ra rf : Nat) (x y : Int) (f g : Fu) (cf cg : List AV) : Prop where
  ep : p = ⟨[⟨[97], x⟩, ⟨[98], y⟩], [f, g]⟩
  ga : H.get ra = some (.cells [.str [97], .int .i64 x, .str [98], .int .i64 y] 0 true)
  gf : H.get rf = some (.cells (cf ++ cg) 0 true)
  la : lo ≤ ra ∧ ra < H.next
  lf : lo ≤ rf ∧ rf < H.next
  ne : ra ≠ rf
  lcf : cf.length = 9
  lcg : cg.length = 9
  wf : CellsW (fun q => lo ≤ q ∧ q ≠ ra ∧ q ≠ rf) n H cf f.cells
  wg : CellsW (fun q => lo ≤ q ∧ q ≠ ra ∧ q ≠ rf) n H cg g.cells
theorem fu_node {S : Nat → Prop} {n : Nat} {H : Hp} (nm : List UInt8) {p l b : AV} {v : List AV} {f : Fu} (hn : f.name = nm) (h1 : RdW S (n + 1) H p (lstS f.params)) (h2 : RdW S (n + 1) H l (lstS f.locals)) (h3 : RdW S (n + 1) H b (.lst (f.body.map St.cells))) (h4 : CellsW S (n + 1) H v f.value.cells) : CellsW S (n + 1) H ([.str nm, p, l, b] ++ v) f.cells := by
  have e : f.cells = [.str f.name, lstS f.params, lstS f.locals, .lst (f.body.map St.cells)] ++ f.value.cells := by rw [Ex.cells_eq]; rfl
  rw [e, hn]
  exact (CellsW.cons (.str _) (.cons h1 (.cons h2 (.cons h3 .nil)))).append h4
/-- Strings in a block of their own. -/
theorem rd_strs {S : Nat → Prop} {n : Nat} {H : Hp} {r imm : Nat} {tip : Bool} (l : List (List UInt8)) (hS : S r) (hr : r < H.next) (hg : H.get r = some (.cells (l.map .str) imm tip)) (hi : imm ≤ l.length) : RdW S (n + 2) H (.sl r 0 l.length 1) (lstS l) := by
  have := RdW.rows (n := n + 1) (a := l.map fun s => [AV.str s]) (z := 1) hS hr (by rw [strs_flat]; exact hg) (by rw [strs_flat]; simpa using hi) (RowsW.strs l)
  rw [List.length_map] at this
  exact this
theorem bsI0 (H : Hp) : buildSliceA Try.prog H 26 0 [] = some (.sl H.next 0 0 1, H.alloc (.cells [] 0 true)) := by kernel_rfl
theorem bldRd (v : Nat) (n : Nat) : buildA Try.prog 80 [(0, .sl v 0 n 1)] = some (.agg [.sl v 0 n 1, .int .i64 0]) := by kernel_rfl
theorem bldAr (s : List UInt8) (n : Int) : buildA Try.prog 44 [(0, .str s), (1, .int .i64 n)] = some (.agg [.str s, .int .i64 n]) := by kernel_rfl
theorem bsA2 (H : Hp) (a b : List UInt8) (x y : Int) : buildSliceA Try.prog H 22 2 [(0, .agg [.str a, .int .i64 x]), (1, .agg [.str b, .int .i64 y])] = some (.sl H.next 0 2 2, H.alloc (.cells [.str a, .int .i64 x, .str b, .int .i64 y] 0 true)) := by kernel_rfl
theorem bldP0 (r n : Nat) : buildA Try.prog 25 [(0, .sl r 0 n 2)] = some (.agg [.sl r 0 n 2, .nilS]) := by kernel_rfl
theorem bldFu (s : List UInt8) (r n q m : Nat) : buildA Try.prog 41 [(0, .str s), (1, .sl r 0 n 1), (2, .sl q 0 m 1)] = some (.agg [.str s, .sl r 0 n 1, .sl q 0 m 1, .nilS, .int .i64 0, .int .i64 0, .str [], .int .i64 0, .nilS]) := by kernel_rfl
theorem bsF2 (H : Hp) (a0 a1 a2 a3 a4 a5 a6 a7 a8 b0 b1 b2 b3 b4 b5 b6 b7 b8 : AV) : buildSliceA Try.prog H 23 2 [(0, .agg [a0, a1, a2, a3, a4, a5, a6, a7, a8]), (1, .agg [b0, b1, b2, b3, b4, b5, b6, b7, b8])] = some (.sl H.next 0 2 9, H.alloc (.cells [a0, a1, a2, a3, a4, a5, a6, a7, a8, b0, b1, b2, b3, b4, b5, b6, b7, b8] 0 true)) := by kernel_rfl
theorem bsS1' (H : Hp) (s : List UInt8) : buildSliceA Try.prog H 35 1 [(0, .str s)] = some (.sl H.next 0 1 1, H.alloc (.cells [.str s] 0 true)) := by kernel_rfl
theorem aggP2 (a b : AV) : aggA 2 [a, b] = some (.agg [a, b]) := rfl
theorem int_flat (l : List Int) : (l.map fun n => [AV.int .i64 n]).flatten = l.map fun n => AV.int .i64 n := by
  induction l with
  | nil => rfl
  | cons a l ih => simp only [List.map_cons, List.flatten_cons, ih]; rfl
/-- The seeds, copied. -/
theorem app_seeds {H : Hp} {q : Nat} (l : List Int) (hg : H.get q = some (.cells [] 0 true)) (hq : q < H.next) (hl : l.length ≤ 60) :
    ∃ v H', appendA Try.prog false H 26 26 (.sl q 0 0 1) (.lst (l.map fun n => [AV.int .i64 n])) = some (v, H') ∧ (∃ b imm, v = .sl b 0 l.length 1 ∧ H'.get b = some (.cells (l.map fun n => .int .i64 n) imm true) ∧ b < H'.next ∧ (b = q ∨ b = H.next)) ∧ H.next ≤ H'.next ∧ ∀ k, k < H.next → k ≠ q → H'.get k = H.get k := by
  have hmr : maxRoom = 70368744177664 := rfl
  have hfl : (l.map fun n => [AV.int .i64 n]).flatten = l.map fun n => AV.int .i64 n := int_flat l
  have hx : srcCells H 1 (.lst (l.map fun n => [AV.int .i64 n])) = some (l.length, l.map fun n => AV.int .i64 n) := by
    have e : srcCells H 1 (.lst (l.map fun n => [AV.int .i64 n])) = if ((l.map fun n => [AV.int .i64 n]).all fun row => row.length == 1) then some ((l.map fun n => [AV.int .i64 n]).length, (l.map fun n => [AV.int .i64 n]).flatten) else none := rfl
    rw [e, if_pos (by simp), hfl, List.length_map]
  have hone : (l.map fun n => AV.int .i64 n).all AV.one = true := by simp [AV.one]
  cases l with
  | nil => 
    refine ⟨.sl q 0 0 1, H, ?_, ⟨q, 0, rfl, hg, hq, .inl rfl⟩, Nat.le_refl _, fun _ _ _ => rfl⟩
    · simp only [appendA, Try.underlying26, sz3, bt3, zr3, show srcType Try.prog 26 = true by kernel_rfl, hx, List.length_nil]
  | cons a l =>
    simp only [List.length_cons] at hx hl
    have htr : trimA false H 1 (.sl q 0 0 1) = H := by
      unfold trimA
      simp only [hg]
      rfl
    refine ⟨.sl H.next 0 (0 + (l.length + 1)) 1, (H.kill q).alloc (.cells ([] ++ (a :: l).map fun n => .int .i64 n) (0 - 0) true), ?_, ⟨H.next, 0, by simp, ?_, Nat.lt_succ_self _, .inr rfl⟩, Nat.le_succ _, fun k hk hno => ?_⟩
    · simp only [appendA, Try.underlying26, sz3, bt3, zr3, show srcType Try.prog 26 = true by kernel_rfl, hx, hone, htr, and_self, if_true, List.length_cons, List.length_nil, appendOnto, hg, Nat.zero_add, Nat.mul_one, List.drop_nil, Bool.false_eq_true, if_false]
      rw [if_pos ⟨by rw [hmr]; omega, by rw [hmr]; omega, by simp⟩]
    · show ((H.kill q).alloc _).get (H.kill q).next = _
      rw [Hp.get_alloc, if_pos rfl]; simp
    · rw [Hp.get_alloc, if_neg (by simp only [Hp.next_kill]; omega), Hp.get_kill, if_neg hno]
theorem slice_seeds (l : List Int) : sliceA Try.prog 26 (.lst (l.map fun n => [AV.int .i64 n])) none (some (.int .i64 (min (l.length : Int) 60))) = some (.lst ((l.take 60).map fun n => [AV.int .i64 n])) := by
  have e : min (l.length : Int) 60 = ((min l.length 60 : Nat) : Int) := by omega
  rw [e]
  simp only [sliceA, Try.underlying26, sz3]
  show (if 0 ≤ min l.length 60 ∧ min l.length 60 ≤ (l.map fun n => [AV.int .i64 n]).length then _ else none) = _
  rw [if_pos ⟨Nat.zero_le _, by simp; omega⟩]
  have e2 : ((l.map fun n => [AV.int .i64 n]).drop 0).take (min l.length 60 - 0) = (l.take 60).map fun n => [AV.int .i64 n] := by
    rw [List.drop_zero, Nat.sub_zero, ← List.map_take, List.take_eq_take_iff.2]
    omega
  rw [e2]
  cases l.take 60 with
  | nil => rfl
  | cons a l => rfl
/-- The blocks of a program under way. -/
structure AtP (n0 M : Nat) (x y : Int) (H : Hp) : Prop where
  lt : n0 < M ∧ M + 8 ≤ H.next
  rs : H.get n0 = some (.cells [.nilS, .nilS] 0 true)
  ra : H.get (M + 1) = some (.cells [.str [97], .int .i64 x, .str [98], .int .i64 y] 0 true)
  t5 : H.get (M + 2) = some (.cells [.sl (M + 1) 0 2 2, .sl (M + 7) 0 2 9] 0 true)
  p1 : H.get (M + 3) = some (.cells [.str [120], .str [121]] 0 true)
  l1 : H.get (M + 4) = some (.cells [.str [105], .str [106]] 0 true)
  p2 : H.get (M + 5) = some (.cells [.str [110]] 0 true)
  l2 : H.get (M + 6) = some (.cells [.str [105]] 0 true)
theorem AtP.keep {n0 M : Nat} {x y : Int} {H H' : Hp} (h : AtP n0 M x y H) (hn : H.next ≤ H'.next) (hg : ∀ q, (q = n0 ∨ M + 1 ≤ q ∧ q < M + 7) → H'.get q = H.get q) : AtP n0 M x y H' := by
  obtain ⟨⟨lt1, lt2⟩, rs, ra, t5, p1, l1, p2, l2⟩ := h
  exact ⟨⟨lt1, by omega⟩, by rw [hg _ (.inl rfl)]; exact rs, by rw [hg _ (by omega)]; exact ra, by rw [hg _ (by omega)]; exact t5, by rw [hg _ (by omega)]; exact p1, by rw [hg _ (by omega)]; exact l1, by rw [hg _ (by omega)]; exact p2, by rw [hg _ (by omega)]; exact l2⟩
set_option maxRecDepth 100000 in
set_option maxHeartbeats 16000000 in
theorem program_wp {lG : List En} (hG : GenL lG) (hst : StAll lG) (l : List Int) (hl : l.length < 2 ^ 63) (H : Hp) :
    WpCall Try.prog (cfgN pls lG) 11 [.lst (l.map fun n => [AV.int .i64 n])] H fun v H' => ∃ ra rf x y cf cg, v = .agg [.sl ra 0 2 2, .sl rf 0 2 9] ∧ ProgM H.next 14 H' (genP l) ra rf x y (genF (l.take 60)) (genGf (l.take 60)) cf cg ∧ H.next ≤ H'.next ∧ (∀ q, q < H.next → H'.get q = H.get q) ∧ H.next < ra ∧ ∃ pt pf lf bf vf pg lg bg vg, cf = fnC [102] pf lf bf vf ∧ cg = fnC [103] pg lg bg vg ∧ ProgL pt 14 H' ra rf x y (genF (l.take 60)) (genGf (l.take 60)) pf lf bf vf pg lg bg vg ∧ genAr (l.take 60) = [⟨[97], x⟩, ⟨[98], y⟩] ∧ ∀ q, q < H.next → pt q = 0 := by
  have hw : Plain (cfgN pls lG) 11 := hG.plain (by rfl)
  have hkeep : (cfgN pls lG).keep 11 = false := rfl
  have hnx : Plain (cfgN pls lG) 31 := hG.plain (by rfl)
  have hs := slice_seeds l
  have hL60 : (l.take 60).length ≤ 60 := by rw [List.length_take]; omega
  have hq4 : (4 : Int) ≠ 0 := by decide
  have hgP : genP l = ⟨genAr (l.take 60), [genF (l.take 60), genGf (l.take 60)]⟩ := rfl
  generalize genP l = P0 at *
  refine WpCall.slim (M := 61) (rs := [.cell 2 25]) (hw.call _) hw.ice hw.froz Try.func11 rfl rfl code11.2 rfl ?_; dsimp only [code11, envOf, Nat.reduceAdd]
  have gh0 := @bsI0
  repeat' (first
     | (apply Rx.nl ?_; clear hK K) | apply Rx.o ?_ | apply Rx.on ?_ | apply Wp.seq ?_ | (apply Wp.ops' fun K hK => ?_) | (apply Rx.dT 5 [(1, 3), (1, 6)] fun K hK => ?_) | (apply Rx.dT 6 [(1, 3), (1, 6)] fun K hK => ?_) | (apply Rx.dT 7 [(1, 3), (1, 6)] fun K hK => ?_) | (apply Rx.dT 8 [(1, 3), (1, 6)] fun K hK => ?_) | (apply Rx.nq ?_; try intro _) | (apply Rx.nt ?_ ?_ <;> clear hK K) | apply WpT.step ?_ | apply WpT.step0 rfl ?_ | apply Rx.sk ?_ | apply Rx.rt ?_)
  generalize l.take 60 = L at *
  have gq : ((H.alloc (.cells [.nilS, .nilS] 0 true)).alloc (.cells [] 0 true)).get (H.next + 1) = some (.cells [] 0 true) := by rw [Hp.get_alloc, if_pos (by rfl)]
  obtain ⟨v, H2, a2, ⟨b, imm, rfl, gb, hb, hb2⟩, n2, o2⟩ := app_seeds L gq (Nat.lt_succ_self _) hL60
  simp only [Hp.next_alloc] at n2 o2 hb2
  refine WpL.append eV eV (by rw [hkeep]; exact a2) ?_
  have gh0 := @bldRd
  repeat' (first
     | (apply Rx.nl ?_; clear hK K) | apply Rx.o ?_ | apply Rx.on ?_ | apply Wp.seq ?_ | (apply Wp.ops' fun K hK => ?_) | (apply Rx.dT 5 [(1, 3), (1, 6)] fun K hK => ?_) | (apply Rx.dT 6 [(1, 3), (1, 6)] fun K hK => ?_) | (apply Rx.dT 7 [(1, 3), (1, 6)] fun K hK => ?_) | (apply Rx.dT 8 [(1, 3), (1, 6)] fun K hK => ?_) | (apply Rx.nq ?_; try intro _) | (apply Rx.nt ?_ ?_ <;> clear hK K) | apply WpT.step ?_ | apply WpT.step0 rfl ?_ | apply Rx.sk ?_ | apply Rx.rt ?_)
  have hrd3 : RdOk (H2.next + 1) (H2.alloc (.cells [.sl b 0 L.length 1, .int .i64 0] 0 true)) H2.next L 0 := ⟨Nat.lt_succ_self _, Nat.le_refl _, _, by rw [Hp.get_alloc, if_pos rfl], .inr ⟨b, 0, _, imm, rfl, by rw [Hp.get_alloc, if_neg (by omega)]; exact gb, rfl, by omega, by omega⟩⟩
  have g3 : (H2.alloc (.cells [.sl b 0 L.length 1, .int .i64 0] 0 true)).get H.next = some (.cells [.nilS, .nilS] 0 true) := by rw [Hp.get_alloc, if_neg (by omega), o2 _ (by omega) (by omega), Hp.get_alloc, if_neg (by simp only [Hp.next_alloc]; omega), Hp.get_alloc, if_pos rfl]
  have o3 : ∀ q, q < H.next → (H2.alloc (.cells [.sl b 0 L.length 1, .int .i64 0] 0 true)).get q = H.get q := fun q hq => by rw [Hp.get_alloc, if_neg (by omega), o2 _ (by omega) (by omega), Hp.get_alloc, if_neg (by simp only [Hp.next_alloc]; omega), Hp.get_alloc, if_neg (by omega)]
  generalize hH3 : H2.alloc (.cells [.sl b 0 L.length 1, .int .i64 0] 0 true) = H3 at *
  have n3 : H3.next = H2.next + 1 := by rw [← hH3]; rfl
  clear hH3 gb hb hb2 a2 gq o2
  refine WpL.call rfl eVk eAk ?_; simp only [List.cons_append, List.nil_append, List.append_nil]
  refine WpCall.mono ?_ (next_wp hnx hrd3 (by omega))
  rintro v H4 ⟨rfl, hr4, n4, o4⟩
  have g4 : H4.get H.next = some (.cells [.nilS, .nilS] 0 true) := by rw [o4 _ (by omega)]; exact g3
  have o4' : ∀ q, q < H.next → H4.get q = H.get q := fun q hq => by rw [o4 _ (by omega)]; exact o3 q hq
  clear o4 o3 g3 hrd3
  have hL1 := nextG_len L
  have hA : genAr L = [⟨[97], 1 + pickG (nextG L).1 4⟩, ⟨[98], 1 + pickG (w64 ((nextG L).1.tdiv 4)) 4⟩] := rfl
  have hp1 := pickG_range (n := (nextG L).1) (m := 4) (by omega) (by omega)
  have hp2 := pickG_range (n := w64 ((nextG L).1.tdiv 4)) (m := 4) (by omega) (by omega)
  have hB1 : genB1 L = stmtsG 0 4 0 5 ((nextG L).2, 0) := rfl
  have hV1 : genV1 L = exprG 0 4 1 (genB1 L).2.1 := rfl
  have hB2 : genB2 L = stmtsG 1 3 1 3 ((genV1 L).2, (genB1 L).2.2) := rfl
  have hV2 : genV2 L = exprG 1 4 1 (genB2 L).2.1 := rfl
  have hF1 : genF L = ⟨[102], [[120], [121]], [[105], [106]], (genB1 L).1, (genV1 L).1⟩ := rfl
  have hF2 : genGf L = ⟨[103], [[110]], [[105]], (genB2 L).1, (genV2 L).1⟩ := rfl
  have hl1 : (genB1 L).2.1.length ≤ (nextG L).2.length := by rw [hB1]; exact Nat.le_trans (stsG_len (stmtG_len 0 4 0) _ _) (nextG_len _)
  have hl2 : (genV1 L).2.length ≤ (genB1 L).2.1.length := exprG_len 0 4 1 _
  have hl3 : (genB2 L).2.1.length ≤ (genV1 L).2.length := by rw [hB2]; exact Nat.le_trans (stsG_len (stmtG_len 1 3 1) _ _) (nextG_len _)
  generalize genB1 L = B1 at *
  generalize genV1 L = V1 at *
  generalize genB2 L = B2 at *
  generalize genV2 L = V2 at *
  generalize genF L = Ff at *
  generalize genGf L = Fg at *
  generalize genAr L = Aa at *
  generalize (nextG L).1 = n at *
  generalize (nextG L).2 = L1 at *
  have hw1 : IntKind.wrap .i64 (1 + pickG n 4) = 1 + pickG n 4 := i64_id (by omega) (by omega)
  have hw2 : IntKind.wrap .i64 (1 + pickG (w64 (n.tdiv 4)) 4) = 1 + pickG (w64 (n.tdiv 4)) 4 := i64_id (by omega) (by omega)
  have hw3 : IntKind.wrap .i64 (n.tdiv 4) = w64 (n.tdiv 4) := rfl
  dsimp only [setO]
  have gh0 := @bldAr
  have gh1 := @bsA2
  have gh2 := @bldP0
  have gh3 := @bsS1'
  have gh4 := @bldFu
  have gh5 := @bsF2
  repeat' (first
     | (apply Rx.nl ?_; clear hK K) | apply Rx.o ?_ | apply Rx.on ?_ | (apply Rx.call ?_; first | refine Rx.k (pick_en hG.pick _ _ (by decide) _) ?_) | apply Wp.seq ?_ | (apply Wp.ops' fun K hK => ?_) | (apply Rx.dT 5 [(1, 3), (1, 6)] fun K hK => ?_) | (apply Rx.dT 6 [(1, 3), (1, 6)] fun K hK => ?_) | (apply Rx.dT 7 [(1, 3), (1, 6)] fun K hK => ?_) | (apply Rx.dT 8 [(1, 3), (1, 6)] fun K hK => ?_) | (apply Rx.nq ?_; try intro _) | (apply Rx.nt ?_ ?_ <;> clear hK K) | apply WpT.step ?_ | apply WpT.step0 rfl ?_ | apply Rx.sk ?_ | apply Rx.rt ?_)
  generalize hx : 1 + pickG n 4 = x at *
  generalize hy : 1 + pickG (w64 (n.tdiv 4)) 4 = y at *
  rename_i H4
  have hne : ∀ i, (H.next == H2.next + i) = false := fun i => ne_beq (by omega)
  have hmn : H.next < H2.next := by omega
  generalize hHs : Hp.set (Hp.alloc _ _) _ _ = Hs
  have hat : AtP H.next H2.next x y Hs := by
    rw [← hHs]
    refine ⟨⟨hmn, by simp only [Hp.next_set, Hp.next_alloc]; omega⟩, ?_, ?_, ?_, ?_, ?_, ?_, ?_⟩
    · repeat (first | rw [Hp.get_set, if_neg (by (try simp only [Hp.next_alloc, Hp.next_set]); omega)] | rw [Hp.get_alloc, if_neg (by (try simp only [Hp.next_alloc, Hp.next_set]); omega)])
      exact g4
    · (repeat (first | rw [Hp.get_set, if_neg (by (try simp only [Hp.next_alloc, Hp.next_set]); omega)] | rw [Hp.get_alloc, if_neg (by (try simp only [Hp.next_alloc, Hp.next_set]); omega)])); (first | rw [Hp.get_set, if_pos (by first | rfl | ((try simp only [Hp.next_alloc, Hp.next_set]); omega))] | rw [Hp.get_alloc, if_pos (by first | rfl | ((try simp only [Hp.next_alloc, Hp.next_set]); omega))])
    · (repeat (first | rw [Hp.get_set, if_neg (by (try simp only [Hp.next_alloc, Hp.next_set]); omega)] | rw [Hp.get_alloc, if_neg (by (try simp only [Hp.next_alloc, Hp.next_set]); omega)])); (first | rw [Hp.get_set, if_pos (by first | rfl | ((try simp only [Hp.next_alloc, Hp.next_set]); omega))] | rw [Hp.get_alloc, if_pos (by first | rfl | ((try simp only [Hp.next_alloc, Hp.next_set]); omega))])
    · (repeat (first | rw [Hp.get_set, if_neg (by (try simp only [Hp.next_alloc, Hp.next_set]); omega)] | rw [Hp.get_alloc, if_neg (by (try simp only [Hp.next_alloc, Hp.next_set]); omega)])); (first | rw [Hp.get_set, if_pos (by first | rfl | ((try simp only [Hp.next_alloc, Hp.next_set]); omega))] | rw [Hp.get_alloc, if_pos (by first | rfl | ((try simp only [Hp.next_alloc, Hp.next_set]); omega))])
    · (repeat (first | rw [Hp.get_set, if_neg (by (try simp only [Hp.next_alloc, Hp.next_set]); omega)] | rw [Hp.get_alloc, if_neg (by (try simp only [Hp.next_alloc, Hp.next_set]); omega)])); (first | rw [Hp.get_set, if_pos (by first | rfl | ((try simp only [Hp.next_alloc, Hp.next_set]); omega))] | rw [Hp.get_alloc, if_pos (by first | rfl | ((try simp only [Hp.next_alloc, Hp.next_set]); omega))])
    · (repeat (first | rw [Hp.get_set, if_neg (by (try simp only [Hp.next_alloc, Hp.next_set]); omega)] | rw [Hp.get_alloc, if_neg (by (try simp only [Hp.next_alloc, Hp.next_set]); omega)])); (first | rw [Hp.get_set, if_pos (by first | rfl | ((try simp only [Hp.next_alloc, Hp.next_set]); omega))] | rw [Hp.get_alloc, if_pos (by first | rfl | ((try simp only [Hp.next_alloc, Hp.next_set]); omega))])
    · (repeat (first | rw [Hp.get_set, if_neg (by (try simp only [Hp.next_alloc, Hp.next_set]); omega)] | rw [Hp.get_alloc, if_neg (by (try simp only [Hp.next_alloc, Hp.next_set]); omega)])); (first | rw [Hp.get_set, if_pos (by first | rfl | ((try simp only [Hp.next_alloc, Hp.next_set]); omega))] | rw [Hp.get_alloc, if_pos (by first | rfl | ((try simp only [Hp.next_alloc, Hp.next_set]); omega))])
  have gf : Hs.get (H2.next + 7) = some (.cells [.str [102], .sl (H2.next + 3) 0 2 1, .sl (H2.next + 4) 0 2 1, .nilS, .int .i64 0, .int .i64 0, .str [], .int .i64 0, .nilS, .str [103], .sl (H2.next + 5) 0 1 1, .sl (H2.next + 6) 0 1 1, .nilS, .int .i64 0, .int .i64 0, .str [], .int .i64 0, .nilS] 0 true) := by
    rw [← hHs]; (repeat (first | rw [Hp.get_set, if_neg (by (try simp only [Hp.next_alloc, Hp.next_set]); omega)] | rw [Hp.get_alloc, if_neg (by (try simp only [Hp.next_alloc, Hp.next_set]); omega)])); (first | rw [Hp.get_set, if_pos (by first | rfl | ((try simp only [Hp.next_alloc, Hp.next_set]); omega))] | rw [Hp.get_alloc, if_pos (by first | rfl | ((try simp only [Hp.next_alloc, Hp.next_set]); omega))])
  have olds : ∀ q, q < H2.next + 1 → Hs.get q = H4.get q := fun q hq => by
    rw [← hHs]
    repeat (first | rw [Hp.get_set, if_neg (by omega)] | rw [Hp.get_alloc, if_neg (by (try simp only [Hp.next_alloc, Hp.next_set]); omega)])
  have hns : Hs.next = H2.next + 8 := by rw [← hHs]; simp only [Hp.next_set, Hp.next_alloc]; omega
  have hrs : RdOk (H2.next + 1) Hs H2.next L1 0 := hr4.keep (by omega) olds
  have os : ∀ q, q < H.next → Hs.get q = H.get q := fun q hq => by rw [olds q (by omega)]; exact o4' q hq
  clear olds hHs hr4 g4 o4'
  have h02 : (0 : Nat) < 2 := by decide
  have h12 : (1 : Nat) < 2 := by decide
  refine WpL.call rfl eVk eAk ?_; simp only [List.cons_append, List.nil_append, List.append_nil]
  refine WpCall.mono ?_ (stmts_wp hG (hst 0 4 0 (by omega) (by omega)) 5 (by omega) (by omega) (H2.next + 1) Hs H2.next (L1, 0) hrs (by simp only []; omega))
  rintro v1 H5 ⟨hrow1, hr5, n5, o5⟩
  rw [← hB1] at hrow1 hr5
  obtain ⟨t1, t2⟩ := hrow1.one
  have hat5 := hat.keep n5 fun q hq => o5 q (by omega) (by omega)
  have g5t := hat5.t5
  have g5f : H5.get (H2.next + 7) = some (.cells [.str [102], .sl (H2.next + 3) 0 2 1, .sl (H2.next + 4) 0 2 1, .nilS, .int .i64 0, .int .i64 0, .str [], .int .i64 0, .nilS, .str [103], .sl (H2.next + 5) 0 1 1, .sl (H2.next + 6) 0 1 1, .nilS, .int .i64 0, .int .i64 0, .str [], .int .i64 0, .nilS] 0 true) := by rw [o5 _ (by omega) (by omega)]; exact gf
  have gst := hat.t5
  dsimp only [setO]
  repeat' (first
     | (apply Rx.nl ?_; clear hK K) | apply Ry.o ?_ | apply Ry.on ?_ | apply Wp.seq ?_ | (apply Wp.ops' fun K hK => ?_) | (apply Rx.dT 5 [(1, 3), (1, 6)] fun K hK => ?_) | (apply Rx.dT 6 [(1, 3), (1, 6)] fun K hK => ?_) | (apply Rx.dT 7 [(1, 3), (1, 6)] fun K hK => ?_) | (apply Rx.dT 8 [(1, 3), (1, 6)] fun K hK => ?_) | (apply Rx.nq ?_; try intro _) | (apply Rx.nt ?_ ?_ <;> clear hK K) | apply WpT.step ?_ | apply WpT.step0 rfl ?_ | apply Rx.sk ?_ | apply Rx.rt ?_)
  · exact eK
  have n5' := n5
  generalize hHa : Hp.set H5 (H2.next + 7) _ = Ha
  have nHa : Ha.next = H5.next := by rw [← hHa]; rfl
  have oHa : ∀ q, q ≠ H2.next + 7 → Ha.get q = H5.get q := fun q hq => by rw [← hHa, Hp.get_set, if_neg hq]
  have gfHa : Ha.get (H2.next + 7) = some (.cells [.str [102], .sl (H2.next + 3) 0 2 1, .sl (H2.next + 4) 0 2 1, v1, .int .i64 0, .int .i64 0, .str [], .int .i64 0, .nilS, .str [103], .sl (H2.next + 5) 0 1 1, .sl (H2.next + 6) 0 1 1, .nilS, .int .i64 0, .int .i64 0, .str [], .int .i64 0, .nilS] 0 true) := by rw [← hHa, Hp.get_set, if_pos rfl]
  clear hHa
  have hatHa := hat5.keep (Nat.le_of_eq nHa.symm) fun q hq => oHa q (by omega)
  have gtHa := hatHa.t5
  have hrHa := hr5.keep (Nat.le_of_eq nHa.symm) fun q hq => oHa q (by omega)
  have hMl := hat.lt
  repeat' (first
     | (apply Rx.nl ?_; clear hK K) | apply Ry.o ?_ | apply Ry.on ?_ | apply Wp.seq ?_ | (apply Wp.ops' fun K hK => ?_) | (apply Rx.dT 5 [(1, 3), (1, 6)] fun K hK => ?_) | (apply Rx.dT 6 [(1, 3), (1, 6)] fun K hK => ?_) | (apply Rx.dT 7 [(1, 3), (1, 6)] fun K hK => ?_) | (apply Rx.dT 8 [(1, 3), (1, 6)] fun K hK => ?_) | (apply Rx.nq ?_; try intro _) | (apply Rx.nt ?_ ?_ <;> clear hK K) | apply WpT.step ?_ | apply WpT.step0 rfl ?_ | apply Rx.sk ?_ | apply Rx.rt ?_)
  refine WpL.call rfl eVk eAk ?_; simp only [List.cons_append, List.nil_append, List.append_nil]
  refine WpCall.mono ?_ (exprG_wp hG 4 0 1 (by omega) (by omega) (H2.next + 1) Ha H2.next _ _ hrHa (by omega))
  rintro _ H6 ⟨⟨cs, rfl, hc1, hc2, hc3⟩, hrH6, nH6, oH6⟩
  rw [← hV1] at hc3 hrH6
  obtain ⟨p0, p1, p2, p3, p4, rfl⟩ := len5 hc1
  obtain ⟨u0, u1, u2, u3, u4⟩ := all5 hc2
  have hatH6 := hatHa.keep nH6 fun q hq => oH6 q (by omega) (by omega)
  have gtH6 := hatH6.t5
  have gfH6 : H6.get (H2.next + 7) = some (.cells [.str [102], .sl (H2.next + 3) 0 2 1, .sl (H2.next + 4) 0 2 1, v1, .int .i64 0, .int .i64 0, .str [], .int .i64 0, .nilS, .str [103], .sl (H2.next + 5) 0 1 1, .sl (H2.next + 6) 0 1 1, .nilS, .int .i64 0, .int .i64 0, .str [], .int .i64 0, .nilS] 0 true) := by rw [oH6 _ (by omega) (by omega)]; exact gfHa
  dsimp only [setO]
  repeat' (first
     | (apply Rx.nl ?_; clear hK K) | apply Ry.o ?_ | apply Ry.on ?_ | apply Wp.seq ?_ | (apply Wp.ops' fun K hK => ?_) | (apply Rx.dT 5 [(1, 3), (1, 6)] fun K hK => ?_) | (apply Rx.dT 6 [(1, 3), (1, 6)] fun K hK => ?_) | (apply Rx.dT 7 [(1, 3), (1, 6)] fun K hK => ?_) | (apply Rx.dT 8 [(1, 3), (1, 6)] fun K hK => ?_) | (apply Rx.nq ?_; try intro _) | (apply Rx.nt ?_ ?_ <;> clear hK K) | apply WpT.step ?_ | apply WpT.step0 rfl ?_ | apply Rx.sk ?_ | apply Rx.rt ?_)
  · exact eK
  generalize hHa : Hp.set H6 (H2.next + 7) _ = Hb
  have nHb : Hb.next = H6.next := by rw [← hHa]; rfl
  have oHb : ∀ q, q ≠ H2.next + 7 → Hb.get q = H6.get q := fun q hq => by rw [← hHa, Hp.get_set, if_neg hq]
  have gfHb : Hb.get (H2.next + 7) = some (.cells [.str [102], .sl (H2.next + 3) 0 2 1, .sl (H2.next + 4) 0 2 1, v1, p0, p1, p2, p3, p4, .str [103], .sl (H2.next + 5) 0 1 1, .sl (H2.next + 6) 0 1 1, .nilS, .int .i64 0, .int .i64 0, .str [], .int .i64 0, .nilS] 0 true) := by rw [← hHa, Hp.get_set, if_pos rfl]
  clear hHa
  have hatHb := hatH6.keep (Nat.le_of_eq nHb.symm) fun q hq => oHb q (by omega)
  have gtHb := hatHb.t5
  have hrHb := hrH6.keep (Nat.le_of_eq nHb.symm) fun q hq => oHb q (by omega)
  repeat' (first
     | (apply Rx.nl ?_; clear hK K) | apply Ry.o ?_ | apply Ry.on ?_ | apply Wp.seq ?_ | (apply Wp.ops' fun K hK => ?_) | (apply Rx.dT 5 [(1, 3), (1, 6)] fun K hK => ?_) | (apply Rx.dT 6 [(1, 3), (1, 6)] fun K hK => ?_) | (apply Rx.dT 7 [(1, 3), (1, 6)] fun K hK => ?_) | (apply Rx.dT 8 [(1, 3), (1, 6)] fun K hK => ?_) | (apply Rx.nq ?_; try intro _) | (apply Rx.nt ?_ ?_ <;> clear hK K) | apply WpT.step ?_ | apply WpT.step0 rfl ?_ | apply Rx.sk ?_ | apply Rx.rt ?_)
  refine WpL.call rfl eVk eAk ?_; simp only [List.cons_append, List.nil_append, List.append_nil]
  refine WpCall.mono ?_ (stmts_wp hG (hst 1 3 1 (by omega) (by omega)) 3 (by omega) (by omega) (H2.next + 1) Hb H2.next (V1.2, B1.2.2) hrHb (by simp only []; omega))
  rintro v2 H7 ⟨hrow2, hrH7, nH7, oH7⟩
  rw [← hB2] at hrow2 hrH7
  obtain ⟨s1, s2⟩ := hrow2.one
  have hatH7 := hatHb.keep nH7 fun q hq => oH7 q (by omega) (by omega)
  have gtH7 := hatH7.t5
  have gfH7 : H7.get (H2.next + 7) = some (.cells [.str [102], .sl (H2.next + 3) 0 2 1, .sl (H2.next + 4) 0 2 1, v1, p0, p1, p2, p3, p4, .str [103], .sl (H2.next + 5) 0 1 1, .sl (H2.next + 6) 0 1 1, .nilS, .int .i64 0, .int .i64 0, .str [], .int .i64 0, .nilS] 0 true) := by rw [oH7 _ (by omega) (by omega)]; exact gfHb
  dsimp only [setO]
  repeat' (first
     | (apply Rx.nl ?_; clear hK K) | apply Ry.o ?_ | apply Ry.on ?_ | apply Wp.seq ?_ | (apply Wp.ops' fun K hK => ?_) | (apply Rx.dT 5 [(1, 3), (1, 6)] fun K hK => ?_) | (apply Rx.dT 6 [(1, 3), (1, 6)] fun K hK => ?_) | (apply Rx.dT 7 [(1, 3), (1, 6)] fun K hK => ?_) | (apply Rx.dT 8 [(1, 3), (1, 6)] fun K hK => ?_) | (apply Rx.nq ?_; try intro _) | (apply Rx.nt ?_ ?_ <;> clear hK K) | apply WpT.step ?_ | apply WpT.step0 rfl ?_ | apply Rx.sk ?_ | apply Rx.rt ?_)
  · exact eK
  generalize hHa : Hp.set H7 (H2.next + 7) _ = Hc
  have nHc : Hc.next = H7.next := by rw [← hHa]; rfl
  have oHc : ∀ q, q ≠ H2.next + 7 → Hc.get q = H7.get q := fun q hq => by rw [← hHa, Hp.get_set, if_neg hq]
  have gfHc : Hc.get (H2.next + 7) = some (.cells [.str [102], .sl (H2.next + 3) 0 2 1, .sl (H2.next + 4) 0 2 1, v1, p0, p1, p2, p3, p4, .str [103], .sl (H2.next + 5) 0 1 1, .sl (H2.next + 6) 0 1 1, v2, .int .i64 0, .int .i64 0, .str [], .int .i64 0, .nilS] 0 true) := by rw [← hHa, Hp.get_set, if_pos rfl]
  clear hHa
  have hatHc := hatH7.keep (Nat.le_of_eq nHc.symm) fun q hq => oHc q (by omega)
  have gtHc := hatHc.t5
  have hrHc := hrH7.keep (Nat.le_of_eq nHc.symm) fun q hq => oHc q (by omega)
  repeat' (first
     | (apply Rx.nl ?_; clear hK K) | apply Ry.o ?_ | apply Ry.on ?_ | apply Wp.seq ?_ | (apply Wp.ops' fun K hK => ?_) | (apply Rx.dT 5 [(1, 3), (1, 6)] fun K hK => ?_) | (apply Rx.dT 6 [(1, 3), (1, 6)] fun K hK => ?_) | (apply Rx.dT 7 [(1, 3), (1, 6)] fun K hK => ?_) | (apply Rx.dT 8 [(1, 3), (1, 6)] fun K hK => ?_) | (apply Rx.nq ?_; try intro _) | (apply Rx.nt ?_ ?_ <;> clear hK K) | apply WpT.step ?_ | apply WpT.step0 rfl ?_ | apply Rx.sk ?_ | apply Rx.rt ?_)
  refine WpL.call rfl eVk eAk ?_; simp only [List.cons_append, List.nil_append, List.append_nil]
  refine WpCall.mono ?_ (exprG_wp hG 4 1 1 (by omega) (by omega) (H2.next + 1) Hc H2.next _ _ hrHc (by omega))
  rintro _ H8 ⟨⟨ds, rfl, hd1, hd2, hd3⟩, hrH8, nH8, oH8⟩
  rw [← hV2] at hd3 hrH8
  obtain ⟨w0, w1, w2, w3, w4, rfl⟩ := len5 hd1
  obtain ⟨z0, z1, z2, z3, z4⟩ := all5 hd2
  have hatH8 := hatHc.keep nH8 fun q hq => oH8 q (by omega) (by omega)
  have gtH8 := hatH8.t5
  have gfH8 : H8.get (H2.next + 7) = some (.cells [.str [102], .sl (H2.next + 3) 0 2 1, .sl (H2.next + 4) 0 2 1, v1, p0, p1, p2, p3, p4, .str [103], .sl (H2.next + 5) 0 1 1, .sl (H2.next + 6) 0 1 1, v2, .int .i64 0, .int .i64 0, .str [], .int .i64 0, .nilS] 0 true) := by rw [oH8 _ (by omega) (by omega)]; exact gfHc
  dsimp only [setO]
  repeat' (first
     | (apply Rx.nl ?_; clear hK K) | apply Ry.o ?_ | apply Ry.on ?_ | apply Wp.seq ?_ | (apply Wp.ops' fun K hK => ?_) | (apply Rx.dT 5 [(1, 3), (1, 6)] fun K hK => ?_) | (apply Rx.dT 6 [(1, 3), (1, 6)] fun K hK => ?_) | (apply Rx.dT 7 [(1, 3), (1, 6)] fun K hK => ?_) | (apply Rx.dT 8 [(1, 3), (1, 6)] fun K hK => ?_) | (apply Rx.nq ?_; try intro _) | (apply Rx.nt ?_ ?_ <;> clear hK K) | apply WpT.step ?_ | apply WpT.step0 rfl ?_ | apply Rx.sk ?_ | apply Rx.rt ?_)
  · exact eK
  generalize hHa : Hp.set H8 (H2.next + 7) _ = Hd
  have nHd : Hd.next = H8.next := by rw [← hHa]; rfl
  have oHd : ∀ q, q ≠ H2.next + 7 → Hd.get q = H8.get q := fun q hq => by rw [← hHa, Hp.get_set, if_neg hq]
  have gfHd : Hd.get (H2.next + 7) = some (.cells [.str [102], .sl (H2.next + 3) 0 2 1, .sl (H2.next + 4) 0 2 1, v1, p0, p1, p2, p3, p4, .str [103], .sl (H2.next + 5) 0 1 1, .sl (H2.next + 6) 0 1 1, v2, w0, w1, w2, w3, w4] 0 true) := by rw [← hHa, Hp.get_set, if_pos rfl]
  clear hHa
  have hatHd := hatH8.keep (Nat.le_of_eq nHd.symm) fun q hq => oHd q (by omega)
  have gtHd := hatHd.t5
  have hrHd := hrH8.keep (Nat.le_of_eq nHd.symm) fun q hq => oHd q (by omega)
  have gr := hatHd.rs
  have e1 : (H2.next + 2 == H.next) = false := ne_beq (by omega)
  have gh0 := @aggP2
  repeat' (first
     | (apply Rx.nl ?_; clear hK K) | apply Rx.o ?_ | apply Rx.on ?_ | apply Wp.seq ?_ | (apply Wp.ops' fun K hK => ?_) | (apply Rx.dT 5 [(1, 3), (1, 6)] fun K hK => ?_) | (apply Rx.dT 6 [(1, 3), (1, 6)] fun K hK => ?_) | (apply Rx.dT 7 [(1, 3), (1, 6)] fun K hK => ?_) | (apply Rx.dT 8 [(1, 3), (1, 6)] fun K hK => ?_) | (apply Rx.nq ?_; try intro _) | (apply Rx.nt ?_ ?_ <;> clear hK K) | apply WpT.step ?_ | apply WpT.step0 rfl ?_ | apply Rx.sk ?_ | apply Rx.rt ?_)
  refine ⟨eI, _, (by (try simp only [sB, sO, Nat.reduceBEq, Nat.reduceAdd, Nat.reduceLeDiff, tyF, resultsA, resultA, aggP2, *]); first | done | with_reducible rfl), ?_⟩; try simp only [oneOr]
  have old : ∀ q, q < H.next → ((Hd.set H.next (.cells [.sl (H2.next + 1) 0 2 2, .sl (H2.next + 7) 0 2 9] 0 true)).get q = H.get q) := fun q hq => by
    rw [Hp.get_set, if_neg (by omega), oHd _ (by omega), oH8 _ (by omega) (by omega), oHc _ (by omega), oH7 _ (by omega) (by omega), oHb _ (by omega), oH6 _ (by omega) (by omega), oHa _ (by omega), o5 _ (by omega) (by omega)]
    exact os q hq
  have hz := hatHd.keep (H' := Hd.set H.next (.cells [.sl (H2.next + 1) 0 2 2, .sl (H2.next + 7) 0 2 9] 0 true)) (Nat.le_refl _)
  refine ⟨H2.next + 1, H2.next + 7, x, y, [.str [102], .sl (H2.next + 3) 0 2 1, .sl (H2.next + 4) 0 2 1, v1, p0, p1, p2, p3, p4], [.str [103], .sl (H2.next + 5) 0 1 1, .sl (H2.next + 6) 0 1 1, v2, w0, w1, w2, w3, w4], rfl, ?_, by simp only [Hp.next_set]; omega, old, by omega, labP H2.next H5.next H6.next H7.next, .sl (H2.next + 3) 0 2 1, .sl (H2.next + 4) 0 2 1, v1, [p0, p1, p2, p3, p4], .sl (H2.next + 5) 0 1 1, .sl (H2.next + 6) 0 1 1, v2, [w0, w1, w2, w3, w4], rfl, rfl, ?_, hA, fun q hq => by unfold labP; rw [if_pos (by omega)]⟩
  all_goals
    have gz : ∀ q, q ≠ H.next → (Hd.set H.next (.cells [.sl (H2.next + 1) 0 2 2, .sl (H2.next + 7) 0 2 9] 0 true)).get q = Hd.get q := fun q hq => by rw [Hp.get_set, if_neg hq]
    have nz : (Hd.set H.next (.cells [.sl (H2.next + 1) 0 2 2, .sl (H2.next + 7) 0 2 9] 0 true)).next = Hd.next := rfl
    generalize (Hd.set H.next (.cells [.sl (H2.next + 1) 0 2 2, .sl (H2.next + 7) 0 2 9] 0 true)) = Hz at *
    have hl := hatHd.lt
  · refine ⟨by rw [hgP, hA], by rw [gz _ (by omega)]; exact hatHd.ra, by rw [gz _ (by omega)]; exact gfHd, ⟨by omega, by omega⟩, ⟨by omega, by omega⟩, by omega, rfl, rfl, ?_, ?_⟩
    · rw [hF1]
      refine fu_node (n := 13) [102] rfl (rd_strs (n := 12) (imm := 0) (tip := true) [[120], [121]] ⟨by omega, by omega, by omega⟩ (by omega) (by rw [gz _ (by omega)]; exact hatHd.p1) (by simp)) (rd_strs (n := 12) (imm := 0) (tip := true) [[105], [106]] ⟨by omega, by omega, by omega⟩ (by omega) (by rw [gz _ (by omega)]; exact hatHd.l1) (by simp)) ?_ ?_
      · exact (hrow1.keep (fun q _ hq => ⟨by omega, by omega, by omega⟩) (by omega) fun q h1 h2 => by rw [gz _ (by omega), oHd _ (by omega), oH8 _ (by omega) (by omega), oHc _ (by omega), oH7 _ (by omega) (by omega), oHb _ (by omega), oH6 _ (by omega) (by omega), oHa _ (by omega)]).rd.up (by omega)
      · exact (hc3.up (by omega)).keep2 (fun q _ hq => ⟨by omega, by omega, by omega⟩) (by omega) fun q h1 h2 => by rw [gz _ (by omega), oHd _ (by omega), oH8 _ (by omega) (by omega), oHc _ (by omega), oH7 _ (by omega) (by omega), oHb _ (by omega)]
    · rw [hF2]
      refine fu_node (n := 13) [103] rfl (rd_strs (n := 12) (imm := 0) (tip := true) [[110]] ⟨by omega, by omega, by omega⟩ (by omega) (by rw [gz _ (by omega)]; exact hatHd.p2) (by simp)) (rd_strs (n := 12) (imm := 0) (tip := true) [[105]] ⟨by omega, by omega, by omega⟩ (by omega) (by rw [gz _ (by omega)]; exact hatHd.l2) (by simp)) ?_ ?_
      · exact (hrow2.keep (fun q _ hq => ⟨by omega, by omega, by omega⟩) (by omega) fun q h1 h2 => by rw [gz _ (by omega), oHd _ (by omega), oH8 _ (by omega) (by omega), oHc _ (by omega)]).rd.up (by omega)
      · exact (hd3.up (by omega)).keep2 (fun q _ hq => ⟨by omega, by omega, by omega⟩) (by omega) fun q h1 h2 => by rw [gz _ (by omega), oHd _ (by omega)]
  · have ls := hat.lt
    refine ⟨by rw [gz _ (by omega)]; exact hatHd.ra, by rw [gz _ (by omega), gfHd, hF1, hF2]; rfl, by omega, by omega, by simp [labP], by simp [labP], ⟨hc1, hc2, ?_, ?_, ?_, ?_⟩, ⟨hd1, hd2, ?_, ?_, ?_, ?_⟩⟩
    · rw [hF1]; exact own_strs (n := 13) [[120], [121]] (by simp [labP]) (by omega) (by rw [gz _ (by omega)]; exact hatHd.p1)
    · rw [hF1]; exact own_strs (n := 13) [[105], [106]] (by simp [labP]) (by omega) (by rw [gz _ (by omega)]; exact hatHd.l1)
    · rw [hF1]; exact (hrow1.keep (fun q h1 h2 => labP5 (by omega) h1) (by omega) fun q h1 h2 => by rw [gz _ (by omega), oHd _ (by omega), oH8 _ (by omega) (by omega), oHc _ (by omega), oH7 _ (by omega) (by omega), oHb _ (by omega), oH6 _ (by omega) (by omega), oHa _ (by omega)]).up (by omega)
    · rw [hF1]; exact (hc3.up (by omega)).keep2 (fun q h1 h2 => labP6 (by omega) (by omega) h1) (by omega) fun q h1 h2 => by rw [gz _ (by omega), oHd _ (by omega), oH8 _ (by omega) (by omega), oHc _ (by omega), oH7 _ (by omega) (by omega), oHb _ (by omega)]
    · rw [hF2]; exact own_strs (n := 13) [[110]] (by simp [labP]) (by omega) (by rw [gz _ (by omega)]; exact hatHd.p2)
    · rw [hF2]; exact own_strs (n := 13) [[105]] (by simp [labP]) (by omega) (by rw [gz _ (by omega)]; exact hatHd.l2)
    · rw [hF2]; exact (hrow2.keep (fun q h1 h2 => labP9 (by omega) (by omega) (by omega) h1) (by omega) fun q h1 h2 => by rw [gz _ (by omega), oHd _ (by omega), oH8 _ (by omega) (by omega), oHc _ (by omega)]).up (by omega)
    · rw [hF2]; exact (hd3.up (by omega)).keep2 (fun q h1 h2 => labP10 (by omega) (by omega) (by omega) (by omega)) (by omega) fun q h1 h2 => by rw [gz _ (by omega), oHd _ (by omega)]
end Go.Proofs.Ytackdnelcpbfjaa
namespace Go.Proofs.Ytackdnelcpbfjaa
set_option maxRecDepth 20000
set_option linter.unusedSimpArgs false
set_option linter.unusedVariables false
set_option linter.unusedSectionVars false
set_option linter.defProp false
open Go Go.Ab
theorem w64s (d : Nat) (h : d < 2 ^ 60) : w64 ((d : Int) + 1) = ((d + 1 : Nat) : Int) := by unfold w64; rw [i64_id (by omega) (by omega)]; omega
mutual
theorem walkE_lim : ∀ (x : Ex) (d : Nat), d ≤ 21 → walkE limE x d = decide (d + depE x ≤ 20)
  | .mk k n s o ks, d, hd => by
    rw [walkE, limE, depE]
    by_cases h : d ≤ 20
    · rw [w64s d (by omega), walkEs_lim ks d h]
      simp only [show decide ((d : Int) ≤ 20) = true by simpa using (by omega : (d : Int) ≤ 20), Bool.true_and]
    · have h1 : decide ((d : Int) ≤ 20) = false := by simp; omega
      rw [h1, Bool.false_and]; symm; simp; omega
theorem walkEs_lim : ∀ (l : List Ex) (d : Nat), d ≤ 20 → walkEs limE l ((d + 1 : Nat) : Int) = decide (d + depEs l ≤ 20)
  | [], d, hd => by rw [walkEs, depEs]; symm; simpa using hd
  | e :: es, d, hd => by
    rw [walkEs, walkE_lim e (d + 1) (by omega), walkEs_lim es d hd, depEs]
    by_cases h1 : d + 1 + depE e ≤ 20 <;> by_cases h2 : d + depEs es ≤ 20
    all_goals simp only [h1, h2, decide_true, decide_false, Bool.and_true, Bool.and_false, Bool.true_and, Bool.false_and]
    all_goals (symm; simp; omega)
end
theorem walkE_lim0 (x : Ex) : walkE limE x 0 = !decide ((20 : Int) < depE x) := by
  have := walkE_lim x 0 (by omega)
  rw [show ((0 : Nat) : Int) = 0 from rfl] at this
  rw [this]
  by_cases h : depE x ≤ 20
  · have : ¬ (20 : Int) < depE x := by omega
    simp [h, this]
  · have : (20 : Int) < depE x := by omega
    simp [h, this]
theorem walkEs_lim0 : ∀ (l : List Ex), walkEs limE l 0 = !(l.any fun e => decide ((20 : Int) < depE e))
  | [] => rfl
  | e :: es => by rw [walkEs, walkE_lim0, walkEs_lim0 es, List.any_cons, Bool.not_or]
mutual
theorem walk1_deep : ∀ (x : St) (d : Int), walk1 (inSt limE) x d () = (!deep1 x, ())
  | .mk k nm to n a v args th el, d => by
    rw [walk1, inSt, deep1]
    simp only [St.at_, St.value, St.args, walkE_lim0, walkEs_lim0]
    cases h1 : decide ((20 : Int) < depE a)
    · cases h2 : decide ((20 : Int) < depE v)
      · cases h3 : args.any fun e => decide ((20 : Int) < depE e)
        · simp only [Bool.not_false, Bool.and_true, Bool.true_and, walkS_deep th]
          cases h4 : deepS th
          · simp only [Bool.not_false, walkS_deep el, Bool.or_false, Bool.false_or]
          · simp
        · simp
      · simp
    · simp
theorem walkS_deep : ∀ (l : List St) (d : Int), walkS (inSt limE) l d () = (!deepS l, ())
  | [], _ => rfl
  | x :: l, d => by
    rw [walkS, walk1_deep x, deepS]
    cases h : deep1 x
    · simp only [Bool.not_false, walkS_deep l, Bool.false_or]
    · simp
end
def whI (k : Int) : Nat := if k = 4 then 1 else 0
theorem limS_nat (x : St) (d n l : Nat) (hn : n < 2 ^ 60) (hl : l < 2 ^ 60) : limS x d ((n : Int), (l : Int)) = (decide ((d : Int) ≤ 20) && decide (((n + 1 : Nat) : Int) ≤ 200) && decide (((l + whI x.kind : Nat) : Int) ≤ 16), (((n + 1 : Nat) : Int), ((l + whI x.kind : Nat) : Int))) := by
  have hw : (if x.kind = 4 then w64 ((l : Int) + 1) else (l : Int)) = ((l + whI x.kind : Nat) : Int) := by
    unfold whI
    split
    · rw [w64s l (by omega)]
    · rfl
  unfold limS
  simp only [w64s n (by omega), hw]
mutual
theorem walk1_lim : ∀ (x : St) (d n l : Nat), d ≤ 21 → n ≤ 200 → l ≤ 16 →
    ((m1 x d ≤ 20 ∧ n + n1 x ≤ 200 ∧ l + w1 x ≤ 16) → walk1 limS x d ((n : Int), (l : Int)) = (true, (((n + n1 x : Nat) : Int), ((l + w1 x : Nat) : Int)))) ∧
    (¬ (m1 x d ≤ 20 ∧ n + n1 x ≤ 200 ∧ l + w1 x ≤ 16) → (walk1 limS x d ((n : Int), (l : Int))).1 = false)
  | .mk k nm to n0 a v args th el, d, n, l, hd, hn, hl => by
    have hlw : whI (St.mk k nm to n0 a v args th el).kind ≤ 1 := by unfold whI; split <;> omega
    have e1 : w1 (.mk k nm to n0 a v args th el) = whI (St.mk k nm to n0 a v args th el).kind + wS th + wS el := by rw [w1]; rfl
    rw [walk1, limS_nat _ _ _ _ (by omega) (by omega), e1]
    obtain ⟨z, hz⟩ : ∃ z, whI (St.mk k nm to n0 a v args th el).kind = z := ⟨_, rfl⟩
    rw [hz] at hlw ⊢
    clear hz e1
    simp only [w64s d (by omega), m1, n1]
    by_cases h0 : d ≤ 20 ∧ n + 1 ≤ 200 ∧ l + z ≤ 16
    · have e0 : (decide ((d : Int) ≤ 20) && decide (((n + 1 : Nat) : Int) ≤ 200) && decide (((l + z : Nat) : Int) ≤ 16)) = true := by
        rw [Bool.and_eq_true, Bool.and_eq_true]; refine ⟨⟨?_, ?_⟩, ?_⟩ <;> apply decide_eq_true <;> omega
      rw [e0]
      simp only []
      have t := walkS_lim th (d + 1) (n + 1) (l + z) (by omega) (by omega) (by omega)
      by_cases h1 : mS th (d + 1) ≤ 20 ∧ n + 1 + nS th ≤ 200 ∧ l + z + wS th ≤ 16
      · rw [t.1 h1]
        simp only []
        have u := walkS_lim el (d + 1) (n + 1 + nS th) (l + z + wS th) (by omega) (by omega) (by omega)
        by_cases h2 : mS el (d + 1) ≤ 20 ∧ n + 1 + nS th + nS el ≤ 200 ∧ l + z + wS th + wS el ≤ 16
        · rw [u.1 h2]
          refine ⟨fun _ => ?_, fun h => (h ⟨by omega, by omega, by omega⟩).elim⟩
          rw [show n + 1 + nS th + nS el = n + (1 + nS th + nS el) by omega, show l + z + wS th + wS el = l + (z + wS th + wS el) by omega]
        · refine ⟨fun h => (h2 ⟨by omega, by omega, by omega⟩).elim, fun _ => u.2 h2⟩
      · refine ⟨fun h => (h1 ⟨by omega, by omega, by omega⟩).elim, fun _ => ?_⟩
        have := t.2 h1
        generalize walkS limS th _ _ = r at this ⊢
        obtain ⟨b, s⟩ := r
        simp only at this
        subst this
        rfl
    · have e0 : (decide ((d : Int) ≤ 20) && decide (((n + 1 : Nat) : Int) ≤ 200) && decide (((l + z : Nat) : Int) ≤ 16)) = false := by
        rw [← Bool.not_eq_true, Bool.and_eq_true, Bool.and_eq_true]
        rintro ⟨⟨a1, a2⟩, a3⟩
        have a1 := of_decide_eq_true a1
        have a2 := of_decide_eq_true a2
        have a3 := of_decide_eq_true a3
        exact h0 ⟨by omega, by omega, by omega⟩
      rw [e0]
      exact ⟨fun h => (h0 ⟨by omega, by omega, by omega⟩).elim, fun _ => rfl⟩
theorem walkS_lim : ∀ (x : List St) (d n l : Nat), d ≤ 21 → n ≤ 200 → l ≤ 16 →
    ((mS x d ≤ 20 ∧ n + nS x ≤ 200 ∧ l + wS x ≤ 16) → walkS limS x d ((n : Int), (l : Int)) = (true, (((n + nS x : Nat) : Int), ((l + wS x : Nat) : Int)))) ∧
    (¬ (mS x d ≤ 20 ∧ n + nS x ≤ 200 ∧ l + wS x ≤ 16) → (walkS limS x d ((n : Int), (l : Int))).1 = false)
  | [], d, n, l, hd, hn, hl => by
    rw [walkS, mS, nS, wS]
    exact ⟨fun _ => rfl, fun h => (h ⟨by omega, by omega, by omega⟩).elim⟩
  | x :: r, d, n, l, hd, hn, hl => by
    rw [walkS, mS, nS, wS]
    have t := walk1_lim x d n l hd hn hl
    by_cases h1 : m1 x d ≤ 20 ∧ n + n1 x ≤ 200 ∧ l + w1 x ≤ 16
    · rw [t.1 h1]
      simp only []
      have u := walkS_lim r d (n + n1 x) (l + w1 x) hd (by omega) (by omega)
      by_cases h2 : mS r d ≤ 20 ∧ n + n1 x + nS r ≤ 200 ∧ l + w1 x + wS r ≤ 16
      · rw [u.1 h2]
        refine ⟨fun _ => ?_, fun h => (h ⟨by omega, by omega, by omega⟩).elim⟩
        rw [show n + n1 x + nS r = n + (n1 x + nS r) by omega, show l + w1 x + wS r = l + (w1 x + wS r) by omega]
      · exact ⟨fun h => (h2 ⟨by omega, by omega, by omega⟩).elim, fun _ => u.2 h2⟩
    · refine ⟨fun h => (h1 ⟨by omega, by omega, by omega⟩).elim, fun _ => ?_⟩
      have := t.2 h1
      generalize walk1 limS x _ _ = r at this ⊢
      obtain ⟨b, s⟩ := r
      simp only at this
      subst this
      rfl
end
theorem walkS_lim0 (x : List St) : (walkS limS x 0 (0, 0)).1 = (!decide ((200 : Int) < nS x) && !decide ((16 : Int) < wS x) && !decide ((20 : Int) < mS x 0)) := by
  have t := walkS_lim x 0 0 0 (by omega) (by omega) (by omega)
  rw [show ((0 : Nat) : Int) = 0 from rfl] at t
  simp only [Nat.zero_add] at t
  by_cases h : mS x 0 ≤ 20 ∧ nS x ≤ 200 ∧ wS x ≤ 16
  · rw [t.1 h]
    have h1 : ¬ (200 : Int) < nS x := by omega
    have h2 : ¬ (16 : Int) < wS x := by omega
    have h3 : ¬ (20 : Int) < mS x 0 := by omega
    simp [h1, h2, h3]
  · rw [t.2 h]
    symm
    rw [← Bool.not_eq_true, Bool.and_eq_true, Bool.and_eq_true]
    rintro ⟨⟨a1, a2⟩, a3⟩
    simp only [Bool.not_eq_true', decide_eq_false_iff_not] at a1 a2 a3
    exact h ⟨by omega, by omega, by omega⟩
theorem limFn_eq (f : Fu) : limFn f = !exFn f := by
  rw [limFn, exFn, walkFn, walkS_lim0, walkE_lim0, walkS_deep]
  have h1 : decide ((f.params.length : Int) ≤ 6) = !decide ((6 : Int) < f.params.length) := by
    by_cases h : (6 : Int) < f.params.length
    · have : ¬ (f.params.length : Int) ≤ 6 := by omega
      simp [h, this]
    · have : (f.params.length : Int) ≤ 6 := by omega
      simp [h, this]
  have h2 : decide ((f.locals.length : Int) ≤ 8) = !decide ((8 : Int) < f.locals.length) := by
    by_cases h : (8 : Int) < f.locals.length
    · have : ¬ (f.locals.length : Int) ≤ 8 := by omega
      simp [h, this]
    · have : (f.locals.length : Int) ≤ 8 := by omega
      simp [h, this]
  rw [h1, h2]
  simp only [Bool.not_or]
  generalize (!decide ((6 : Int) < f.params.length)) = a
  generalize (!decide ((8 : Int) < f.locals.length)) = b
  generalize (!decide ((200 : Int) < nS f.body)) = c
  generalize (!decide ((16 : Int) < wS f.body)) = d
  generalize (!decide ((20 : Int) < mS f.body 0)) = e
  generalize (!deepS f.body) = g
  generalize (!decide ((20 : Int) < depE f.value)) = h
  cases a <;> cases b <;> cases c <;> cases d <;> cases e <;> cases g <;> cases h <;> rfl
theorem all_not_any {α : Type} (l : List α) (p q : α → Bool) (h : ∀ x, p x = !q x) : l.all p = !l.any q := by
  induction l with
  | nil => rfl
  | cons a l ih => rw [List.all_cons, List.any_cons, Bool.not_or, h, ih]
theorem limP_eq (p : Pr) : limP p = !exB p := by
  rw [limP, exB, all_not_any p.funcs limFn exFn limFn_eq, all_not_any p.arrays _ exAr (fun a => by rw [exAr, Bool.not_or])]
  simp only [Bool.not_or]
end Go.Proofs.Ytackdnelcpbfjaa
namespace Go.Ab
set_option maxRecDepth 20000
set_option linter.unusedVariables false
open Go
abbrev Nm := List UInt8
structure MS where
  fuel : Int
  fin : Int
  code : Int
  cells : List (Nm × List Int)
  out : List Int
def lkV : List (Nm × Int) → Nm → Int
  | [], _ => 0
  | p :: l, nm => if nm = p.1 then p.2 else lkV l nm
def setV : List (Nm × Int) → Nm → Int → List (Nm × Int)
  | [], nm, x => [(nm, x)]
  | p :: l, nm, x => if nm = p.1 then (nm, x) :: l else p :: setV l nm x
section
variable (p : Pr) (fi : List (Nm × Int))
end
/-- The entries of a map of numbers. -/
def vEs (vs : List (Nm × Int)) : List (AV × AV) := vs.map fun p => (.str p.1, .int .i64 p.2)
/-- A row of numbers. -/
def ints (l : List Int) : List AV := l.map fun n => .int .i64 n
def cEs : List (Nm × List Int) → List Nat → List (AV × AV)
  | p :: l, r :: rs => (.str p.1, .sl r 0 p.2.length 1) :: cEs l rs
  | _, _ => []
theorem find_vEs (nm : Nm) : ∀ (vs : List (Nm × Int)) (i : Nat), (findA .string (.str nm) (vEs vs) i = some none ∧ lkV vs nm = 0 ∧ ∀ x, vEs (setV vs nm x) = vEs vs ++ [(.str nm, .int .i64 x)]) ∨
    ∃ j, j < vs.length ∧ findA .string (.str nm) (vEs vs) i = some (some (i + j, .int .i64 (lkV vs nm))) ∧ ∀ x, vEs (setV vs nm x) = (vEs vs).set j (.str nm, .int .i64 x)
  | [], i => .inl ⟨rfl, rfl, fun _ => rfl⟩
  | p :: l, i => by
    by_cases h : nm = p.1
    · refine .inr ⟨0, by simp, ?_, fun x => ?_⟩
      · simp [vEs, findA, keyA, lkV, h]
      · simp [vEs, setV, h]
    · have hf : findA .string (.str nm) (vEs (p :: l)) i = findA .string (.str nm) (vEs l) (i + 1) := by
        show findA .string (.str nm) ((.str p.1, .int .i64 p.2) :: vEs l) i = _
        have : (nm == p.1) = false := by simpa using h
        simp [findA, keyA, this]
      have hl : lkV (p :: l) nm = lkV l nm := by simp [lkV, h]
      have hs : ∀ x, vEs (setV (p :: l) nm x) = (.str p.1, .int .i64 p.2) :: vEs (setV l nm x) := fun x => by simp [setV, h, vEs]
      rw [hf, hl]
      rcases find_vEs nm l (i + 1) with ⟨h1, h2, h3⟩ | ⟨j, hj, h1, h3⟩
      · refine .inl ⟨h1, h2, fun x => ?_⟩
        rw [hs, h3]; simp [vEs]
      · refine .inr ⟨j + 1, by simp; omega, ?_, fun x => ?_⟩
        · rw [h1, show i + 1 + j = i + (j + 1) by omega]
        · rw [hs, h3]; simp [vEs]
end Go.Ab
namespace Go.Ab
set_option maxRecDepth 20000
set_option linter.unusedVariables false
open Go
/-- The numbers of the machine's blocks. -/
structure Mx where
  p : Pr
  rm : Nat
  rc : Nat
  rf : Nat
  rs : List Nat
  fi : List (Nm × Int)
def Mx.own (X : Mx) (r : Nat) : Prop := r = X.rm ∨ r ∈ X.rs
def mc (X : Mx) (s : MS) (ov : AV) : List AV := [.lst (X.p.arrays.map Ar.cells), .lst (X.p.funcs.map Fu.cells), .map X.rc, .map X.rf, .int .i64 s.fuel, .int .i64 s.fin, .int .i64 s.code, ov]
def OutR (X : Mx) (H : Hp) (ov : AV) (out : List Int) : Prop :=
  (ov = .nilS ∧ out = []) ∨ ∃ ro, ov = .sl ro 0 out.length 1 ∧ H.get ro = some (.cells (ints out) 0 true) ∧ ro < H.next ∧ ¬ X.own ro ∧ ro ≠ X.rc ∧ ro ≠ X.rf
structure RepM (X : Mx) (H : Hp) (s : MS) (ov : AV) : Prop where
  m : H.get X.rm = some (.cells (mc X s ov) 0 true)
  c : H.get X.rc = some (.map (cEs s.cells X.rs))
  f : H.get X.rf = some (.map (vEs X.fi))
  len : X.rs.length = s.cells.length
  cell : ∀ (j r : Nat) (nm : Nm) (l : List Int), X.rs[j]? = some r → s.cells[j]? = some (nm, l) → H.get r = some (.cells (ints l) 0 true)
  out : OutR X H ov s.out
  lm : X.rm < H.next
  lc : X.rc < H.next
  lf : X.rf < H.next
  ls : ∀ r ∈ X.rs, r < H.next
  mc' : X.rm ≠ X.rc
  mf : X.rm ≠ X.rf
  ms : X.rm ∉ X.rs
  cf : X.rc ≠ X.rf
  cs : X.rc ∉ X.rs
  fs : X.rf ∉ X.rs
  nd : X.rs.Nodup
/-- What an expression leaves alone. -/
structure FrE (X : Mx) (H H' : Hp) : Prop where
  next : H.next ≤ H'.next
  get : ∀ r, r < H.next → r ≠ X.rm → H'.get r = H.get r
/-- What a store leaves alone. -/
structure FrA (X : Mx) (H H' : Hp) : Prop where
  next : H.next ≤ H'.next
  get : ∀ r, r < H.next → ¬ X.own r → H'.get r = H.get r
theorem lookup_map {P : Program} {H : Hp} {t kt e r : Nat} {es : List (AV × AV)} {nm : Nm} {z : AV} (ht : P.underlying t = some (.map kt e)) (hk : keyKind P kt = some .string) (hz : zeroV P e = some z) (hg : H.get r = some (.map es)) :
    (findA .string (.str nm) es 0 = some none → lookupA P H t (.map r) (.str nm) false = some z) ∧ ∀ i v, findA .string (.str nm) es 0 = some (some (i, v)) → lookupA P H t (.map r) (.str nm) false = some v := by
  refine ⟨fun h => ?_, fun i v h => ?_⟩ <;> simp only [lookupA, ht, hk, hz, entriesA, hg, h, okOr]
theorem update_map {P : Program} {H : Hp} {t kt e r : Nat} {es : List (AV × AV)} {nm : Nm} {x : AV} (ht : P.underlying t = some (.map kt e)) (hk : keyKind P kt = some .string) (hg : H.get r = some (.map es)) :
    (findA .string (.str nm) es 0 = some none → mapUpdateA P H t (.map r) (.str nm) x = some (H.set r (.map (es ++ [(.str nm, x)])))) ∧ ∀ i v, findA .string (.str nm) es 0 = some (some (i, v)) → mapUpdateA P H t (.map r) (.str nm) x = some (H.set r (.map (es.set i (.str nm, x)))) := by
  refine ⟨fun h => ?_, fun i v h => ?_⟩ <;> simp only [mapUpdateA, ht, hk, hg, h]
theorem upd_vEs {P : Program} {H : Hp} {t kt e r : Nat} (ht : P.underlying t = some (.map kt e)) (hk : keyKind P kt = some .string) {vs : List (Nm × Int)} (hg : H.get r = some (.map (vEs vs))) (nm : Nm) (x : Int) :
    mapUpdateA P H t (.map r) (.str nm) (.int .i64 x) = some (H.set r (.map (vEs (setV vs nm x)))) := by
  obtain ⟨l1, l2⟩ := update_map (nm := nm) (x := .int .i64 x) ht hk hg
  rcases find_vEs nm vs 0 with ⟨h1, h2, h3⟩ | ⟨j, hj, h1, h3⟩
  · rw [l1 h1, h3]
  · rw [l2 _ _ h1, h3, Nat.zero_add]
end Go.Ab
namespace Go.Ab
set_option maxRecDepth 20000
set_option linter.unusedVariables false
set_option linter.unusedSectionVars false
open Go
def outB (ov : AV) (r : Nat) : Prop := ∃ n, ov = .sl r 0 n 1
structure FrS (X : Mx) (ex : Nat → Prop) (ov : AV) (H : Hp) (ov' : AV) (H' : Hp) : Prop where
  next : H.next ≤ H'.next
  get : ∀ r, r < H.next → ¬ X.own r → ¬ outB ov r → ¬ ex r → H'.get r = H.get r
  out : ∀ r, outB ov' r → outB ov r ∨ H.next ≤ r
/-- The variables of a call. -/
structure VarOk (X : Mx) (H : Hp) (rv : Nat) (vs : List (Nm × Int)) (ov : AV) : Prop where
  get : H.get rv = some (.map (vEs vs))
  lt : rv < H.next
  no : ¬ X.own rv
  nc : rv ≠ X.rc
  nf : rv ≠ X.rf
  nb : ¬ outB ov rv
end Go.Ab
namespace Go.Ab
set_option maxRecDepth 20000
set_option linter.unusedVariables false
open Go
def hasV : List (Nm × Int) → Nm → Bool
  | [], _ => false
  | p :: l, nm => if nm = p.1 then true else hasV l nm
structure Oc where
  kind : Int
  code : Int
  out : List Int
  value : Int
theorem find_has (nm : Nm) : ∀ (vs : List (Nm × Int)) (i : Nat), (hasV vs nm = false → findA .string (.str nm) (vEs vs) i = some none ∧ lkV vs nm = 0) ∧ (hasV vs nm = true → ∃ j, findA .string (.str nm) (vEs vs) i = some (some (j, .int .i64 (lkV vs nm))))
  | [], i => ⟨fun _ => ⟨rfl, rfl⟩, fun h => by simp [hasV] at h⟩
  | p :: l, i => by
    by_cases h : nm = p.1
    · refine ⟨fun h2 => by simp [hasV, h] at h2, fun _ => ⟨i, ?_⟩⟩
      simp [vEs, findA, keyA, lkV, h]
    · have hf : findA .string (.str nm) (vEs (p :: l)) i = findA .string (.str nm) (vEs l) (i + 1) := by
        show findA .string (.str nm) ((.str p.1, .int .i64 p.2) :: vEs l) i = _
        have : (nm == p.1) = false := by simpa using h
        simp [findA, keyA, this]
      have hl : lkV (p :: l) nm = lkV l nm := by simp [lkV, h]
      have hh : hasV (p :: l) nm = hasV l nm := by simp [hasV, h]
      rw [hf, hl, hh]
      exact find_has nm l (i + 1)
theorem look_ok {P : Program} {H : Hp} {t kt e r : Nat} (ht : P.underlying t = some (.map kt e)) (hk : keyKind P kt = some .string) (hz : zeroV P e = some (.int .i64 0)) {vs : List (Nm × Int)} (hg : H.get r = some (.map (vEs vs))) (nm : Nm) :
    lookupA P H t (.map r) (.str nm) true = some (.tup [.int .i64 (lkV vs nm), .bool (hasV vs nm)]) := by
  obtain ⟨h1, h2⟩ := find_has nm vs 0
  cases hh : hasV vs nm with
  | false =>
    obtain ⟨g1, g2⟩ := h1 hh
    simp only [lookupA, ht, hk, hz, entriesA, hg, g1, okOr, g2]
  | true =>
    obtain ⟨j, g1⟩ := h2 hh
    simp only [lookupA, ht, hk, entriesA, hg, g1, okOr]
end Go.Ab
namespace Go.Proofs.Ytackdnelcpbfjaa
set_option maxRecDepth 20000
set_option linter.unusedSimpArgs false
set_option linter.unusedVariables false
set_option linter.unusedSectionVars false
set_option linter.defProp false
open Go Go.Ab
def fnNms (p : Pr) : List (List UInt8) := p.funcs.map (·.name)
def dupB (p : Pr) : Bool := dupFrom [] (arNames p) || dupFrom [] (fnNms p) || p.funcs.any fun f => dupFrom [] (arNames p ++ (f.params ++ f.locals))
theorem dupFrom_append : ∀ (a b seen : List (List UInt8)), dupFrom seen (a ++ b) = (dupFrom seen a || dupFrom (seen ++ a) b)
  | [], b, seen => by simp [dupFrom]
  | x :: a, b, seen => by rw [List.cons_append, dupFrom, dupFrom, dupFrom_append a b, List.append_assoc, List.singleton_append, Bool.or_assoc]
theorem dupFns_eq (an : List (List UInt8)) : ∀ (fs : List Fu) (seen : List (List UInt8)), dupFns an seen fs = (dupFrom seen (fs.map (·.name)) || fs.any fun f => dupFrom an (f.params ++ f.locals))
  | [], seen => rfl
  | f :: fs, seen => by
    rw [dupFns, List.map_cons, dupFrom, List.any_cons, dupFns_eq an fs]
    cases hasS seen f.name <;> cases dupFrom an (f.params ++ f.locals) <;> cases dupFrom (seen ++ [f.name]) (fs.map (·.name)) <;> rfl
theorem dupB_eq (p : Pr) : dupB p = dupP p := by
  rw [dupB, dupP, dupFns_eq]
  cases h : dupFrom [] (arNames p)
  · have e : (fun f : Fu => dupFrom [] (arNames p ++ (f.params ++ f.locals))) = fun f => dupFrom (arNames p) (f.params ++ f.locals) := by
      funext f; rw [dupFrom_append, h]; rfl
    rw [e]; rfl
  · rfl
def fnPar : List Fu → List (Nm × Int) → List (Nm × Int)
  | [], m => m
  | f :: l, m => fnPar l (setV m f.name f.params.length)
theorem lk_set (s a : Nm) (x : Int) : ∀ m : List (Nm × Int), lkV (setV m a x) s = if s = a then x else lkV m s
  | [] => by simp [setV, lkV]
  | q :: l => by
    by_cases h : a = q.1
    · simp only [setV, h, if_true, lkV]
      split <;> rfl
    · simp only [setV, h, if_false, lkV, lk_set s a x l]
      by_cases h2 : s = q.1
      · rw [if_pos h2, if_pos h2, if_neg (fun e => h (by rw [← e, h2]))]
      · rw [if_neg h2, if_neg h2]
theorem has_set (s a : Nm) (x : Int) : ∀ m : List (Nm × Int), hasV (setV m a x) s = (decide (s = a) || hasV m s)
  | [] => by
    by_cases h : s = a <;> simp [setV, hasV, h]
  | q :: l => by
    by_cases h : a = q.1
    · by_cases h2 : s = q.1 <;> simp [setV, hasV, h, h2]
    · have e := has_set s a x l
      by_cases h2 : s = q.1
      · simp [setV, hasV, h, h2]
      · simp [setV, hasV, h, h2, e]
theorem hasS_append (a b : List (List UInt8)) (s : List UInt8) : hasS (a ++ b) s = (hasS a s || hasS b s) := by unfold hasS; rw [List.any_append]
theorem hasS_one (a s : List UInt8) : hasS [a] s = decide (s = a) := by
  unfold hasS; simp only [List.any_cons, List.any_nil, Bool.or_false]
  by_cases h : s = a
  · simp [h]
  · have : ¬ a = s := fun e => h e.symm
    simp [h, this]
theorem fnPar_has (s : Nm) : ∀ (l : List Fu) (m : List (Nm × Int)), hasV (fnPar l m) s = (hasV m s || hasS (l.map (·.name)) s)
  | [], m => by simp [fnPar, hasS]
  | f :: l, m => by
    rw [fnPar, fnPar_has s l, has_set, List.map_cons, show f.name :: l.map (·.name) = [f.name] ++ l.map (·.name) from rfl, hasS_append, hasS_one]
    cases decide (s = f.name) <;> cases hasV m s <;> simp
theorem fnPar_not (s : Nm) : ∀ (l : List Fu) (m : List (Nm × Int)), hasS (l.map (·.name)) s = false → lkV (fnPar l m) s = lkV m s
  | [], m, _ => rfl
  | f :: l, m, h => by
    rw [List.map_cons, show f.name :: l.map (·.name) = [f.name] ++ l.map (·.name) from rfl, hasS_append, hasS_one, Bool.or_eq_false_iff, decide_eq_false_iff_not] at h
    rw [fnPar, fnPar_not s l _ h.2, lk_set, if_neg h.1]
theorem dupFrom_not : ∀ (l seen : List (List UInt8)), dupFrom seen l = false → ∀ s, hasS seen s = true → hasS l s = false
  | [], _, _, _, _ => rfl
  | a :: l, seen, h, s, hs => by
    rw [dupFrom, Bool.or_eq_false_iff] at h
    rw [show a :: l = [a] ++ l from rfl, hasS_append, hasS_one, dupFrom_not l _ h.2 s (by rw [hasS_append, hs]; rfl), Bool.or_false, decide_eq_false_iff_not]
    intro e; rw [← e] at h; rw [hs] at h; simp at h
theorem findF_none : ∀ (l : List Fu) (s : List UInt8) (i : Int), 0 ≤ i → (hasS (l.map (·.name)) s = decide (0 ≤ findF l s i))
  | [], s, i, _ => by simp [hasS, findF]
  | f :: l, s, i, hi => by
    rw [List.map_cons, show f.name :: l.map (·.name) = [f.name] ++ l.map (·.name) from rfl, hasS_append, hasS_one, findF]
    by_cases h : f.name = s
    · rw [if_pos h, decide_eq_true h.symm, Bool.true_or]; simpa using hi
    · rw [if_neg h, decide_eq_false (fun e => h e.symm), Bool.false_or, findF_none l s (i + 1) (by omega)]
theorem parN_find (p : Pr) (s : Nm) : ∀ (l : List Fu) (seen : List (List UInt8)) (m : List (Nm × Int)) (i : Nat), p.funcs.drop i = l → dupFrom seen (l.map (·.name)) = false → 0 ≤ findF l s i →
    ∃ f, p.funcs[(findF l s i).toNat]? = some f ∧ lkV (fnPar l m) s = f.params.length
  | [], _, _, i, _, _, h => by simp [findF] at h
  | f :: l, seen, m, i, hd, hn, h => by
    have hlt : i < p.funcs.length := by
      have := congrArg List.length hd; simp at this; omega
    rw [List.drop_eq_getElem_cons hlt, List.cons.injEq] at hd
    rw [List.map_cons, dupFrom, Bool.or_eq_false_iff] at hn
    rw [findF] at h ⊢
    by_cases e : f.name = s
    · rw [if_pos e]
      refine ⟨f, ?_, ?_⟩
      · rw [Int.toNat_natCast, List.getElem?_eq_getElem hlt, hd.1]
      · have h3 : hasS (l.map (·.name)) s = false := dupFrom_not _ _ hn.2 s (by rw [hasS_append, hasS_one, decide_eq_true e.symm, Bool.or_true])
        rw [fnPar, fnPar_not s l _ h3, lk_set, if_pos e.symm]
    · rw [if_neg e] at h ⊢
      exact parN_find p s l (seen ++ [f.name]) _ (i + 1) hd.2 hn.2 h
theorem hasV_fn (p : Pr) (s : Nm) : hasV (fnPar p.funcs []) s = decide (0 ≤ findF p.funcs s 0) := by
  rw [fnPar_has, findF_none _ _ 0 (by omega)]; rfl
theorem lkV_fn {p : Pr} (hd : dupFrom [] (fnNms p) = false) {s : Nm} (h : 0 ≤ findF p.funcs s 0) : lkV (fnPar p.funcs []) s = parN p s := by
  obtain ⟨f, h1, h2⟩ := parN_find p s p.funcs [] [] 0 rfl hd h
  have h1' : p.funcs[(findF p.funcs s 0).toNat]? = some f := h1
  rw [h2, parN, h1']; rfl
/-- The visitor of statements in 'resolve'; w: a call with a wrong number of arguments was seen. -/
def rsS (fm : List (Nm × Int)) (vs an : List (List UInt8)) (x : St) (_ : Int) (w : Bool) : Bool × Bool :=
  if x.kind = 1 then (hasS vs x.name, w)
  else if x.kind = 2 then (hasS an x.name, w)
  else if x.kind = 6 then (hasV fm x.to && hasS vs x.name, w || (hasV fm x.to && !decide (lkV fm x.to = (x.args.length : Int))))
  else (true, w)
def resFns (fm : List (Nm × Int)) (an : List (List UInt8)) : List Fu → Bool → Int
  | [], w => if w = true then 5 else 0
  | f :: fs, w => if walkFn (fun x _ => defX (f.params ++ f.locals) an x) f = true ∧ (walkS (rsS fm (f.params ++ f.locals) an) f.body 0 w).1 = true then resFns fm an fs (walkS (rsS fm (f.params ++ f.locals) an) f.body 0 w).2 else 3
def resP (p : Pr) : Int := resFns (fnPar p.funcs []) (arNames p) p.funcs false
def proCheck (p : Pr) : Int := if limP p = false then 6 else if wfP p = false then 2 else if dupB p = true then 4 else resP p
mutual
theorem walkE_def (vs an : List (List UInt8)) : ∀ (x : Ex) (d : Int), walkE (fun x _ => defX vs an x) x d = defE vs an x
  | .mk k n s o ks, d => by rw [walkE, defE, walkEs_def vs an ks, Bool.and_comm]
theorem walkEs_def (vs an : List (List UInt8)) : ∀ (l : List Ex) (d : Int), walkEs (fun x _ => defX vs an x) l d = defEs vs an l
  | [], _ => rfl
  | x :: l, d => by rw [walkEs, defEs, walkE_def vs an x, walkEs_def vs an l]
end
section
variable (c : Sc)
mutual
def exOk1 : St → Bool
  | .mk _ _ _ _ a v args th el => defE c.vars c.an a && defE c.vars c.an v && defEs c.vars c.an args && exOkS th && exOkS el
def exOkS : List St → Bool
  | [] => true
  | x :: l => exOk1 x && exOkS l
end
mutual
def nmOk1 : St → Bool
  | .mk k nm to n a v args th el => defStK c (.mk k nm to n a v args th el) && nmOkS th && nmOkS el
def nmOkS : List St → Bool
  | [] => true
  | x :: l => nmOk1 x && nmOkS l
end
mutual
theorem walk1_e : ∀ (x : St) (d : Int), walk1 (inSt fun x _ => defX c.vars c.an x) x d () = (exOk1 c x, ())
  | .mk k nm to n a v args th el, d => by
    rw [walk1, inSt, exOk1]
    simp only [St.at_, St.value, St.args, walkE_def, walkEs_def]
    cases h : defE c.vars c.an a && defE c.vars c.an v && defEs c.vars c.an args
    · simp
    · simp only [walkS_e th, Bool.true_and]
      cases h2 : exOkS c th
      · simp
      · simp only [walkS_e el, Bool.true_and]
theorem walkS_e : ∀ (l : List St) (d : Int), walkS (inSt fun x _ => defX c.vars c.an x) l d () = (exOkS c l, ())
  | [], _ => rfl
  | x :: l, d => by
    rw [walkS, walk1_e x, exOkS]
    cases h : exOk1 c x
    · simp
    · simp only [walkS_e l, Bool.true_and]
end
mutual
theorem chk1_ek : ∀ x : St, chk1 c false x = (exOk1 c x && nmOk1 c x)
  | .mk k nm to n a v args th el => by
    rw [chk1, exOk1, nmOk1, chkS_ek th, chkS_ek el, cond_false, defStX]
    simp only [St.at_, St.value, St.args]
    cases defE c.vars c.an a <;> cases defE c.vars c.an v <;> cases defEs c.vars c.an args <;> cases defStK c (.mk k nm to n a v args th el) <;> cases exOkS c th <;> cases nmOkS c th <;> cases exOkS c el <;> cases nmOkS c el <;> rfl
theorem chkS_ek : ∀ l : List St, chkS c false l = (exOkS c l && nmOkS c l)
  | [] => rfl
  | x :: l => by
    rw [chkS, exOkS, nmOkS, chk1_ek x, chkS_ek l]
    cases exOk1 c x <;> cases nmOk1 c x <;> cases exOkS c l <;> cases nmOkS c l <;> rfl
end
end
theorem rsS_k {p : Pr} (hd : dupFrom [] (fnNms p) = false) (c : Sc) (hc : c.p = p) (x : St) (d : Int) (w : Bool) :
    (defStK c x = true → rsS (fnPar p.funcs []) c.vars c.an x d w = (true, w || !arK p x)) ∧ (defStK c x = false → (rsS (fnPar p.funcs []) c.vars c.an x d w).1 = false) := by
  unfold rsS defStK arK
  rw [hc]
  by_cases h1 : x.kind = 1
  · have h6 : ¬ x.kind = 6 := by omega
    simp only [h1, if_true, Int.reduceEq, decide_false, Bool.false_and, Bool.not_false, Bool.not_true, Bool.or_false]
    exact ⟨fun h => by rw [h], fun h => h⟩
  · by_cases h6 : x.kind = 6
    · simp only [h6, Int.reduceEq, if_false, if_true, decide_true, Bool.true_and, Bool.not_not, hasV_fn]
      cases h : decide (0 ≤ findF p.funcs x.to 0)
      · simp
      · rw [lkV_fn hd (of_decide_eq_true h), Bool.and_true, Bool.true_and, Bool.true_and]
        refine ⟨fun h => ?_, fun h => h⟩
        rw [h]
        have e : decide ((parN p x.to : Int) = (x.args.length : Int)) = decide ((x.args.length : Int) = (parN p x.to : Int)) := by
          by_cases q : (parN p x.to : Int) = (x.args.length : Int)
          · rw [decide_eq_true q, decide_eq_true q.symm]
          · rw [decide_eq_false q, decide_eq_false (fun e => q e.symm)]
        rw [e]
    · by_cases h2 : x.kind = 2
      · simp only [h2, Int.reduceEq, if_false, if_true, decide_false, Bool.false_and, Bool.not_false, Bool.not_true, Bool.or_false]
        exact ⟨fun h => by rw [h], fun h => h⟩
      · simp only [h1, h2, h6, if_false, decide_false, Bool.false_and, Bool.not_false, Bool.not_true, Bool.or_false]
        exact ⟨fun _ => by simp, fun h => by simp at h⟩
section
variable {p : Pr} (hd : dupFrom [] (fnNms p) = false) (c : Sc) (hc : c.p = p)
include hd hc
mutual
theorem walk1_k : ∀ (x : St) (d : Int) (w : Bool), (nmOk1 c x = true → walk1 (rsS (fnPar p.funcs []) c.vars c.an) x d w = (true, w || !chk1 c true x)) ∧ (nmOk1 c x = false → (walk1 (rsS (fnPar p.funcs []) c.vars c.an) x d w).1 = false)
  | .mk k nm to n a v args th el, d, w => by
    have h0 := rsS_k hd c hc (.mk k nm to n a v args th el) d w
    rw [walk1, nmOk1, chk1, cond_true, hc]
    cases e0 : defStK c (.mk k nm to n a v args th el)
    · have := h0.2 e0
      generalize rsS _ _ _ _ _ _ = r at this ⊢
      obtain ⟨b, s⟩ := r
      simp only at this
      subst this
      simp
    · rw [h0.1 e0]
      simp only [Bool.true_and]
      have h1 := walkS_k th (w64 (d + 1)) (w || !arK p (.mk k nm to n a v args th el))
      cases e1 : nmOkS c th
      · have := h1.2 e1
        generalize walkS _ th _ _ = r at this ⊢
        obtain ⟨b, s⟩ := r
        simp only at this
        subst this
        simp
      · rw [h1.1 e1]
        simp only [Bool.true_and]
        have h2 := walkS_k el (w64 (d + 1)) ((w || !arK p (.mk k nm to n a v args th el)) || !chkS c true th)
        cases e2 : nmOkS c el
        · exact ⟨fun h => by simp at h, fun _ => h2.2 e2⟩
        · refine ⟨fun _ => ?_, fun h => by simp at h⟩
          rw [h2.1 e2]
          congr 1
          cases w <;> cases arK p (.mk k nm to n a v args th el) <;> cases chkS c true th <;> cases chkS c true el <;> rfl
theorem walkS_k : ∀ (l : List St) (d : Int) (w : Bool), (nmOkS c l = true → walkS (rsS (fnPar p.funcs []) c.vars c.an) l d w = (true, w || !chkS c true l)) ∧ (nmOkS c l = false → (walkS (rsS (fnPar p.funcs []) c.vars c.an) l d w).1 = false)
  | [], d, w => by
    rw [walkS, nmOkS, chkS]
    exact ⟨fun _ => by simp, fun h => by simp at h⟩
  | x :: l, d, w => by
    have h0 := walk1_k x d w
    rw [walkS, nmOkS, chkS]
    cases e0 : nmOk1 c x
    · have := h0.2 e0
      generalize walk1 _ x _ _ = r at this ⊢
      obtain ⟨b, s⟩ := r
      simp only at this
      subst this
      simp
    · rw [h0.1 e0]
      simp only [Bool.true_and]
      have h2 := walkS_k l d (w || !chk1 c true x)
      cases e2 : nmOkS c l
      · exact ⟨fun h => by simp at h, fun _ => h2.2 e2⟩
      · refine ⟨fun _ => ?_, fun h => by simp at h⟩
        rw [h2.1 e2]
        congr 1
        cases w <;> cases chk1 c true x <;> cases chkS c true l <;> rfl
end
end
theorem resFns_eq {p : Pr} (hd : dupFrom [] (fnNms p) = false) : ∀ (l : List Fu) (w : Bool), resFns (fnPar p.funcs []) (arNames p) l w = if l.any (undFn p) = true then 3 else if (w || l.any (badFn p)) = true then 5 else 0
  | [], w => by simp [resFns]
  | f :: fs, w => by
    have hk := walkS_k hd (scOf p f) rfl f.body 0 w
    have hv : (scOf p f).vars = f.params ++ f.locals := rfl
    have ha : (scOf p f).an = arNames p := rfl
    rw [hv, ha] at hk
    have he : walkFn (fun x _ => defX (f.params ++ f.locals) (arNames p) x) f = (defE (f.params ++ f.locals) (arNames p) f.value && exOkS (scOf p f) f.body) := by
      rw [walkFn, walkE_def]
      have := walkS_e (scOf p f) f.body 0
      rw [hv, ha] at this
      rw [this]
    have hu : undFn p f = !(walkFn (fun x _ => defX (f.params ++ f.locals) (arNames p) x) f && nmOkS (scOf p f) f.body) := by
      rw [undFn, he, chkS_ek, hv, ha]
      cases defE (f.params ++ f.locals) (arNames p) f.value <;> cases exOkS (scOf p f) f.body <;> cases nmOkS (scOf p f) f.body <;> rfl
    rw [resFns, List.any_cons, List.any_cons, hu]
    cases h1 : walkFn (fun x _ => defX (f.params ++ f.locals) (arNames p) x) f
    · simp
    · cases h2 : nmOkS (scOf p f) f.body
      · simp [hk.2 h2]
      · rw [hk.1 h2]
        simp only [and_self, if_true, Bool.and_self, Bool.not_true, Bool.false_or]
        rw [resFns_eq hd fs]
        congr 2
        rw [badFn]
        cases w <;> simp
theorem proCheck_eq (p : Pr) : proCheck p = refCheck p := by
  unfold proCheck refCheck
  rw [limP_eq, dupB_eq]
  cases h1 : exB p
  · simp only [Bool.not_false, Bool.true_eq_false, Bool.false_eq_true, if_false]
    cases h2 : wfP p
    · rfl
    · simp only [Bool.true_eq_false, if_false]
      cases h3 : dupP p
      · simp only [Bool.false_eq_true, if_false]
        have hd : dupFrom [] (fnNms p) = false := by
          rw [← dupB_eq, dupB, Bool.or_eq_false_iff, Bool.or_eq_false_iff] at h3
          exact h3.1.2
        rw [resP, resFns_eq hd]
        simp
      · rfl
  · rfl
end Go.Proofs.Ytackdnelcpbfjaa
namespace Go.Proofs.Ytackdnelcpbfjaa
set_option maxRecDepth 20000
set_option linter.unusedSimpArgs false
set_option linter.unusedVariables false
set_option linter.unusedSectionVars false
set_option linter.defProp false
open Go Go.Ab
def anG : List (List UInt8) := [[97], [98]]
theorem nms_in (f : Int) {m : Int} (h : 0 ≤ m) : (nmsG f).getD (m.tmod (nmsG f).length).toNat [] ∈ nmsG f := by
  have hl : ((nmsG f).length : Int) ≠ 0 := by unfold nmsG; split <;> simp
  have := (getD_tmod (nmsG f) hl h []).2
  exact List.mem_of_getElem? this
theorem nms_ok (f : Int) {s : List UInt8} (h : s ∈ nmsG f) : nameB s = true ∧ hasS (nmsG f) s = true := by
  unfold nmsG at h ⊢
  split at h <;> simp only [List.mem_cons, List.not_mem_nil, or_false] at h
  · rename_i e
    rw [if_pos e]
    rcases h with rfl | rfl | rfl | rfl <;> exact ⟨by kernel_rfl, by kernel_rfl⟩
  · rename_i e
    rw [if_neg e]
    rcases h with rfl | rfl <;> exact ⟨by kernel_rfl, by kernel_rfl⟩
theorem arr_ok (m : Int) : nameB (arrG m) = true ∧ hasS anG (arrG m) = true := by
  unfold arrG
  split <;> exact ⟨by kernel_rfl, by kernel_rfl⟩
theorem fg_ok (m : Int) : nameB (fgG m) = true := by
  unfold fgG
  split <;> kernel_rfl
/-- An expression that is well-formed, uses what is defined, and is not deep. -/
structure ExOk (f : Int) (k : Nat) (x : Ex) : Prop where
  wf : wfE x = true
  df : defE (nmsG f) anG x = true
  dp : depE x ≤ k
theorem exprG_ok (f : Int) : ∀ (k deep : Nat) (L : List Int), 5 ≤ deep + k → deep ≤ 4 → ExOk f k (exprG f k deep L).1
  | 0, deep, L, h1, h2 => by omega
  | k + 1, deep, L, h1, h2 => by
    have ih : deep ≤ 3 → ∀ L, ExOk f k (exprG f k (deep + 1) L).1 := fun hd L => exprG_ok f k (deep + 1) L (by omega) (by omega)
    have hq := pickG_range (n := (nextG L).1) (m := 16) (by omega) (by omega)
    have hm := pickG_range (n := w64 ((nextG L).1.tdiv 16)) (m := 1000) (by omega) (by omega)
    simp only [exprG]
    generalize pickG (nextG L).1 16 = q at hq ⊢
    generalize pickG (w64 ((nextG L).1.tdiv 16)) 1000 = m at hm ⊢
    split
    · split
      · obtain ⟨n1, n2⟩ := nms_ok f (nms_in f hm.1)
        generalize (nmsG f).getD (m.tmod (nmsG f).length).toNat [] = nm at n1 n2 ⊢
        refine ⟨?_, ?_, by simp [depE, depEs]⟩
        · simp [wfE, wfEs, wfX, Ex.kind, Ex.kids, Ex.n, Ex.op, Ex.name, n1]
        · simp [defE, defEs, defX, Ex.kind, Ex.name, n2]
      · exact ⟨by simp [wfE, wfEs, wfX, Ex.kind, Ex.kids, Ex.n, Ex.op, Ex.name], by simp [defE, defEs, defX, Ex.kind, Ex.name], by simp [depE, depEs]⟩
    · rename_i hn
      have hd : deep ≤ 3 := by omega
      have ih := ih hd
      obtain ⟨a1, a2⟩ := arr_ok m
      split
      · have i1 := ih (nextG L).2
        refine ⟨?_, ?_, ?_⟩
        · simp [wfE, wfEs, wfX, Ex.kind, Ex.kids, Ex.n, Ex.op, Ex.name, a1, i1.wf]
        · simp [defE, defEs, defX, Ex.kind, Ex.name, a2, i1.df]
        · have := i1.dp; simp only [depE, depEs]; omega
      · split
        · have i1 := ih (nextG L).2
          have i2 := ih (exprG f k (deep + 1) (nextG L).2).2
          have i3 := ih (exprG f k (deep + 1) (exprG f k (deep + 1) (nextG L).2).2).2
          refine ⟨?_, ?_, ?_⟩
          · simp [wfE, wfEs, wfX, Ex.kind, Ex.kids, Ex.n, Ex.op, Ex.name, i1.wf, i2.wf, i3.wf]
          · simp [defE, defEs, defX, Ex.kind, Ex.name, i1.df, i2.df, i3.df]
          · have := i1.dp; have := i2.dp; have := i3.dp; simp only [depE, depEs]; omega
        · split
          · have i1 := ih (nextG L).2
            have ho : op2G m = 20 ∨ op2G m = 21 := by unfold op2G; split <;> simp
            refine ⟨?_, ?_, ?_⟩
            · rcases ho with ho | ho <;> simp [wfE, wfEs, wfX, Ex.kind, Ex.kids, Ex.n, Ex.op, Ex.name, i1.wf, ho]
            · simp [defE, defEs, defX, Ex.kind, Ex.name, i1.df]
            · have := i1.dp; simp only [depE, depEs]; omega
          · have i1 := ih (nextG L).2
            have i2 := ih (exprG f k (deep + 1) (nextG L).2).2
            have t1 := Int.tmod_nonneg 15 hm.1
            have t2 := Int.tmod_lt_of_pos m (show (0 : Int) < 15 by omega)
            have ho : isBinB (w64 (4 + m.tmod 15)) = true := by
              unfold w64; rw [i64_id (by omega) (by omega)]
              simp only [isBinB, Bool.and_eq_true, decide_eq_true_eq]; omega
            refine ⟨?_, ?_, ?_⟩
            · simp [wfE, wfEs, wfX, Ex.kind, Ex.kids, Ex.n, Ex.op, Ex.name, i1.wf, i2.wf, ho]
            · simp [defE, defEs, defX, Ex.kind, Ex.name, i1.df, i2.df]
            · have := i1.dp; have := i2.dp; simp only [depE, depEs]; omega
theorem argsG_ok (f : Int) : ∀ (n : Nat) (L : List Int), wfEs (argsG f n L).1 = true ∧ defEs (nmsG f) anG (argsG f n L).1 = true ∧ ((argsG f n L).1.any fun e => decide ((20 : Int) < depE e)) = false ∧ (argsG f n L).1.length = n
  | 0, _ => ⟨rfl, rfl, rfl, rfl⟩
  | n + 1, L => by
    obtain ⟨h1, h2, h3, h4⟩ := argsG_ok f n (exprG f 3 2 L).2
    have h := exprG_ok f 3 2 L (by omega) (by omega)
    have hd : ¬ (20 : Int) < depE (exprG f 3 2 L).1 := by have := h.dp; omega
    refine ⟨?_, ?_, ?_, ?_⟩
    · rw [argsG, wfEs, h.wf, h1]; rfl
    · rw [argsG, defEs, h.df, h2]; rfl
    · rw [argsG, List.any_cons, h3, decide_eq_false hd]; rfl
    · rw [argsG, List.length_cons, h4]
/-- A scope in which a generated function lies. -/
structure ScG (f : Int) (c : Sc) : Prop where
  vars : c.vars = nmsG f
  an : c.an = anG
  to : ∀ m : Int, 0 ≤ m → 0 ≤ findF c.p.funcs (fgG m) 0 ∧ ((2 - m.tmod 2).toNat = parN c.p (fgG m))
structure StOk (c : Sc) (k : Nat) (s : Sd) (x : St) (t : Sd) : Prop where
  wf : wfSt x = true
  df : chk1 c false x = true
  ar : chk1 c true x = true
  dp : deep1 x = false
  n : n1 x + t.1.length ≤ s.1.length
  w : (w1 x : Int) + s.2 = t.2
  wb : t.2 ≤ 10
  m : ∀ d, m1 x d ≤ d + k
structure StsOk (c : Sc) (k : Nat) (s : Sd) (l : List St) (t : Sd) : Prop where
  wf : wfSs l = true
  df : chkS c false l = true
  ar : chkS c true l = true
  dp : deepS l = false
  n : nS l + t.1.length ≤ s.1.length
  w : (wS l : Int) + s.2 = t.2
  wb : t.2 ≤ 10
  m : ∀ d, mS l d ≤ d + k
theorem stsG_ok {c : Sc} {k : Nat} {step : Sd → St × Sd} (h : ∀ s : Sd, s.1 ≠ [] → 0 ≤ s.2 → s.2 ≤ 10 → StOk c k s (step s).1 (step s).2) : ∀ (n : Nat) (s : Sd), 0 ≤ s.2 → s.2 ≤ 10 → StsOk c k s (stsG step n s).1 (stsG step n s).2
  | 0, s, h0, h1 => ⟨rfl, rfl, rfl, rfl, by simp [stsG, nS], by simp [stsG, wS], h1, fun d => by simp [stsG, mS]⟩
  | n + 1, s, h0, h1 => by
    rw [stsG]
    by_cases hs : s.1 = []
    · rw [if_pos hs]
      exact ⟨rfl, rfl, rfl, rfl, by simp [nS], by simp [wS], h1, fun d => by simp [mS]⟩
    · rw [if_neg hs]
      have a := h s hs h0 h1
      have aw := a.w
      have b := stsG_ok h n (step s).2 (by omega) a.wb
      have bw := b.w
      have an := a.n
      have bn := b.n
      refine ⟨?_, ?_, ?_, ?_, ?_, ?_, b.wb, fun d => ?_⟩
      · simp only [wfSs, a.wf, b.wf]; rfl
      · simp only [chkS, a.df, b.df]; rfl
      · simp only [chkS, a.ar, b.ar]; rfl
      · simp only [deepS, a.dp, b.dp]; rfl
      · simp only [nS]; omega
      · simp only [wS]; omega
      · have := a.m d; have := b.m d
        simp only [mS]; omega
theorem zE_ok (f : Int) : zeroE zE = true ∧ defE (nmsG f) anG zE = true ∧ depE zE = 0 := ⟨by simp [zeroE, zE, Ex.kind, Ex.n, Ex.op, Ex.name, Ex.kids], by simp [zE, defE, defEs, defX, Ex.kind], by simp [zE, depE, depEs]⟩
theorem stmtT_ok {f : Int} {c : Sc} (hc : ScG f c) {k : Nat} {sub : Int → Sd → List St × Sd} {s : Sd} {L1 : List Int} {q m : Int} (hL : L1.length < s.1.length) (hm : 0 ≤ m) (hm1 : m < 1000) (h0 : 0 ≤ s.2) (h1 : s.2 ≤ 10) (hq : 10 ≤ q → s.2 < 10) (hq0 : 0 ≤ q)
    (hs : 8 ≤ q → q < 12 → 1 ≤ k ∧ ∀ (most : Int) (s : Sd), 0 ≤ s.2 → s.2 ≤ 10 → StsOk c (k - 1) s (sub most s).1 (sub most s).2) : StOk c k s (stmtT sub f L1 s.2 q m).1 (stmtT sub f L1 s.2 q m).2 := by
  obtain ⟨z1, z2, z3⟩ := zE_ok f
  obtain ⟨n1', n2'⟩ := nms_ok f (nms_in f hm)
  obtain ⟨a1, a2⟩ := arr_ok m
  have g1 := fg_ok m
  obtain ⟨g2, g3⟩ := hc.to m hm
  have e50 := exprG_ok f 5 0 L1 (by omega) (by omega)
  have e32 := exprG_ok f 3 2 L1 (by omega) (by omega)
  have e41 := exprG_ok f 4 1 L1 (by omega) (by omega)
  have e43 := exprG_ok f 4 1 (exprG f 3 2 L1).2 (by omega) (by omega)
  have l50 := exprG_len f 5 0 L1
  have l32 := exprG_len f 3 2 L1
  have l41 := exprG_len f 4 1 L1
  have l43 := exprG_len f 4 1 (exprG f 3 2 L1).2
  obtain ⟨r1, r2, r3, r4⟩ := argsG_ok f (2 - m.tmod 2).toNat L1
  have lar := argsG_len f (2 - m.tmod 2).toNat L1
  have d50 : ¬ (20 : Int) < depE (exprG f 5 0 L1).1 := by have := e50.dp; omega
  have d32 : ¬ (20 : Int) < depE (exprG f 3 2 L1).1 := by have := e32.dp; omega
  have d41 : ¬ (20 : Int) < depE (exprG f 4 1 L1).1 := by have := e41.dp; omega
  have d43 : ¬ (20 : Int) < depE (exprG f 4 1 (exprG f 3 2 L1).2).1 := by have := e43.dp; omega
  rw [stmtT]
  generalize (nmsG f).getD (m.tmod (nmsG f).length).toNat [] = nm at n1' n2' ⊢
  have hv := hc.vars
  have ha := hc.an
  by_cases c1 : q < 6
  · rw [if_pos c1]
    refine ⟨?_, ?_, ?_, ?_, ?_, ?_, h1, fun d => ?_⟩
    · simp [wfSt, wfSs, wfStX, wfEs, wfStK, flatB, St.kind, St.thn, St.els, St.name, St.to, St.n, St.at_, St.value, St.args, n1', z1, e50.wf]
    · simp [chk1, chkS, defStX, defEs, defStK, St.kind, St.name, St.at_, St.value, St.args, hv, ha, n2', z2, e50.df]
    · simp [chk1, chkS, arK, St.kind]
    · simp [deep1, deepS, z3, d50]
    · simp only [n1, nS]; omega
    · simp [w1, wS]
    · simp [m1, mS]
  rw [if_neg c1]
  by_cases c2 : q < 8
  · rw [if_pos c2]
    refine ⟨?_, ?_, ?_, ?_, ?_, ?_, h1, fun d => ?_⟩
    · simp [wfSt, wfSs, wfStX, wfEs, wfStK, flatB, St.kind, St.thn, St.els, St.name, St.to, St.n, St.at_, St.value, St.args, a1, e32.wf, e43.wf]
    · simp [chk1, chkS, defStX, defEs, defStK, St.kind, St.name, St.at_, St.value, St.args, hv, ha, a2, e32.df, e43.df]
    · simp [chk1, chkS, arK, St.kind]
    · simp [deep1, deepS, d32, d43]
    · simp only [n1, nS]; omega
    · simp [w1, wS]
    · simp [m1, mS]
  rw [if_neg c2]
  by_cases c3 : q < 10
  · rw [if_pos c3]
    obtain ⟨hk, hsub⟩ := hs (by omega) (by omega)
    have sa := hsub 3 ((exprG f 4 1 L1).2, s.2) h0 h1
    have saw := sa.w
    have san := sa.n
    have sb := hsub 2 (sub 3 ((exprG f 4 1 L1).2, s.2)).2 (by simp only at saw; omega) sa.wb
    have sbw := sb.w
    have sbn := sb.n
    refine ⟨?_, ?_, ?_, ?_, ?_, ?_, sb.wb, fun d => ?_⟩
    · simp [wfSt, wfStX, wfEs, wfStK, onlyB, St.kind, St.thn, St.els, St.name, St.to, St.n, St.at_, St.value, St.args, z1, e41.wf, sa.wf, sb.wf]
    · simp [chk1, defStX, defEs, defStK, St.kind, St.name, St.at_, St.value, St.args, hv, ha, z2, e41.df, sa.df, sb.df]
    · simp [chk1, arK, St.kind, sa.ar, sb.ar]
    · simp [deep1, z3, d41, sa.dp, sb.dp]
    · simp only [n1]; simp only at san; omega
    · simp only [w1]; simp only at saw; rw [if_neg (by omega)]; omega
    · have := sa.m (d + 1); have := sb.m (d + 1)
      simp only [m1]; omega
  rw [if_neg c3]
  by_cases c4 : q < 12
  · rw [if_pos c4]
    obtain ⟨hk, hsub⟩ := hs (by omega) (by omega)
    have hlt := hq (by omega)
    have hw : w64 (s.2 + 1) = s.2 + 1 := by unfold w64; rw [i64_id (by omega) (by omega)]
    rw [hw]
    have sa := hsub 3 ((exprG f 4 1 L1).2, s.2 + 1) (by simp only; omega) (by simp only; omega)
    have saw := sa.w
    have san := sa.n
    refine ⟨?_, ?_, ?_, ?_, ?_, ?_, sa.wb, fun d => ?_⟩
    · simp [wfSt, wfSs, wfStX, wfEs, wfStK, onlyB, St.kind, St.thn, St.els, St.name, St.to, St.n, St.at_, St.value, St.args, z1, e41.wf, sa.wf]
    · simp [chk1, chkS, defStX, defEs, defStK, St.kind, St.name, St.at_, St.value, St.args, hv, ha, z2, e41.df, sa.df]
    · simp [chk1, chkS, arK, St.kind, sa.ar]
    · simp [deep1, deepS, z3, d41, sa.dp]
    · simp only [n1, nS]; simp only at san; omega
    · simp only [w1, wS]; simp only at saw; simp only [if_true]; omega
    · have := sa.m (d + 1)
      simp only [m1, mS]; omega
  rw [if_neg c4]
  by_cases c5 : q < 14
  · rw [if_pos c5]
    refine ⟨?_, ?_, ?_, ?_, ?_, ?_, h1, fun d => ?_⟩
    · simp [wfSt, wfSs, wfStX, wfEs, wfStK, flatB, onlyB, St.kind, St.thn, St.els, St.name, St.to, St.n, St.at_, St.value, St.args, z1, e41.wf]
    · simp [chk1, chkS, defStX, defEs, defStK, St.kind, St.name, St.at_, St.value, St.args, hv, ha, z2, e41.df]
    · simp [chk1, chkS, arK, St.kind]
    · simp [deep1, deepS, z3, d41]
    · simp only [n1, nS]; omega
    · simp [w1, wS]
    · simp [m1, mS]
  rw [if_neg c5]
  by_cases c6 : q < 15
  · rw [if_pos c6]
    refine ⟨?_, ?_, ?_, ?_, ?_, ?_, h1, fun d => ?_⟩
    · simp [wfSt, wfSs, wfStX, wfStK, flatB, St.kind, St.thn, St.els, St.name, St.to, St.n, St.at_, St.value, St.args, n1', z1, g1, r1]
    · simp [chk1, chkS, defStX, defStK, St.kind, St.name, St.to, St.at_, St.value, St.args, hv, ha, z2, n2', g2, r2]
    · have : (((argsG f (2 - m.tmod 2).toNat L1).1.length : Nat) : Int) = parN c.p (fgG m) := by rw [r4, g3]
      simp [chk1, chkS, arK, St.kind, St.args, St.to, this]
    · simp only [deep1, deepS, z3, r3]; decide
    · simp only [n1, nS]; omega
    · simp [w1, wS]
    · simp [m1, mS]
  rw [if_neg c6]
  refine ⟨?_, ?_, ?_, ?_, ?_, ?_, h1, fun d => ?_⟩
  · have e : m ≤ 1000000 := by omega
    simp [wfSt, wfSs, wfStX, wfEs, wfStK, flatB, St.kind, St.thn, St.els, St.name, St.to, St.n, St.at_, St.value, St.args, z1, hm, e]
  · simp [chk1, chkS, defStX, defEs, defStK, St.kind, St.name, St.at_, St.value, St.args, hv, ha, z2]
  · simp [chk1, chkS, arK, St.kind]
  · simp [deep1, deepS, z3]
  · simp only [n1, nS]; omega
  · simp [w1, wS]
  · simp [m1, mS]
theorem nextG_lt {L : List Int} (h : L ≠ []) : (nextG L).2.length < L.length := by
  cases L with
  | nil => exact absurd rfl h
  | cons a l => simp [nextG]
theorem StsOk.more {c : Sc} {k : Nat} {s s' : Sd} {l : List St} {t : Sd} (h : StsOk c k s' l t) (h1 : s'.1.length ≤ s.1.length) (h2 : s'.2 = s.2) : StsOk c k s l t := ⟨h.wf, h.df, h.ar, h.dp, Nat.le_trans h.n h1, h2 ▸ h.w, h.wb, h.m⟩
theorem stmtG_ok {f : Int} {c : Sc} (hc : ScG f c) : ∀ (k deep : Nat), 4 ≤ deep + k → deep ≤ 3 → ∀ s : Sd, s.1 ≠ [] → 0 ≤ s.2 → s.2 ≤ 10 → StOk c (k - 1) s (stmtG f k deep s).1 (stmtG f k deep s).2
  | 0, deep, h1, h2 => by omega
  | k + 1, deep, h1, h2 => fun s hs h0 h10 => by
    have hm := pickG_range (n := w64 ((nextG s.1).1.tdiv 16)) (m := 1000) (by omega) (by omega)
    have hq := pickG_range (n := (nextG s.1).1) (m := 16) (by omega) (by omega)
    rw [stmtG, stmtB]
    refine stmtT_ok hc (nextG_lt hs) hm.1 hm.2 h0 h10 ?_ ?_ ?_
    · unfold kindG; split <;> omega
    · unfold kindG; split <;> omega
    · intro a b
      have hd : deep ≤ 2 := by
        unfold kindG at a b
        split at a <;> omega
      have e : k + 1 - 1 - 1 = k - 1 := by omega
      rw [e]
      refine ⟨by omega, fun most s g0 g1 => StsOk.more (stsG_ok (fun s hs h0 h1 => ?_) _ ((nextG s.1).2, s.2) g0 g1) (nextG_len _) rfl⟩
      exact stmtG_ok hc k (deep + 1) (by omega) (by omega) s hs h0 h1
theorem stmtsG_ok {f : Int} {c : Sc} (hc : ScG f c) {k deep : Nat} (h1 : 4 ≤ deep + k) (h2 : deep ≤ 3) (most : Int) {s : Sd} (h3 : 0 ≤ s.2) (h4 : s.2 ≤ 10) : StsOk c (k - 1) s (stmtsG f k deep most s).1 (stmtsG f k deep most s).2 :=
  StsOk.more (stsG_ok (fun s hs h0 h1' => stmtG_ok hc k deep h1 h2 s hs h0 h1') _ ((nextG s.1).2, s.2) h3 h4) (nextG_len _) rfl
theorem findG (L : List Int) : findF [genF L, genGf L] [102] 0 = 0 ∧ findF [genF L, genGf L] [103] 0 = 1 := ⟨rfl, rfl⟩
theorem scG (f : Int) (l : List Int) {F : Fu} (h : F.params ++ F.locals = nmsG f) : ScG f (scOf (genP l) F) := by
  refine ⟨h, rfl, fun m hm => ?_⟩
  have h1 := Int.tmod_nonneg 2 hm
  have h2 := Int.tmod_lt_of_pos m (show (0 : Int) < 2 by omega)
  show 0 ≤ findF [genF (l.take 60), genGf (l.take 60)] (fgG m) 0 ∧ _
  unfold fgG
  by_cases e : m.tmod 2 = 0
  · rw [if_pos e, e]; exact ⟨by rw [(findG _).1]; omega, rfl⟩
  · rw [if_neg e, show m.tmod 2 = 1 by omega]; exact ⟨by rw [(findG _).2]; omega, rfl⟩
theorem genP_ok (l : List Int) : refCheck (genP l) = 0 := by
  have hl : (l.take 60).length ≤ 60 := by simp; omega
  have c0 : ScG 0 (scOf (genP l) (genF (l.take 60))) := scG 0 l rfl
  have c1 : ScG 1 (scOf (genP l) (genGf (l.take 60))) := scG 1 l rfl
  obtain ⟨L, hL⟩ : ∃ L, l.take 60 = L := ⟨_, rfl⟩
  rw [hL] at hl c0 c1
  have b1 : StsOk (scOf (genP l) (genF L)) 3 ((nextG L).2, 0) (genB1 L).1 (genB1 L).2 := stmtsG_ok c0 (k := 4) (deep := 0) (by omega) (by omega) 5 (s := ((nextG L).2, 0)) (by simp) (by simp)
  have v1 : ExOk 0 4 (genV1 L).1 := exprG_ok 0 4 1 _ (by omega) (by omega)
  have b1w := b1.w
  have b2 : StsOk (scOf (genP l) (genGf L)) 2 ((genV1 L).2, (genB1 L).2.2) (genB2 L).1 (genB2 L).2 := stmtsG_ok c1 (k := 3) (deep := 1) (by omega) (by omega) 3 (s := ((genV1 L).2, (genB1 L).2.2)) (by simp only at b1w ⊢; omega) b1.wb
  have v2 : ExOk 1 4 (genV2 L).1 := exprG_ok 1 4 1 _ (by omega) (by omega)
  have b1n := b1.n
  have b2n := b2.n
  have b2w := b2.w
  have b1b := b1.wb
  have b2b := b2.wb
  simp only at b1n b2n b1w b2w
  have n0 := nextG_len L
  have n1 : (genV1 L).2.length ≤ (genB1 L).2.1.length := exprG_len 0 4 1 _
  have p1 := pickG_range (n := (nextG L).1) (m := 4) (by omega) (by omega)
  have p2 := pickG_range (n := w64 ((nextG L).1.tdiv 4)) (m := 4) (by omega) (by omega)
  have hp : genP l = ⟨genAr L, [genF L, genGf L]⟩ := by rw [genP, hL]
  have m1 := b1.m 0
  have m2 := b2.m 0
  have d1 := v1.dp
  have d2 := v2.dp
  have hex : exB (genP l) = false := by
    rw [hp]
    simp only [exB, genAr, List.any_cons, List.any_nil, exAr, exFn, genF, genGf, List.length_cons, List.length_nil, b1.dp, b2.dp, Bool.or_false, Bool.or_eq_false_iff, decide_eq_false_iff_not]
    refine ⟨⟨⟨decide_eq_false (by omega), ?_⟩, ?_⟩, ?_⟩ <;> omega
  have hwf : wfP (genP l) = true := by
    rw [hp]
    have q : ∀ s ∈ ([[102], [103], [120], [121], [105], [106], [110], [97], [98]] : List (List UInt8)), nameB s = true := by
      intro s hs
      simp only [List.mem_cons, List.not_mem_nil, or_false] at hs
      rcases hs with rfl | rfl | rfl | rfl | rfl | rfl | rfl | rfl | rfl <;> kernel_rfl
    simp only [wfP, genAr, List.all_cons, List.all_nil, wfFn, fnNames, genF, genGf, List.cons_append, List.nil_append, b1.wf, b2.wf, v1.wf, v2.wf, Bool.and_true, Bool.and_eq_true]
    simp [q]
  have hdu : dupP (genP l) = false := by rw [hp]; kernel_rfl
  have hun : (genP l).funcs.any (undFn (genP l)) = false := by
    have e : (genP l).funcs = [genF L, genGf L] := by rw [hp]
    rw [e]
    have w1 : defE (scOf (genP l) (genF L)).vars (scOf (genP l) (genF L)).an (genF L).value = true := by rw [c0.vars, c0.an]; exact v1.df
    have w2 : defE (scOf (genP l) (genGf L)).vars (scOf (genP l) (genGf L)).an (genGf L).value = true := by rw [c1.vars, c1.an]; exact v2.df
    have x1 : chkS (scOf (genP l) (genF L)) false (genF L).body = true := b1.df
    have x2 : chkS (scOf (genP l) (genGf L)) false (genGf L).body = true := b2.df
    simp only [List.any_cons, List.any_nil, undFn, w1, w2, x1, x2]; rfl
  have hba : (genP l).funcs.any (badFn (genP l)) = false := by
    have e : (genP l).funcs = [genF L, genGf L] := by rw [hp]
    rw [e]
    have x1 : chkS (scOf (genP l) (genF L)) true (genF L).body = true := b1.ar
    have x2 : chkS (scOf (genP l) (genGf L)) true (genGf L).body = true := b2.ar
    simp only [List.any_cons, List.any_nil, badFn, x1, x2]; rfl
  rw [refCheck, hex, hwf, hdu, hun, hba]; rfl
end Go.Proofs.Ytackdnelcpbfjaa
namespace Go.Proofs.Ytackdnelcpbfjaa
set_option maxRecDepth 20000
set_option linter.unusedSimpArgs false
set_option linter.unusedVariables false
set_option linter.unusedSectionVars false
set_option linter.defProp false
open Go Go.Ab
/-- The parts of a generated program in scopes like its own. -/
structure GenF (L : List Int) : Prop where
  len : L.length ≤ 60
  b1 : ∀ c, ScG 0 c → wfSs (genB1 L).1 = true ∧ chkS c false (genB1 L).1 = true ∧ chkS c true (genB1 L).1 = true ∧ deepS (genB1 L).1 = false ∧ nS (genB1 L).1 ≤ 60 ∧ wS (genB1 L).1 ≤ 10 ∧ mS (genB1 L).1 0 ≤ 3
  v1 : ExOk 0 4 (genV1 L).1
  b2 : ∀ c, ScG 1 c → wfSs (genB2 L).1 = true ∧ chkS c false (genB2 L).1 = true ∧ chkS c true (genB2 L).1 = true ∧ deepS (genB2 L).1 = false ∧ nS (genB2 L).1 ≤ 60 ∧ wS (genB2 L).1 ≤ 10 ∧ mS (genB2 L).1 0 ≤ 3
  v2 : ExOk 1 4 (genV2 L).1
  x1 : 1 ≤ 1 + pickG (nextG L).1 4 ∧ 1 + pickG (nextG L).1 4 ≤ 4
  x2 : 1 ≤ 1 + pickG (w64 ((nextG L).1.tdiv 4)) 4 ∧ 1 + pickG (w64 ((nextG L).1.tdiv 4)) 4 ≤ 4
end Go.Proofs.Ytackdnelcpbfjaa
namespace Go.Proofs.Ytackdnelcpbfjaa
set_option maxRecDepth 20000
set_option linter.unusedSimpArgs false
set_option linter.unusedVariables false
set_option linter.unusedSectionVars false
set_option linter.defProp false
open Go Go.Ab
def arG2 (x y : Int) : List Ar := [⟨[97], x⟩, ⟨[98], y⟩]
def pr2 (x y : Int) (F G : Fu) : Pr := ⟨arG2 x y, [F, G]⟩
section
variable {L : List Int} (h : GenF L)
include h
end
section
variable {L : List Int} (h : GenF L) {x y : Int} (hx : 1 ≤ x ∧ x ≤ 4) (hy : 1 ≤ y ∧ y ≤ 4)
include h hx hy
end
end Go.Proofs.Ytackdnelcpbfjaa
