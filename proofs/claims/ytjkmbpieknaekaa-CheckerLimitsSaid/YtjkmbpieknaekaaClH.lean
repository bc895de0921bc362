/- Parts: P4e, W4a, W4b, W4c. -/
import Derived.Test.YtjkmbpieknaekaaClG
set_option linter.unusedSimpArgs false
set_option linter.unusedVariables false
set_option linter.unusedSectionVars false
set_option linter.defProp false
namespace Go.Proofs.Ytjkmbpieknaekaa
set_option maxRecDepth 20000
set_option linter.unusedSimpArgs false
set_option linter.unusedVariables false
set_option linter.unusedSectionVars false
set_option linter.defProp false
open Go Go.Ab
namespace tyP4e
def tyF := And.intro @sz3 (And.intro @pt3 (And.intro @bt3 (And.intro @zr3 (And.intro @sz9 (And.intro @pt9 (And.intro @bt9 (And.intro @zr9 (And.intro @ln9 (And.intro @ix9 (And.intro @sz22 (And.intro @pt22 (And.intro @bt22 (And.intro @zr22 (And.intro @ix22l (And.intro @ix22s (And.intro @ln22l (And.intro @ln22s (And.intro @ln22n (And.intro @sz23 (And.intro @pt23 (And.intro @bt23 (And.intro @zr23 (And.intro @ix23l (And.intro @ix23s (And.intro @ln23l (And.intro @ln23s (And.intro @ln23n (And.intro @sz25 (And.intro @pt25 (And.intro @bt25 (And.intro @zr25 (And.intro @fa25_0p (And.intro @fa25_0c (And.intro @fd25_0 (And.intro @fa25_1p (And.intro @fa25_1c (And.intro @fd25_1 (And.intro @sz35 (And.intro @pt35 (And.intro @bt35 (And.intro @zr35 (And.intro @ix35l (And.intro @ix35s (And.intro @ln35l (And.intro @ln35s (And.intro @ln35n (And.intro @sz36 (And.intro @pt36 (And.intro @bt36 (And.intro @zr36 (And.intro @ix36l (And.intro @ix36s (And.intro @ln36l (And.intro @ln36s (And.intro @ln36n (And.intro @sz39 (And.intro @pt39 (And.intro @bt39 (And.intro @zr39 (And.intro @fa39_0p (And.intro @fa39_0c (And.intro @fd39_0 (And.intro @fa39_1p (And.intro @fa39_1c (And.intro @fd39_1 (And.intro @fa39_2p (And.intro @fa39_2c (And.intro @fd39_2 (And.intro @fa39_3p (And.intro @fa39_3c (And.intro @fd39_3 (And.intro @fa39_4p (And.intro @fa39_4c (And.intro @fd39_4 (And.intro @sz41 (And.intro @pt41 (And.intro @bt41 (And.intro @zr41 (And.intro @fa41_0p (And.intro @fa41_0c (And.intro @fd41_0 (And.intro @fa41_1p (And.intro @fa41_1c (And.intro @fd41_1 (And.intro @fa41_2p (And.intro @fa41_2c (And.intro @fd41_2 (And.intro @fa41_3p (And.intro @fa41_3c (And.intro @fd41_3 (And.intro @fa41_4p (And.intro @fa41_4c (And.intro @fd41_4 (And.intro @sz142 (And.intro @pt142 (And.intro @bt142 (And.intro @zr142 (And.intro @ix142l (And.intro @ix142s (And.intro @ln142l (And.intro @ln142s (And.intro @ln142n (And.intro @sz44 (And.intro @pt44 (And.intro @bt44 (And.intro @zr44 (And.intro @fa44_0p (And.intro @fa44_0c (And.intro @fd44_0 (And.intro @fa44_1p (And.intro @fa44_1c (And.intro @fd44_1 (And.intro @sz112 (And.intro @pt112 (And.intro @bt112 (And.intro @zr112 (@bsS1)))))))))))))))))))))))))))))))))))))))))))))))))))))))))))))))))))))))))))))))))))))))))))))))))))))))))))))))))))))
end tyP4e
open tyP4e
noncomputable def code63 : { c : SC // slim 28 (Try.f63.body.getD .skip) = c } := by
  refine ⟨?_, ?_⟩
  rotate_left
  · simp only [Try.f63, Option.getD_some, slim, slimR, slimL, slimD, slimG, Nat.blt, Nat.ble]
    rfl
noncomputable def code62 : { c : SC // slim 38 (Try.f62.body.getD .skip) = c } := by
  refine ⟨?_, ?_⟩
  rotate_left
  · simp only [Try.f62, Option.getD_some, slim, slimR, slimL, slimD, slimG, Nat.blt, Nat.ble]
    rfl
noncomputable def code33 : { c : SC // slim 35 (Try.f33.body.getD .skip) = c } := by
  refine ⟨?_, ?_⟩
  rotate_left
  · simp only [Try.f33, Option.getD_some, slim, slimR, slimL, slimD, slimG, Nat.blt, Nat.ble]
    rfl
def bEs (l : List (List UInt8)) : List (AV × AV) := l.map fun s => (.str s, .bool true)
def addS (l : List (List UInt8)) (s : List UInt8) : List (List UInt8) := if hasS l s = true then l else l ++ [s]
theorem find_bEs (s : List UInt8) : ∀ (l : List (List UInt8)) (i : Nat), (hasS l s = false → findA .string (.str s) (bEs l) i = some none) ∧ (hasS l s = true → ∃ j, findA .string (.str s) (bEs l) i = some (some (i + j, .bool true)) ∧ (bEs l).set j (.str s, .bool true) = bEs l)
  | [], i => ⟨fun _ => rfl, fun h => by simp [hasS] at h⟩
  | a :: l, i => by
    have hh : hasS (a :: l) s = (decide (s = a) || hasS l s) := by rw [show a :: l = [a] ++ l from rfl, hasS_append, hasS_one]
    by_cases h : s = a
    · subst h
      rw [hh, decide_eq_true rfl, Bool.true_or]
      refine ⟨fun h => by simp at h, fun _ => ⟨0, ?_, ?_⟩⟩
      · simp [bEs, findA, keyA]
      · simp [bEs]
    · have hf : findA .string (.str s) (bEs (a :: l)) i = findA .string (.str s) (bEs l) (i + 1) := by
        show findA .string (.str s) ((.str a, .bool true) :: bEs l) i = _
        have : (s == a) = false := by simpa using h
        simp [findA, keyA, this]
      rw [hh, decide_eq_false h, Bool.false_or, hf]
      obtain ⟨g1, g2⟩ := find_bEs s l (i + 1)
      refine ⟨g1, fun q => ?_⟩
      obtain ⟨j, g3, g4⟩ := g2 q
      exact ⟨j + 1, by rw [g3, show i + 1 + j = i + (j + 1) by omega], by show (AV.str a, AV.bool true) :: (bEs l).set j _ = _; rw [g4]; rfl⟩
theorem look_bEs {H : Hp} {r : Nat} {l : List (List UInt8)} (hg : H.get r = some (.map (bEs l))) (s : List UInt8) : lookupA Try.prog H 112 (.map r) (.str s) false = some (.bool (hasS l s)) := by
  obtain ⟨l1, l2⟩ := lookup_map (P := Try.prog) (H := H) (t := 112) (nm := s) (z := .bool false) Try.underlying112 (by kernel_rfl) (by kernel_rfl) hg
  cases h : hasS l s with
  | false => rw [l1 ((find_bEs s l 0).1 h)]
  | true => obtain ⟨j, h1, h2⟩ := (find_bEs s l 0).2 h; rw [l2 _ _ h1]
theorem upd_bEs {H : Hp} {r : Nat} {l : List (List UInt8)} (hg : H.get r = some (.map (bEs l))) (s : List UInt8) : mapUpdateA Try.prog H 112 (.map r) (.str s) (.bool true) = some (H.set r (.map (bEs (addS l s)))) := by
  obtain ⟨l1, l2⟩ := update_map (P := Try.prog) (H := H) (t := 112) (nm := s) (x := .bool true) Try.underlying112 (by kernel_rfl) hg
  cases h : hasS l s with
  | false => rw [l1 ((find_bEs s l 0).1 h), addS, h]; simp [bEs]
  | true => obtain ⟨j, h1, h2⟩ := (find_bEs s l 0).2 h; rw [l2 _ _ h1, Nat.zero_add, h2, addS, if_pos h]
def rwE (x : List (List (List UInt8))) : List AV := [.lst (x.map fun l => [lstS l])]
theorem rwE_inj (x y : List (List (List UInt8))) (h : rwE x = rwE y) : x = y := by
  simp only [rwE, List.cons.injEq, AV.lst.injEq, and_true] at h
  exact map_inj (fun a _ b e => by simp only [List.cons.injEq, AV.lst.injEq, and_true] at e; exact strs_inj e) h
def rwOk (x : List (List (List UInt8))) : Prop := x.length < 2 ^ 60 ∧ ∀ l ∈ x, l.length < 2 ^ 60
theorem rw_pure (x : List (List (List UInt8))) : PureA (.lst (x.map fun l => [lstS l])) := .map fun l _ => .cons (strs_pure l) .nil
set_option maxHeartbeats 8000000 in
theorem hasDup_con (ρ : Nat → Int) (x : List (List (List UInt8))) (hx : rwOk x) : Con Try.prog ρ 63 (rwE x) (.bool (dupFrom [] x.flatten)) := Con.lev fit (pls := pls) (l := []) trivial (.cons (rw_pure x) .nil) (.bool _) (by
  have hw := plain0 63
  obtain ⟨hx1, hx2⟩ := hx
  rw [rwE]
  refine WpCall.slim (M := 28) (rs := [.tmp 2]) (hw.call _) hw.ice hw.froz Try.func63 rfl rfl code63.2 rfl ?_; dsimp only [code63, envOf, Nat.reduceAdd]
  repeat' (first
     | (refine WpL.nil (hK _ _ ?_); clear hK K; try dsimp only [thenQ, blockQ]) | refine Rx.move (hk := ?_) | refine Rx.assign (hk := ?_) | refine Rx.load (hk := ?_) | refine Rx.bin (hk := ?_) | refine Rx.indexAddr (hk := ?_) | refine Rx.len (hk := ?_) | refine Rx.makeMap (hk := ?_) | refine Rx.lookup (hk := ?_) | refine Rx.mapUpdate (hk := ?_) | (refine Rx.cond (h1 := fun hb => ?_) (h2 := fun hb => ?_) <;> (try simp only [Bool.not_true, Bool.not_false, reduceCtorEq] at hb) <;> (try (cases hb; done)) <;> (try have hbp := hb) <;> (try simp only [decide_eq_true_eq, decide_eq_false_iff_not] at hbp)) | refine Wp.seq ?_ | (refine Wp.ops' fun K hK => ?_) | refine Wp.block ?_ | (refine Wp.skip ?_; try dsimp only [thenQ, blockQ]) | (refine Wp.ret ?_; try dsimp only [thenQ, blockQ]) | (refine Wp.exit ?_; try simp only [thenQ, blockQ, reduceIte]))
  refine Wp.forI [3, 9, 10] [] 11 x.length (fun i E H => ∃ seen, H.get 0 = some (.map (bEs seen)) ∧ dupFrom [] x.flatten = dupFrom seen (x.drop i).flatten) (by first | (simp only [sB, Nat.reduceBEq, *]; done) | rfl) ⟨[], by rw [Hp.get_alloc, if_pos (by rfl)]; rfl, rfl⟩ ?_
  rintro i E H2 hi hcE hrH hnH hsI ⟨seen, hm, hJ⟩
  (try simp only [forall_cons, forall_nil, and_true, sB, sO, Nat.reduceBEq, Nat.reduceAdd, Nat.reduceLeDiff, tyF, *] at hcE)
  (try simp only [forall_cons, forall_nil, and_true, sB, sO, Nat.reduceBEq, Nat.reduceAdd, Nat.reduceLeDiff, tyF, *] at hrH)
  (try simp only [Hp.next_alloc, Hp.next_set, H0_next, Nat.zero_add, Nat.reduceAdd] at hnH)
  repeat' (first
     | (refine WpL.nil (hK _ _ ?_); clear hK K; try dsimp only [thenQ, blockQ]) | refine Rx.move (hk := ?_) | refine Rx.assign (hk := ?_) | refine Rx.load (hk := ?_) | refine Rx.bin (hk := ?_) | refine Rx.indexAddr (hk := ?_) | refine Rx.len (hk := ?_) | refine Rx.makeMap (hk := ?_) | refine Rx.lookup (hk := ?_) | refine Rx.mapUpdate (hk := ?_) | (refine Rx.cond (h1 := fun hb => ?_) (h2 := fun hb => ?_) <;> (try simp only [Bool.not_true, Bool.not_false, reduceCtorEq] at hb) <;> (try (cases hb; done)) <;> (try have hbp := hb) <;> (try simp only [decide_eq_true_eq, decide_eq_false_iff_not] at hbp)) | refine Wp.seq ?_ | (refine Wp.ops' fun K hK => ?_) | refine Wp.block ?_ | (refine Wp.skip ?_; try dsimp only [thenQ, blockQ]) | (refine Wp.ret ?_; try dsimp only [thenQ, blockQ]) | (refine Wp.exit ?_; try simp only [thenQ, blockQ, reduceIte]))
  · have hlt : i < x.length := by simpa using hb
    have hgx : x[i]? = some x[i] := List.getElem?_eq_getElem hlt
    have hsm := hx2 _ (List.getElem_mem hlt)
    have hdr : (x.drop i).flatten = x[i] ++ (x.drop (i + 1)).flatten := by rw [List.drop_eq_getElem_cons hlt, List.flatten_cons]
    rw [hdr] at hJ
    clear hdr
    generalize x[i] = row at *
    repeat' (first
       | (refine WpL.nil (hK _ _ ?_); clear hK K; try dsimp only [thenQ, blockQ]) | refine Rx.move (hk := ?_) | refine Rx.assign (hk := ?_) | refine Rx.load (hk := ?_) | refine Rx.bin (hk := ?_) | refine Rx.indexAddr (hk := ?_) | refine Rx.len (hk := ?_) | refine Rx.makeMap (hk := ?_) | refine Rx.lookup (hk := ?_) | refine Rx.mapUpdate (hk := ?_) | (refine Rx.cond (h1 := fun hb => ?_) (h2 := fun hb => ?_) <;> (try simp only [Bool.not_true, Bool.not_false, reduceCtorEq] at hb) <;> (try (cases hb; done)) <;> (try have hbp := hb) <;> (try simp only [decide_eq_true_eq, decide_eq_false_iff_not] at hbp)) | refine Wp.seq ?_ | (refine Wp.ops' fun K hK => ?_) | refine Wp.block ?_ | (refine Wp.skip ?_; try dsimp only [thenQ, blockQ]) | (refine Wp.ret ?_; try dsimp only [thenQ, blockQ]) | (refine Wp.exit ?_; try simp only [thenQ, blockQ, reduceIte]))
    refine Wp.forI [3, 9, 10, 11, 15, 16] [] 17 row.length (fun j E H => ∃ seen, H.get 0 = some (.map (bEs seen)) ∧ dupFrom [] x.flatten = dupFrom seen (row.drop j ++ (x.drop (i + 1)).flatten)) (by first | (simp only [sB, Nat.reduceBEq, *]; done) | rfl) ⟨seen, hm, hJ⟩ ?_
    clear hm hJ seen
    rintro j E3 H3 hj hcE hrH hnH hsI ⟨seen, hm, hJ⟩
    (try simp only [forall_cons, forall_nil, and_true, sB, sO, Nat.reduceBEq, Nat.reduceAdd, Nat.reduceLeDiff, tyF, *] at hcE)
    (try simp only [forall_cons, forall_nil, and_true, sB, sO, Nat.reduceBEq, Nat.reduceAdd, Nat.reduceLeDiff, tyF, *] at hrH)
    (try simp only [Hp.next_alloc, Hp.next_set, H0_next, Nat.zero_add, Nat.reduceAdd] at hnH)
    repeat' (first
       | (refine WpL.nil (hK _ _ ?_); clear hK K; try dsimp only [thenQ, blockQ]) | refine Rx.move (hk := ?_) | refine Rx.assign (hk := ?_) | refine Rx.load (hk := ?_) | refine Rx.bin (hk := ?_) | refine Rx.indexAddr (hk := ?_) | refine Rx.len (hk := ?_) | refine Rx.makeMap (hk := ?_) | refine Rx.lookup (hk := ?_) | refine Rx.mapUpdate (hk := ?_) | (refine Rx.cond (h1 := fun hb => ?_) (h2 := fun hb => ?_) <;> (try simp only [Bool.not_true, Bool.not_false, reduceCtorEq] at hb) <;> (try (cases hb; done)) <;> (try have hbp := hb) <;> (try simp only [decide_eq_true_eq, decide_eq_false_iff_not] at hbp)) | refine Wp.seq ?_ | (refine Wp.ops' fun K hK => ?_) | refine Wp.block ?_ | (refine Wp.skip ?_; try dsimp only [thenQ, blockQ]) | (refine Wp.ret ?_; try dsimp only [thenQ, blockQ]) | (refine Wp.exit ?_; try simp only [thenQ, blockQ, reduceIte]))
    · have hlt2 : j < row.length := by simpa using hb
      have hgx2 : row[j]? = some row[j] := List.getElem?_eq_getElem hlt2
      have hdr : dupFrom seen (row.drop j ++ (x.drop (i + 1)).flatten) = (hasS seen row[j] || dupFrom (seen ++ [row[j]]) (row.drop (j + 1) ++ (x.drop (i + 1)).flatten)) := by rw [List.drop_eq_getElem_cons hlt2]; rfl
      have hlk := look_bEs hm row[j]
      have hup := upd_bEs hm row[j]
      repeat' (first
         | (refine WpL.nil (hK _ _ ?_); clear hK K; try dsimp only [thenQ, blockQ]) | refine Rx.move (hk := ?_) | refine Rx.assign (hk := ?_) | refine Rx.load (hk := ?_) | refine Rx.bin (hk := ?_) | refine Rx.indexAddr (hk := ?_) | refine Rx.len (hk := ?_) | refine Rx.makeMap (hk := ?_) | refine Rx.lookup (hk := ?_) | refine Rx.mapUpdate (hk := ?_) | (refine Rx.cond (h1 := fun hb => ?_) (h2 := fun hb => ?_) <;> (try simp only [Bool.not_true, Bool.not_false, reduceCtorEq] at hb) <;> (try (cases hb; done)) <;> (try have hbp := hb) <;> (try simp only [decide_eq_true_eq, decide_eq_false_iff_not] at hbp)) | refine Wp.seq ?_ | (refine Wp.ops' fun K hK => ?_) | refine Wp.block ?_ | (refine Wp.skip ?_; try dsimp only [thenQ, blockQ]) | (refine Wp.ret ?_; try dsimp only [thenQ, blockQ]) | (refine Wp.exit ?_; try simp only [thenQ, blockQ, reduceIte]))
      · all_goals (refine ⟨by first | exact .inl rfl | exact .inr rfl | exact .inl trivial | exact .inr trivial, _, (by (try simp only [sB, Nat.reduceBEq, resultsA, resultA, *]); first | done | with_reducible rfl), ?_⟩; try simp only [oneOr])
        rw [hJ, hdr]; (try simp only [Bool.not_eq_true', Bool.not_eq_false'] at *); simp only [*, decide_true, decide_false, Bool.false_or, Bool.or_false, Bool.true_or, Bool.or_true, Bool.false_and, Bool.and_false, Bool.true_and, Bool.and_true, Bool.not_true, Bool.not_false, if_true, if_false, Int.reduceEq]
      · refine ⟨by omega, (by simp only [forall_cons, forall_nil, and_true, sB, sO, Nat.reduceBEq, Nat.reduceAdd, Nat.reduceLeDiff, tyF, *]), (by simp only [forall_cons, forall_nil, and_true, sB, sO, Nat.reduceBEq, Nat.reduceAdd, Nat.reduceLeDiff, tyF, *]), by (try simp only [Hp.next_alloc, Hp.next_set, H0_next, Nat.zero_add, Nat.reduceAdd]); omega, (by simp only [sB, Nat.reduceBEq, *]; exact i64_succ (n := row.length) (by omega) (by omega)), ?_⟩
        refine ⟨addS seen row[j], by rw [Hp.get_set, if_pos (by rfl)], ?_⟩
        rw [hJ, hdr, addS]; (try simp only [Bool.not_eq_true', Bool.not_eq_false'] at *); simp only [*, decide_true, decide_false, Bool.false_or, Bool.or_false, Bool.true_or, Bool.or_true, Bool.false_and, Bool.and_false, Bool.true_and, Bool.and_true, Bool.not_true, Bool.not_false, if_true, if_false, Int.reduceEq]; rfl
    · have hje : j = row.length := by simp at hb; omega
      repeat' (first
         | (refine WpL.nil (hK _ _ ?_); clear hK K; try dsimp only [thenQ, blockQ]) | refine Rx.move (hk := ?_) | refine Rx.assign (hk := ?_) | refine Rx.load (hk := ?_) | refine Rx.bin (hk := ?_) | refine Rx.indexAddr (hk := ?_) | refine Rx.len (hk := ?_) | refine Rx.makeMap (hk := ?_) | refine Rx.lookup (hk := ?_) | refine Rx.mapUpdate (hk := ?_) | (refine Rx.cond (h1 := fun hb => ?_) (h2 := fun hb => ?_) <;> (try simp only [Bool.not_true, Bool.not_false, reduceCtorEq] at hb) <;> (try (cases hb; done)) <;> (try have hbp := hb) <;> (try simp only [decide_eq_true_eq, decide_eq_false_iff_not] at hbp)) | refine Wp.seq ?_ | (refine Wp.ops' fun K hK => ?_) | refine Wp.block ?_ | (refine Wp.skip ?_; try dsimp only [thenQ, blockQ]) | (refine Wp.ret ?_; try dsimp only [thenQ, blockQ]) | (refine Wp.exit ?_; try simp only [thenQ, blockQ, reduceIte]))
      refine ⟨by omega, (by simp only [forall_cons, forall_nil, and_true, sB, sO, Nat.reduceBEq, Nat.reduceAdd, Nat.reduceLeDiff, tyF, *]), (by simp only [forall_cons, forall_nil, and_true, sB, sO, Nat.reduceBEq, Nat.reduceAdd, Nat.reduceLeDiff, tyF, *]), by (try simp only [Hp.next_alloc, Hp.next_set, H0_next, Nat.zero_add, Nat.reduceAdd]); omega, (by simp only [sB, Nat.reduceBEq, *]; exact i64_succ (n := x.length) (by omega) (by omega)), ?_⟩
      exact ⟨seen, hm, by rw [hJ, hje, List.drop_length, List.nil_append]⟩
  · all_goals (refine ⟨by first | exact .inl rfl | exact .inr rfl | exact .inl trivial | exact .inr trivial, _, (by (try simp only [sB, Nat.reduceBEq, resultsA, resultA, *]); first | done | with_reducible rfl), ?_⟩; try simp only [oneOr])
    have hie : i = x.length := by simp at hb; omega
    rw [hJ, hie, List.drop_length]; rfl)
def nlS (l : List (List UInt8)) : AV := if l = [] then .nilS else lstS l
def StrX (H : Hp) (v : AV) (l : List (List UInt8)) (lo : Nat) : Prop := (v = .nilS ∧ l = []) ∨ (l ≠ [] ∧ StrB H v l lo)
theorem StrX.n {H : Hp} {v : AV} {l : List (List UInt8)} {lo : Nat} (h : StrX H v l lo) : StrN H v l lo := h.imp id fun h => h.2
theorem StrX.keep {H H' : Hp} {v : AV} {l : List (List UInt8)} {lo : Nat} (h : StrX H v l lo) (hn : H.next ≤ H'.next) (hg : ∀ k, ownS v k → H'.get k = H.get k) : StrX H' v l lo := h.imp id fun h => ⟨h.1, h.2.keep hn hg⟩
theorem iceL_strs (H : Hp) (n : Nat) : ∀ l : List (List UInt8), iceL (iceV H (n + 1)) (l.map .str) = some (l.map .str)
  | [] => rfl
  | a :: l => by
    have := iceL_strs H n l
    have e : iceV H (n + 1) (.str a) = some (.str a) := rfl
    simp only [List.map_cons, iceL, e, this]
theorem StrX.iceV {H : Hp} {v : AV} {l : List (List UInt8)} {lo : Nat} (h : StrX H v l lo) (n : Nat) : iceV H (n + 2) v = some (nlS l) := by
  rcases h with ⟨rfl, rfl⟩ | ⟨h0, r, imm, rfl, h2, _⟩
  · rfl
  · have e : Ab.iceV H (n + 2) (.sl r 0 l.length 1) = match H.get r with
      | some (.cells cs _ _) => match iceL (Ab.iceV H (n + 1)) ((cs.drop 0).take (l.length * 1)) with
        | some l' => if l'.length = l.length * 1 then some (.lst (chunk 1 l.length l')) else none
        | none => none
      | _ => none := rfl
    rw [e, h2]
    simp only [List.drop_zero, Nat.mul_one]
    rw [List.take_of_length_le (by simp), iceL_strs]
    simp only [List.length_map, if_true, chunk_one]
    rw [nlS, if_neg h0]
theorem wk_nlS (n : Nat) (l : List (List UInt8)) : wkN (n + 2) (nlS l) = lstS l := by
  unfold nlS
  split
  · rename_i h; subst h; rfl
  · show AV.lst ((l.map fun s => [AV.str s]).map fun row => row.map (wkN (n + 1))) = _
    rw [List.map_map]; rfl
set_option maxRecDepth 100000 in
set_option maxHeartbeats 8000000 in
theorem declared_con (ρ : Nat → Int) (p : Pr) (hz : p.sz < 2 ^ 36) : Con Try.prog ρ 62 (prE p) (.tup [lstS (arNames p), lstS (fnNms p)]) := Con.wk' (n := 3) (Con.of_made (r := .tup [nlS (arNames p), nlS (fnNms p)]) (m := 3) (cfg := cfgN pls []) fit (noDec ρ) (fun f args r h => by simp [cfgN, lookN] at h) (.cons (.agg p.pure) .nil) (by
  have hw := plain0 62
  have hkeep : (cfgN pls []).keep 62 = false := rfl
  have hpz : p.sz = 1 + arrsSz p.arrays + fnsSz p.funcs := rfl
  have hla := arrsSz_len p.arrays
  have hlf := fnsSz_len p.funcs
  rw [prE]
  refine WpCall.slim (M := 38) (rs := [.tmp 2, .tmp 3]) (hw.call _) hw.ice hw.froz Try.func62 rfl rfl code62.2 rfl ?_; dsimp only [code62, envOf, Nat.reduceAdd]
  repeat' (first
     | (refine WpL.nil (hK _ _ ?_); clear hK K; try dsimp only [thenQ, blockQ]) | refine Rx.move (hk := ?_) | refine Rx.assign (hk := ?_) | refine Rx.load (hk := ?_) | refine Rx.bin (hk := ?_) | refine Rx.fieldAddr (hk := ?_) | refine Rx.indexAddr (hk := ?_) | refine Rx.len (hk := ?_) | refine Rx.box (hk := ?_) | refine Rx.alloc (hk := ?_) | refine Rx.store (hk := ?_) | refine Rx.buildSlice (hk := ?_) | refine Rx.append (hk := ?_) | (refine Rx.cond (h1 := fun hb => ?_) (h2 := fun hb => ?_) <;> (try simp only [Bool.not_true, Bool.not_false, reduceCtorEq] at hb) <;> (try (cases hb; done)) <;> (try have hbp := hb) <;> (try simp only [decide_eq_true_eq, decide_eq_false_iff_not] at hbp)) | refine Wp.seq ?_ | (refine Wp.ops' fun K hK => ?_) | refine Wp.block ?_ | (refine Wp.skip ?_; try dsimp only [thenQ, blockQ]) | (refine Wp.ret ?_; try dsimp only [thenQ, blockQ]) | (refine Wp.exit ?_; try simp only [thenQ, blockQ, reduceIte]))
  refine Wp.forI [1, 2, 3, 5, 11, 12] [0] 13 p.arrays.length (fun i E H => ∃ v, E.at 4 = v ∧ StrX H v ((arNames p).take i) 1) (by first | (simp only [sB, Nat.reduceBEq, *]; done) | rfl) ⟨.nilS, (by first | (simp only [sB, Nat.reduceBEq, *]; done) | rfl), .inl ⟨rfl, rfl⟩⟩ ?_
  rintro i E H2 hi hcE hrH hnH hsI ⟨v, k4, hv⟩
  (try simp only [forall_cons, forall_nil, and_true, sB, sO, Nat.reduceBEq, Nat.reduceAdd, Nat.reduceLeDiff, tyF, *] at hcE)
  (try simp only [forall_cons, forall_nil, and_true, sB, sO, Nat.reduceBEq, Nat.reduceAdd, Nat.reduceLeDiff, tyF, *] at hrH)
  (try simp only [Hp.next_alloc, Hp.next_set, H0_next, Nat.zero_add, Nat.reduceAdd] at hnH)
  have hB0 : (0 == H2.next) = false := ne_beq (by omega)
  have hC0 : (H2.next == 0) = false := ne_beq (by omega)
  repeat' (first
     | (refine WpL.nil (hK _ _ ?_); clear hK K; try dsimp only [thenQ, blockQ]) | refine Rx.move (hk := ?_) | refine Rx.assign (hk := ?_) | refine Rx.load (hk := ?_) | refine Rx.bin (hk := ?_) | refine Rx.fieldAddr (hk := ?_) | refine Rx.indexAddr (hk := ?_) | refine Rx.len (hk := ?_) | refine Rx.box (hk := ?_) | refine Rx.alloc (hk := ?_) | refine Rx.store (hk := ?_) | refine Rx.buildSlice (hk := ?_) | refine Rx.append (hk := ?_) | (refine Rx.cond (h1 := fun hb => ?_) (h2 := fun hb => ?_) <;> (try simp only [Bool.not_true, Bool.not_false, reduceCtorEq] at hb) <;> (try (cases hb; done)) <;> (try have hbp := hb) <;> (try simp only [decide_eq_true_eq, decide_eq_false_iff_not] at hbp)) | refine Wp.seq ?_ | (refine Wp.ops' fun K hK => ?_) | refine Wp.block ?_ | (refine Wp.skip ?_; try dsimp only [thenQ, blockQ]) | (refine Wp.ret ?_; try dsimp only [thenQ, blockQ]) | (refine Wp.exit ?_; try simp only [thenQ, blockQ, reduceIte]))
  · have hlt : i < p.arrays.length := by simpa using hb
    have hgx : p.arrays[i]? = some p.arrays[i] := List.getElem?_eq_getElem hlt
    have htk : (arNames p).take (i + 1) = (arNames p).take i ++ [p.arrays[i].name] := by rw [arNames, List.take_add_one, List.getElem?_map, hgx]; rfl
    repeat' (first
       | (refine WpL.nil (hK _ _ ?_); clear hK K; try dsimp only [thenQ, blockQ]) | refine Rx.move (hk := ?_) | refine Rx.assign (hk := ?_) | refine Rx.load (hk := ?_) | refine Rx.bin (hk := ?_) | refine Rx.fieldAddr (hk := ?_) | refine Rx.indexAddr (hk := ?_) | refine Rx.len (hk := ?_) | refine Rx.box (hk := ?_) | refine Rx.alloc (hk := ?_) | refine Rx.store (hk := ?_) | refine Rx.buildSlice (hk := ?_) | refine Rx.append (hk := ?_) | (refine Rx.cond (h1 := fun hb => ?_) (h2 := fun hb => ?_) <;> (try simp only [Bool.not_true, Bool.not_false, reduceCtorEq] at hb) <;> (try (cases hb; done)) <;> (try have hbp := hb) <;> (try simp only [decide_eq_true_eq, decide_eq_false_iff_not] at hbp)) | refine Wp.seq ?_ | (refine Wp.ops' fun K hK => ?_) | refine Wp.block ?_ | (refine Wp.skip ?_; try dsimp only [thenQ, blockQ]) | (refine Wp.ret ?_; try dsimp only [thenQ, blockQ]) | (refine Wp.exit ?_; try simp only [thenQ, blockQ, reduceIte]))
    generalize hHb : Hp.alloc (Hp.set _ _ _) _ = Hb
    have nb : Hb.next = H2.next + 2 := by rw [← hHb]; rfl
    have oldb : ∀ k, k < H2.next → Hb.get k = H2.get k := fun k hk => by rw [← hHb, Hp.get_alloc, if_neg (by simp only [Hp.next_set, Hp.next_alloc]; omega), Hp.get_set, if_neg (by omega), Hp.get_alloc, if_neg (by omega)]
    have gb : Hb.get (H2.next + 1) = some (.cells [.str p.arrays[i].name] 0 true) := by rw [← hHb, Hp.get_alloc, if_pos (by rfl)]
    clear hHb
    have hvb : StrN Hb v ((arNames p).take i) 1 := hv.n.keep (by omega) fun k hk => oldb k (hv.n.lt hk).2
    obtain ⟨v5, H5, a5, s5, n5, f5, o5⟩ := app_one (r := H2.next + 1) (imm := 0) p.arrays[i].name hvb (by omega) gb (by simp; omega)
    have n5' : Hb.next ≤ H5.next := by omega
    clear n5
    have g50 : H5.get 0 = some (.cells p.cells 0 true) := by rw [f5 0 (by omega), oldb 0 (by omega)]; exact hrH
    refine WpL.append (by (try simp only [sB, Nat.reduceBEq, *]); first | done | with_reducible rfl) (by (try simp only [sB, Nat.reduceBEq, *]); first | done | with_reducible rfl) (by rw [hkeep]; exact a5) ?_
    repeat' (first
       | (refine WpL.nil (hK _ _ ?_); clear hK K; try dsimp only [thenQ, blockQ]) | refine Rx.move (hk := ?_) | refine Rx.assign (hk := ?_) | refine Rx.load (hk := ?_) | refine Rx.bin (hk := ?_) | refine Rx.fieldAddr (hk := ?_) | refine Rx.indexAddr (hk := ?_) | refine Rx.len (hk := ?_) | refine Rx.box (hk := ?_) | refine Rx.alloc (hk := ?_) | refine Rx.store (hk := ?_) | refine Rx.buildSlice (hk := ?_) | refine Rx.append (hk := ?_) | (refine Rx.cond (h1 := fun hb => ?_) (h2 := fun hb => ?_) <;> (try simp only [Bool.not_true, Bool.not_false, reduceCtorEq] at hb) <;> (try (cases hb; done)) <;> (try have hbp := hb) <;> (try simp only [decide_eq_true_eq, decide_eq_false_iff_not] at hbp)) | refine Wp.seq ?_ | (refine Wp.ops' fun K hK => ?_) | refine Wp.block ?_ | (refine Wp.skip ?_; try dsimp only [thenQ, blockQ]) | (refine Wp.ret ?_; try dsimp only [thenQ, blockQ]) | (refine Wp.exit ?_; try simp only [thenQ, blockQ, reduceIte]))
    refine ⟨by omega, (by simp only [forall_cons, forall_nil, and_true, sB, sO, Nat.reduceBEq, Nat.reduceAdd, Nat.reduceLeDiff, tyF, *]), (by simp only [forall_cons, forall_nil, and_true, sB, sO, Nat.reduceBEq, Nat.reduceAdd, Nat.reduceLeDiff, tyF, *]), by (try simp only [Hp.next_alloc, Hp.next_set, H0_next, Nat.zero_add, Nat.reduceAdd]); omega, (by simp only [sB, Nat.reduceBEq, *]; exact i64_succ (n := p.arrays.length) (by omega) (by omega)), ?_⟩
    exact ⟨v5, (by first | (simp only [sB, Nat.reduceBEq, *]; done) | rfl), .inr ⟨by rw [htk]; simp, by rw [htk]; exact s5⟩⟩
  · have hie : i = p.arrays.length := by simp at hb; omega
    have hte : (arNames p).take i = arNames p := List.take_of_length_le (by simp [arNames]; omega)
    rw [hte] at hv
    clear hte hie hsI hi
    repeat' (first
       | (refine WpL.nil (hK _ _ ?_); clear hK K; try dsimp only [thenQ, blockQ]) | refine Rx.move (hk := ?_) | refine Rx.assign (hk := ?_) | refine Rx.load (hk := ?_) | refine Rx.bin (hk := ?_) | refine Rx.fieldAddr (hk := ?_) | refine Rx.indexAddr (hk := ?_) | refine Rx.len (hk := ?_) | refine Rx.box (hk := ?_) | refine Rx.alloc (hk := ?_) | refine Rx.store (hk := ?_) | refine Rx.buildSlice (hk := ?_) | refine Rx.append (hk := ?_) | (refine Rx.cond (h1 := fun hb => ?_) (h2 := fun hb => ?_) <;> (try simp only [Bool.not_true, Bool.not_false, reduceCtorEq] at hb) <;> (try (cases hb; done)) <;> (try have hbp := hb) <;> (try simp only [decide_eq_true_eq, decide_eq_false_iff_not] at hbp)) | refine Wp.seq ?_ | (refine Wp.ops' fun K hK => ?_) | refine Wp.block ?_ | (refine Wp.skip ?_; try dsimp only [thenQ, blockQ]) | (refine Wp.ret ?_; try dsimp only [thenQ, blockQ]) | (refine Wp.exit ?_; try simp only [thenQ, blockQ, reduceIte]))
    have c3 : ∀ k, ownS v k → k < H2.next := fun k hk => (hv.n.lt hk).2
    refine Wp.forI [2, 3, 4, 24, 25] [0] 26 p.funcs.length (fun i E H => ∃ u, E.at 5 = u ∧ StrX H u ((fnNms p).take i) H2.next ∧ StrX H v (arNames p) 1) (by first | (simp only [sB, Nat.reduceBEq, *]; done) | rfl) ⟨.nilS, (by first | (simp only [sB, Nat.reduceBEq, *]; done) | rfl), .inl ⟨rfl, rfl⟩, hv⟩ ?_
    rintro i E H3 hi hcE hrH hnH hsI ⟨u, k5, hu, hv3⟩
    (try simp only [forall_cons, forall_nil, and_true, sB, sO, Nat.reduceBEq, Nat.reduceAdd, Nat.reduceLeDiff, tyF, *] at hcE)
    (try simp only [forall_cons, forall_nil, and_true, sB, sO, Nat.reduceBEq, Nat.reduceAdd, Nat.reduceLeDiff, tyF, *] at hrH)
    (try simp only [Hp.next_alloc, Hp.next_set, H0_next, Nat.zero_add, Nat.reduceAdd] at hnH)
    have hB0 : (0 == H3.next) = false := ne_beq (by omega)
    have hC0 : (H3.next == 0) = false := ne_beq (by omega)
    repeat' (first
       | (refine WpL.nil (hK _ _ ?_); clear hK K; try dsimp only [thenQ, blockQ]) | refine Rx.move (hk := ?_) | refine Rx.assign (hk := ?_) | refine Rx.load (hk := ?_) | refine Rx.bin (hk := ?_) | refine Rx.fieldAddr (hk := ?_) | refine Rx.indexAddr (hk := ?_) | refine Rx.len (hk := ?_) | refine Rx.box (hk := ?_) | refine Rx.alloc (hk := ?_) | refine Rx.store (hk := ?_) | refine Rx.buildSlice (hk := ?_) | refine Rx.append (hk := ?_) | (refine Rx.cond (h1 := fun hb => ?_) (h2 := fun hb => ?_) <;> (try simp only [Bool.not_true, Bool.not_false, reduceCtorEq] at hb) <;> (try (cases hb; done)) <;> (try have hbp := hb) <;> (try simp only [decide_eq_true_eq, decide_eq_false_iff_not] at hbp)) | refine Wp.seq ?_ | (refine Wp.ops' fun K hK => ?_) | refine Wp.block ?_ | (refine Wp.skip ?_; try dsimp only [thenQ, blockQ]) | (refine Wp.ret ?_; try dsimp only [thenQ, blockQ]) | (refine Wp.exit ?_; try simp only [thenQ, blockQ, reduceIte]))
    · have hlt : i < p.funcs.length := by simpa using hb
      have hgx : p.funcs[i]? = some p.funcs[i] := List.getElem?_eq_getElem hlt
      have htk : (fnNms p).take (i + 1) = (fnNms p).take i ++ [p.funcs[i].name] := by rw [fnNms, List.take_add_one, List.getElem?_map, hgx]; rfl
      repeat' (first
         | (refine WpL.nil (hK _ _ ?_); clear hK K; try dsimp only [thenQ, blockQ]) | refine Rx.move (hk := ?_) | refine Rx.assign (hk := ?_) | refine Rx.load (hk := ?_) | refine Rx.bin (hk := ?_) | refine Rx.fieldAddr (hk := ?_) | refine Rx.indexAddr (hk := ?_) | refine Rx.len (hk := ?_) | refine Rx.box (hk := ?_) | refine Rx.alloc (hk := ?_) | refine Rx.store (hk := ?_) | refine Rx.buildSlice (hk := ?_) | refine Rx.append (hk := ?_) | (refine Rx.cond (h1 := fun hb => ?_) (h2 := fun hb => ?_) <;> (try simp only [Bool.not_true, Bool.not_false, reduceCtorEq] at hb) <;> (try (cases hb; done)) <;> (try have hbp := hb) <;> (try simp only [decide_eq_true_eq, decide_eq_false_iff_not] at hbp)) | refine Wp.seq ?_ | (refine Wp.ops' fun K hK => ?_) | refine Wp.block ?_ | (refine Wp.skip ?_; try dsimp only [thenQ, blockQ]) | (refine Wp.ret ?_; try dsimp only [thenQ, blockQ]) | (refine Wp.exit ?_; try simp only [thenQ, blockQ, reduceIte]))
      generalize hHb : Hp.alloc (Hp.set _ _ _) _ = Hb
      have nb : Hb.next = H3.next + 2 := by rw [← hHb]; rfl
      have oldb : ∀ k, k < H3.next → Hb.get k = H3.get k := fun k hk => by rw [← hHb, Hp.get_alloc, if_neg (by simp only [Hp.next_set, Hp.next_alloc]; omega), Hp.get_set, if_neg (by omega), Hp.get_alloc, if_neg (by omega)]
      have gb : Hb.get (H3.next + 1) = some (.cells [.str p.funcs[i].name] 0 true) := by rw [← hHb, Hp.get_alloc, if_pos (by rfl)]
      clear hHb
      have hub : StrN Hb u ((fnNms p).take i) H2.next := hu.n.keep (by omega) fun k hk => oldb k (hu.n.lt hk).2
      obtain ⟨v5, H5, a5, s5, n5, f5, o5⟩ := app_one (r := H3.next + 1) (imm := 0) p.funcs[i].name hub (by omega) gb (by simp; omega)
      have n5' : Hb.next ≤ H5.next := by omega
      clear n5
      have g50 : H5.get 0 = some (.cells p.cells 0 true) := by rw [f5 0 (by omega), oldb 0 (by omega)]; exact hrH
      refine WpL.append (by (try simp only [sB, Nat.reduceBEq, *]); first | done | with_reducible rfl) (by (try simp only [sB, Nat.reduceBEq, *]); first | done | with_reducible rfl) (by rw [hkeep]; exact a5) ?_
      repeat' (first
         | (refine WpL.nil (hK _ _ ?_); clear hK K; try dsimp only [thenQ, blockQ]) | refine Rx.move (hk := ?_) | refine Rx.assign (hk := ?_) | refine Rx.load (hk := ?_) | refine Rx.bin (hk := ?_) | refine Rx.fieldAddr (hk := ?_) | refine Rx.indexAddr (hk := ?_) | refine Rx.len (hk := ?_) | refine Rx.box (hk := ?_) | refine Rx.alloc (hk := ?_) | refine Rx.store (hk := ?_) | refine Rx.buildSlice (hk := ?_) | refine Rx.append (hk := ?_) | (refine Rx.cond (h1 := fun hb => ?_) (h2 := fun hb => ?_) <;> (try simp only [Bool.not_true, Bool.not_false, reduceCtorEq] at hb) <;> (try (cases hb; done)) <;> (try have hbp := hb) <;> (try simp only [decide_eq_true_eq, decide_eq_false_iff_not] at hbp)) | refine Wp.seq ?_ | (refine Wp.ops' fun K hK => ?_) | refine Wp.block ?_ | (refine Wp.skip ?_; try dsimp only [thenQ, blockQ]) | (refine Wp.ret ?_; try dsimp only [thenQ, blockQ]) | (refine Wp.exit ?_; try simp only [thenQ, blockQ, reduceIte]))
      refine ⟨by omega, (by simp only [forall_cons, forall_nil, and_true, sB, sO, Nat.reduceBEq, Nat.reduceAdd, Nat.reduceLeDiff, tyF, *]), (by simp only [forall_cons, forall_nil, and_true, sB, sO, Nat.reduceBEq, Nat.reduceAdd, Nat.reduceLeDiff, tyF, *]), by (try simp only [Hp.next_alloc, Hp.next_set, H0_next, Nat.zero_add, Nat.reduceAdd]); omega, (by simp only [sB, Nat.reduceBEq, *]; exact i64_succ (n := p.funcs.length) (by omega) (by omega)), ?_⟩
      exact ⟨v5, (by first | (simp only [sB, Nat.reduceBEq, *]; done) | rfl), .inr ⟨by rw [htk]; simp, by rw [htk]; exact s5⟩, hv3.keep (by omega) fun k hk => by rw [f5 k (c3 k hk), oldb k (by have := c3 k hk; omega)]⟩
    · have hie : i = p.funcs.length := by simp at hb; omega
      have hte : (fnNms p).take i = fnNms p := List.take_of_length_le (by simp [fnNms]; omega)
      rw [hte] at hu
      repeat' (first
         | (refine WpL.nil (hK _ _ ?_); clear hK K; try dsimp only [thenQ, blockQ]) | refine Rx.move (hk := ?_) | refine Rx.assign (hk := ?_) | refine Rx.load (hk := ?_) | refine Rx.bin (hk := ?_) | refine Rx.fieldAddr (hk := ?_) | refine Rx.indexAddr (hk := ?_) | refine Rx.len (hk := ?_) | refine Rx.box (hk := ?_) | refine Rx.alloc (hk := ?_) | refine Rx.store (hk := ?_) | refine Rx.buildSlice (hk := ?_) | refine Rx.append (hk := ?_) | (refine Rx.cond (h1 := fun hb => ?_) (h2 := fun hb => ?_) <;> (try simp only [Bool.not_true, Bool.not_false, reduceCtorEq] at hb) <;> (try (cases hb; done)) <;> (try have hbp := hb) <;> (try simp only [decide_eq_true_eq, decide_eq_false_iff_not] at hbp)) | refine Wp.seq ?_ | (refine Wp.ops' fun K hK => ?_) | refine Wp.block ?_ | (refine Wp.skip ?_; try dsimp only [thenQ, blockQ]) | (refine Wp.ret ?_; try dsimp only [thenQ, blockQ]) | (refine Wp.exit ?_; try simp only [thenQ, blockQ, reduceIte]))
      all_goals (refine ⟨by first | exact .inl rfl | exact .inr rfl | exact .inl trivial | exact .inr trivial, _, (by (try simp only [sB, Nat.reduceBEq, resultsA, resultA, *]); first | done | with_reducible rfl), ?_⟩; try simp only [oneOr])
      have e1 := hv3.iceV (n := 0)
      have e2 := hu.iceV (n := 0)
      show (match iceL (iceV H3 2) [v, u] with | some ds => some (AV.tup ds) | none => none) = _
      simp only [iceL, e1, e2])) (by
  show AV.tup [wkN 2 (nlS (arNames p)), wkN 2 (nlS (fnNms p))] = _
  rw [wk_nlS, wk_nlS])
noncomputable def enDecl : En := ⟨62, false, spP (fun p => p.sz < 2 ^ 36) prE fun p => .tup [lstS (arNames p), lstS (fnNms p)]⟩
theorem enDecl_ok (ρ : Nat → Int) : EnOk Try.prog ρ enDecl := spP_ok fun p hp => declared_con ρ p hp
noncomputable def enHasD : En := ⟨63, true, spP rwOk rwE fun x => .bool (dupFrom [] x.flatten)⟩
theorem enHasD_ok (ρ : Nat → Int) : EnOk Try.prog ρ enHasD := spP_ok fun x hx => hasDup_con ρ x hx
theorem flat1 (x : List (List (List UInt8))) : (x.map fun l => [lstS l]).flatten = x.map lstS := by
  induction x with
  | nil => rfl
  | cons a l ih => simp [ih]
/-- Rows in memory, made unchangeable. -/
theorem rows_ice {H : Hp} {r imm : Nat} {x : List (List (List UInt8))} (hg : H.get r = some (.cells (x.map lstS) imm true)) (hr : r < H.next) (hi : imm ≤ x.length) :
    ∃ H', iceHL (iceH 100) [.sl r 0 x.length 1] H = some (rwE x, H') ∧ Icy (fun k => k = r) H H' := by
  refine Ic.iceL (S := fun k => k = r) (n := 100) (m := rwE x) ⟨?_, trivial⟩
  have h := Ic.rows (S := fun k => k = r) (n := 99) (H := H) (r := r) (z := 1) (imm := imm) (tip := true) (a := x.map fun l => [lstS l]) (b := x.map fun l => [lstS l]) rfl hr (by rw [flat1]; exact hg) (by rw [flat1]; simpa using hi) (by simp) (All2.refl fun a ha => All2.refl fun c hc => by
    obtain ⟨l, _, rfl⟩ := List.mem_map.1 ha
    rw [List.mem_singleton] at hc
    subst hc
    exact Ic.flat ⟨strs_pure l, trivial⟩)
  rw [List.length_map] at h
  exact h
theorem hasDupM {l : List En} (hl : ∀ ar, lookN l 63 ar = enHasD.sp ar) (hi : iceN l 63 = true) {H : Hp} {r imm : Nat} {x : List (List (List UInt8))} (hg : H.get r = some (.cells (x.map lstS) imm true)) (hr : r < H.next) (him : imm ≤ x.length) (hx : rwOk x) :
    WpCall Try.prog (cfgN pls l) 63 [.sl r 0 x.length 1] H fun v H' => v = .bool (dupFrom [] x.flatten) ∧ Icy (fun k => k = r) H H' := by
  obtain ⟨H', h1, h2⟩ := rows_ice hg hr him
  refine WpCall.mono ?_ (WpCall.enI (enc := rwE) (out := fun x => .bool (dupFrom [] x.flatten)) rwE_inj (x := x) hl hi hx (H' := H') (fun y _ e => by simp [rwE] at e) h1)
  rintro v _ ⟨rfl, rfl⟩
  exact ⟨rfl, h2⟩
theorem bsR1 (H : Hp) (a : List (List AV)) : buildSliceA Try.prog H 142 1 [(0, .lst a)] = some (.sl H.next 0 1 1, H.alloc (.cells [.lst a] 0 true)) := by kernel_rfl
theorem bsR2 (H : Hp) (a b : List (List AV)) : buildSliceA Try.prog H 142 2 [(0, .lst a), (1, .lst b)] = some (.sl H.next 0 2 1, H.alloc (.cells [.lst a, .lst b] 0 true)) := by kernel_rfl
theorem bsR3 (H : Hp) (a b c : List (List AV)) : buildSliceA Try.prog H 142 3 [(0, .lst a), (1, .lst b), (2, .lst c)] = some (.sl H.next 0 3 1, H.alloc (.cells [.lst a, .lst b, .lst c] 0 true)) := by kernel_rfl
noncomputable def levDup : List En := [enDecl, enHasD]
theorem levDup_ok (ρ : Nat → Int) : EnsOk Try.prog ρ levDup := ⟨enDecl_ok ρ, enHasD_ok ρ, trivial⟩
set_option maxRecDepth 100000 in
set_option maxHeartbeats 8000000 in
theorem duplicates_con (ρ : Nat → Int) (p : Pr) (hz : p.sz < 2 ^ 36) : Con Try.prog ρ 33 (prE p) (.bool (dupB p)) := Con.lev fit (pls := pls) (levDup_ok ρ) (.cons (.agg p.pure) .nil) (.bool _) (by
  have hw : Plain (cfgN pls levDup) 33 := plainN (fun _ => rfl) rfl
  have kd : ∀ H, WpCall Try.prog (cfgN pls levDup) 62 [.agg p.cells] H fun v H' => v = .tup [lstS (arNames p), lstS (fnNms p)] ∧ H' = H := fun H => WpCall.en (enc := prE) (out := fun p => .tup [lstS (arNames p), lstS (fnNms p)]) prE_inj (x := p) rfl hz
  have hpz : p.sz = 1 + arrsSz p.arrays + fnsSz p.funcs := rfl
  have hla := arrsSz_len p.arrays
  have hlf := fnsSz_len p.funcs
  have hal : (arNames p).length = p.arrays.length := by simp [arNames]
  have hfl : (fnNms p).length = p.funcs.length := by simp [fnNms]
  have hx0 : ∀ a b, Ab.extract (.tup [a, b]) 0 = some a := fun _ _ => rfl
  have hx1 : ∀ a b, Ab.extract (.tup [a, b]) 1 = some b := fun _ _ => rfl
  rw [prE]
  refine WpCall.slim (M := 35) (rs := [.tmp 2]) (hw.call _) hw.ice hw.froz Try.func33 rfl rfl code33.2 rfl ?_; dsimp only [code33, envOf, Nat.reduceAdd]
  have gh0 := @bsR1
  repeat' (first
     | (refine WpL.nil (hK _ _ ?_); clear hK K; try dsimp only [thenQ, blockQ]) | refine Rx.move (hk := ?_) | refine Rx.assign (hk := ?_) | refine Rx.load (hk := ?_) | refine Rx.bin (hk := ?_) | refine Rx.fieldAddr (hk := ?_) | refine Rx.indexAddr (hk := ?_) | refine Rx.len (hk := ?_) | refine Rx.pick (hk := ?_) | refine Rx.box (hk := ?_) | refine Rx.alloc (hk := ?_) | refine Rx.store (hk := ?_) | refine Rx.extract (hk := ?_) | refine Rx.buildSlice (hk := ?_) | (refine Rx.call (hk := ?_); simp only [List.cons_append, List.nil_append, List.append_nil]; refine WpCall.mono ?_ (kd _); rintro _ _ ⟨rfl, rfl⟩; try dsimp only [setO]) | (refine Rx.guardU (hk := ?_); dsimp only [setO]) | (refine Rx.guard (h1 := fun hg => ?_) (h2 := fun hg => ?_) <;> (try simp only [Bool.not_true, Bool.not_false, reduceCtorEq] at hg) <;> (try (cases hg; done)) <;> (try have hgp := hg) <;> (try simp only [decide_eq_true_eq, decide_eq_false_iff_not] at hgp) <;> (try dsimp only [setO])) | (refine Rx.cond (h1 := fun hb => ?_) (h2 := fun hb => ?_) <;> (try simp only [Bool.not_true, Bool.not_false, reduceCtorEq] at hb) <;> (try (cases hb; done)) <;> (try have hbp := hb) <;> (try simp only [decide_eq_true_eq, decide_eq_false_iff_not] at hbp)) | refine Wp.seq ?_ | (refine Wp.ops' fun K hK => ?_) | refine Wp.block ?_ | (refine Wp.skip ?_; try dsimp only [thenQ, blockQ]) | (refine Wp.ret ?_; try dsimp only [thenQ, blockQ]) | (refine Wp.exit ?_; try simp only [thenQ, blockQ, reduceIte]))
  refine WpL.call rfl (by (try simp only [sB, Nat.reduceBEq, *, -hK]); first | done | with_reducible rfl) (by (try simp only [sB, Nat.reduceBEq, aevals, List.cons_append, List.nil_append, *, -hK]); first | done | with_reducible rfl) ?_; simp only [List.cons_append, List.nil_append, List.append_nil]
  refine WpCall.mono ?_ (hasDupM (x := [arNames p]) (imm := 0) (fun _ => rfl) rfl (by rw [Hp.get_alloc, if_pos (by rfl)]; rfl) (Nat.lt_succ_self _) (by simp) ⟨by simp, by simp; omega⟩)
  rintro v H2 ⟨rfl, hy⟩
  have n2 := hy.next
  simp only [Hp.next_alloc, H0_next] at n2
  have g20 : H2.get 0 = some (.cells p.cells 0 true) := by rw [hy.out 0 (by simp), Hp.get_alloc, if_neg (by simp), Hp.get_alloc, if_pos (by rfl)]
  have n2' : 2 ≤ H2.next := by omega
  clear hy n2
  rw [show ([arNames p] : List (List (List UInt8))).flatten = arNames p by simp]
  dsimp only [setO]
  have gh0 := @bsR1
  repeat' (first
     | (refine WpL.nil (hK _ _ ?_); clear hK K; try dsimp only [thenQ, blockQ]) | refine Rx.move (hk := ?_) | refine Rx.assign (hk := ?_) | refine Rx.load (hk := ?_) | refine Rx.bin (hk := ?_) | refine Rx.fieldAddr (hk := ?_) | refine Rx.indexAddr (hk := ?_) | refine Rx.len (hk := ?_) | refine Rx.pick (hk := ?_) | refine Rx.box (hk := ?_) | refine Rx.alloc (hk := ?_) | refine Rx.store (hk := ?_) | refine Rx.extract (hk := ?_) | refine Rx.buildSlice (hk := ?_) | (refine Rx.guardU (hk := ?_); dsimp only [setO]) | (refine Rx.guard (h1 := fun hg => ?_) (h2 := fun hg => ?_) <;> (try simp only [Bool.not_true, Bool.not_false, reduceCtorEq] at hg) <;> (try (cases hg; done)) <;> (try have hgp := hg) <;> (try simp only [decide_eq_true_eq, decide_eq_false_iff_not] at hgp) <;> (try dsimp only [setO])) | (refine Rx.cond (h1 := fun hb => ?_) (h2 := fun hb => ?_) <;> (try simp only [Bool.not_true, Bool.not_false, reduceCtorEq] at hb) <;> (try (cases hb; done)) <;> (try have hbp := hb) <;> (try simp only [decide_eq_true_eq, decide_eq_false_iff_not] at hbp)) | refine Wp.seq ?_ | (refine Wp.ops' fun K hK => ?_) | refine Wp.block ?_ | (refine Wp.skip ?_; try dsimp only [thenQ, blockQ]) | (refine Wp.ret ?_; try dsimp only [thenQ, blockQ]) | (refine Wp.exit ?_; try simp only [thenQ, blockQ, reduceIte]))
  · refine WpL.call rfl (by (try simp only [sB, Nat.reduceBEq, *, -hK]); first | done | with_reducible rfl) (by (try simp only [sB, Nat.reduceBEq, aevals, List.cons_append, List.nil_append, *, -hK]); first | done | with_reducible rfl) ?_; simp only [List.cons_append, List.nil_append, List.append_nil]
    refine WpCall.mono ?_ (hasDupM (x := [fnNms p]) (imm := 0) (fun _ => rfl) rfl (by rw [Hp.get_alloc, if_pos (by rfl)]; rfl) (Nat.lt_succ_self _) (by simp) ⟨by simp, by simp; omega⟩)
    rintro v H3 ⟨rfl, hy⟩
    have n3 := hy.next
    simp only [Hp.next_alloc] at n3
    have g30 : H3.get 0 = some (.cells p.cells 0 true) := by rw [hy.out 0 (by omega), Hp.get_alloc, if_neg (by omega)]; exact g20
    have n3' : 2 ≤ H3.next := by omega
    clear hy n3
    rw [show ([fnNms p] : List (List (List UInt8))).flatten = fnNms p by simp]
    dsimp only [setO]
    repeat' (first
       | (refine WpL.nil (hK _ _ ?_); clear hK K; try dsimp only [thenQ, blockQ]) | refine Rx.move (hk := ?_) | refine Rx.assign (hk := ?_) | refine Rx.load (hk := ?_) | refine Rx.bin (hk := ?_) | refine Rx.fieldAddr (hk := ?_) | refine Rx.indexAddr (hk := ?_) | refine Rx.len (hk := ?_) | refine Rx.pick (hk := ?_) | refine Rx.box (hk := ?_) | refine Rx.alloc (hk := ?_) | refine Rx.store (hk := ?_) | refine Rx.extract (hk := ?_) | refine Rx.buildSlice (hk := ?_) | (refine Rx.guardU (hk := ?_); dsimp only [setO]) | (refine Rx.guard (h1 := fun hg => ?_) (h2 := fun hg => ?_) <;> (try simp only [Bool.not_true, Bool.not_false, reduceCtorEq] at hg) <;> (try (cases hg; done)) <;> (try have hgp := hg) <;> (try simp only [decide_eq_true_eq, decide_eq_false_iff_not] at hgp) <;> (try dsimp only [setO])) | (refine Rx.cond (h1 := fun hb => ?_) (h2 := fun hb => ?_) <;> (try simp only [Bool.not_true, Bool.not_false, reduceCtorEq] at hb) <;> (try (cases hb; done)) <;> (try have hbp := hb) <;> (try simp only [decide_eq_true_eq, decide_eq_false_iff_not] at hbp)) | refine Wp.seq ?_ | (refine Wp.ops' fun K hK => ?_) | refine Wp.block ?_ | (refine Wp.skip ?_; try dsimp only [thenQ, blockQ]) | (refine Wp.ret ?_; try dsimp only [thenQ, blockQ]) | (refine Wp.exit ?_; try simp only [thenQ, blockQ, reduceIte]))
    · all_goals (refine ⟨by first | exact .inl rfl | exact .inr rfl | exact .inl trivial | exact .inr trivial, _, (by (try simp only [sB, Nat.reduceBEq, resultsA, resultA, *]); first | done | with_reducible rfl), ?_⟩; try simp only [oneOr])
      rw [dupB]; (try simp only [Bool.not_eq_true', Bool.not_eq_false'] at *); simp only [*, decide_true, decide_false, Bool.false_or, Bool.or_false, Bool.true_or, Bool.or_true, Bool.false_and, Bool.and_false, Bool.true_and, Bool.and_true, Bool.not_true, Bool.not_false, if_true, if_false, Int.reduceEq]
    · refine Wp.forI [3, 21, 22] [0] 23 p.funcs.length (fun i E H => (p.funcs.any fun f => dupFrom [] (arNames p ++ (f.params ++ f.locals))) = ((p.funcs.drop i).any fun f => dupFrom [] (arNames p ++ (f.params ++ f.locals)))) (by first | (simp only [sB, Nat.reduceBEq, *]; done) | rfl) (by simp) ?_
      rintro i E H4 hi hcE hrH hnH hsI hJ
      (try simp only [forall_cons, forall_nil, and_true, sB, sO, Nat.reduceBEq, Nat.reduceAdd, Nat.reduceLeDiff, tyF, *] at hcE)
      (try simp only [forall_cons, forall_nil, and_true, sB, sO, Nat.reduceBEq, Nat.reduceAdd, Nat.reduceLeDiff, tyF, *] at hrH)
      (try simp only [Hp.next_alloc, Hp.next_set, H0_next, Nat.zero_add, Nat.reduceAdd] at hnH)
      have hB0 : (0 == H4.next) = false := ne_beq (by omega)
      have hC0 : (H4.next == 0) = false := ne_beq (by omega)
      repeat' (first
         | (refine WpL.nil (hK _ _ ?_); clear hK K; try dsimp only [thenQ, blockQ]) | refine Rx.move (hk := ?_) | refine Rx.assign (hk := ?_) | refine Rx.load (hk := ?_) | refine Rx.bin (hk := ?_) | refine Rx.fieldAddr (hk := ?_) | refine Rx.indexAddr (hk := ?_) | refine Rx.len (hk := ?_) | refine Rx.pick (hk := ?_) | refine Rx.box (hk := ?_) | refine Rx.alloc (hk := ?_) | refine Rx.store (hk := ?_) | refine Rx.extract (hk := ?_) | refine Rx.buildSlice (hk := ?_) | (refine Rx.guardU (hk := ?_); dsimp only [setO]) | (refine Rx.guard (h1 := fun hg => ?_) (h2 := fun hg => ?_) <;> (try simp only [Bool.not_true, Bool.not_false, reduceCtorEq] at hg) <;> (try (cases hg; done)) <;> (try have hgp := hg) <;> (try simp only [decide_eq_true_eq, decide_eq_false_iff_not] at hgp) <;> (try dsimp only [setO])) | (refine Rx.cond (h1 := fun hb => ?_) (h2 := fun hb => ?_) <;> (try simp only [Bool.not_true, Bool.not_false, reduceCtorEq] at hb) <;> (try (cases hb; done)) <;> (try have hbp := hb) <;> (try simp only [decide_eq_true_eq, decide_eq_false_iff_not] at hbp)) | refine Wp.seq ?_ | (refine Wp.ops' fun K hK => ?_) | refine Wp.block ?_ | (refine Wp.skip ?_; try dsimp only [thenQ, blockQ]) | (refine Wp.ret ?_; try dsimp only [thenQ, blockQ]) | (refine Wp.exit ?_; try simp only [thenQ, blockQ, reduceIte]))
      · have hlt : i < p.funcs.length := by simpa using hb
        have hgx : p.funcs[i]? = some p.funcs[i] := List.getElem?_eq_getElem hlt
        have hsm := fnsSz_mem (List.getElem_mem hlt)
        have hsz : p.funcs[i].sz = 1 + p.funcs[i].name.length + strsSz p.funcs[i].params + strsSz p.funcs[i].locals + stmtsSz p.funcs[i].body + p.funcs[i].value.sz := rfl
        have hpl := strsSz_len p.funcs[i].params
        have hll := strsSz_len p.funcs[i].locals
        have hdr : ((p.funcs.drop i).any fun f => dupFrom [] (arNames p ++ (f.params ++ f.locals))) = (dupFrom [] (arNames p ++ (p.funcs[i].params ++ p.funcs[i].locals)) || ((p.funcs.drop (i + 1)).any fun f => dupFrom [] (arNames p ++ (f.params ++ f.locals)))) := by rw [List.drop_eq_getElem_cons hlt, List.any_cons]
        have gh0 := @bsR3
        repeat' (first
           | (refine WpL.nil (hK _ _ ?_); clear hK K; try dsimp only [thenQ, blockQ]) | refine Rx.move (hk := ?_) | refine Rx.assign (hk := ?_) | refine Rx.load (hk := ?_) | refine Rx.bin (hk := ?_) | refine Rx.fieldAddr (hk := ?_) | refine Rx.indexAddr (hk := ?_) | refine Rx.len (hk := ?_) | refine Rx.pick (hk := ?_) | refine Rx.box (hk := ?_) | refine Rx.alloc (hk := ?_) | refine Rx.store (hk := ?_) | refine Rx.extract (hk := ?_) | refine Rx.buildSlice (hk := ?_) | (refine Rx.guardU (hk := ?_); dsimp only [setO]) | (refine Rx.guard (h1 := fun hg => ?_) (h2 := fun hg => ?_) <;> (try simp only [Bool.not_true, Bool.not_false, reduceCtorEq] at hg) <;> (try (cases hg; done)) <;> (try have hgp := hg) <;> (try simp only [decide_eq_true_eq, decide_eq_false_iff_not] at hgp) <;> (try dsimp only [setO])) | (refine Rx.cond (h1 := fun hb => ?_) (h2 := fun hb => ?_) <;> (try simp only [Bool.not_true, Bool.not_false, reduceCtorEq] at hb) <;> (try (cases hb; done)) <;> (try have hbp := hb) <;> (try simp only [decide_eq_true_eq, decide_eq_false_iff_not] at hbp)) | refine Wp.seq ?_ | (refine Wp.ops' fun K hK => ?_) | refine Wp.block ?_ | (refine Wp.skip ?_; try dsimp only [thenQ, blockQ]) | (refine Wp.ret ?_; try dsimp only [thenQ, blockQ]) | (refine Wp.exit ?_; try simp only [thenQ, blockQ, reduceIte]))
        refine WpL.call rfl (by (try simp only [sB, Nat.reduceBEq, *, -hK]); first | done | with_reducible rfl) (by (try simp only [sB, Nat.reduceBEq, aevals, List.cons_append, List.nil_append, *, -hK]); first | done | with_reducible rfl) ?_; simp only [List.cons_append, List.nil_append, List.append_nil]
        refine WpCall.mono ?_ (hasDupM (x := [arNames p, p.funcs[i].params, p.funcs[i].locals]) (imm := 0) (fun _ => rfl) rfl (by rw [Hp.get_alloc, if_pos (by rfl)]; rfl) (Nat.lt_succ_self _) (by simp) ⟨by simp, by simp; omega⟩)
        rintro v H5 ⟨rfl, hy⟩
        have n5 := hy.next
        simp only [Hp.next_alloc, Hp.next_set] at n5
        have g50 : H5.get 0 = some (.cells p.cells 0 true) := by rw [hy.out 0 (by intro e; change (0 : Nat) = _ at e; (try simp only [Hp.next_set, Hp.next_alloc] at e); omega), Hp.get_alloc, if_neg (by (try simp only [Hp.next_set, Hp.next_alloc]); omega), Hp.get_set, if_neg (by omega), Hp.get_alloc, if_neg (by omega)]; exact hrH
        have n5' : H4.next ≤ H5.next := by omega
        clear hy n5
        rw [show ([arNames p, p.funcs[i].params, p.funcs[i].locals] : List (List (List UInt8))).flatten = arNames p ++ (p.funcs[i].params ++ p.funcs[i].locals) by simp]
        dsimp only [setO]
        repeat' (first
           | (refine WpL.nil (hK _ _ ?_); clear hK K; try dsimp only [thenQ, blockQ]) | refine Rx.move (hk := ?_) | refine Rx.assign (hk := ?_) | refine Rx.load (hk := ?_) | refine Rx.bin (hk := ?_) | refine Rx.fieldAddr (hk := ?_) | refine Rx.indexAddr (hk := ?_) | refine Rx.len (hk := ?_) | refine Rx.pick (hk := ?_) | refine Rx.box (hk := ?_) | refine Rx.alloc (hk := ?_) | refine Rx.store (hk := ?_) | refine Rx.extract (hk := ?_) | refine Rx.buildSlice (hk := ?_) | (refine Rx.guardU (hk := ?_); dsimp only [setO]) | (refine Rx.guard (h1 := fun hg => ?_) (h2 := fun hg => ?_) <;> (try simp only [Bool.not_true, Bool.not_false, reduceCtorEq] at hg) <;> (try (cases hg; done)) <;> (try have hgp := hg) <;> (try simp only [decide_eq_true_eq, decide_eq_false_iff_not] at hgp) <;> (try dsimp only [setO])) | (refine Rx.cond (h1 := fun hb => ?_) (h2 := fun hb => ?_) <;> (try simp only [Bool.not_true, Bool.not_false, reduceCtorEq] at hb) <;> (try (cases hb; done)) <;> (try have hbp := hb) <;> (try simp only [decide_eq_true_eq, decide_eq_false_iff_not] at hbp)) | refine Wp.seq ?_ | (refine Wp.ops' fun K hK => ?_) | refine Wp.block ?_ | (refine Wp.skip ?_; try dsimp only [thenQ, blockQ]) | (refine Wp.ret ?_; try dsimp only [thenQ, blockQ]) | (refine Wp.exit ?_; try simp only [thenQ, blockQ, reduceIte]))
        · all_goals (refine ⟨by first | exact .inl rfl | exact .inr rfl | exact .inl trivial | exact .inr trivial, _, (by (try simp only [sB, Nat.reduceBEq, resultsA, resultA, *]); first | done | with_reducible rfl), ?_⟩; try simp only [oneOr])
          rw [dupB, hJ, hdr]; (try simp only [Bool.not_eq_true', Bool.not_eq_false'] at *); simp only [*, decide_true, decide_false, Bool.false_or, Bool.or_false, Bool.true_or, Bool.or_true, Bool.false_and, Bool.and_false, Bool.true_and, Bool.and_true, Bool.not_true, Bool.not_false, if_true, if_false, Int.reduceEq]
        · refine ⟨by omega, (by simp only [forall_cons, forall_nil, and_true, sB, sO, Nat.reduceBEq, Nat.reduceAdd, Nat.reduceLeDiff, tyF, *]), (by simp only [forall_cons, forall_nil, and_true, sB, sO, Nat.reduceBEq, Nat.reduceAdd, Nat.reduceLeDiff, tyF, *]), by (try simp only [Hp.next_alloc, Hp.next_set, H0_next, Nat.zero_add, Nat.reduceAdd]); omega, (by simp only [sB, Nat.reduceBEq, *]; exact i64_succ (n := p.funcs.length) (by omega) (by omega)), ?_⟩
          rw [hJ, hdr]; (try simp only [Bool.not_eq_true', Bool.not_eq_false'] at *); simp only [*, decide_true, decide_false, Bool.false_or, Bool.or_false, Bool.true_or, Bool.or_true, Bool.false_and, Bool.and_false, Bool.true_and, Bool.and_true, Bool.not_true, Bool.not_false, if_true, if_false, Int.reduceEq]
      · all_goals (refine ⟨by first | exact .inl rfl | exact .inr rfl | exact .inl trivial | exact .inr trivial, _, (by (try simp only [sB, Nat.reduceBEq, resultsA, resultA, *]); first | done | with_reducible rfl), ?_⟩; try simp only [oneOr])
        have hie : i = p.funcs.length := by simp at hb; omega
        rw [hie, List.drop_length] at hJ
        have hJ2 : (p.funcs.any fun f => dupFrom [] (arNames p ++ (f.params ++ f.locals))) = false := hJ
        rw [dupB, hJ2]; (try simp only [Bool.not_eq_true', Bool.not_eq_false'] at *); simp only [*, decide_true, decide_false, Bool.false_or, Bool.or_false, Bool.true_or, Bool.or_true, Bool.false_and, Bool.and_false, Bool.true_and, Bool.and_true, Bool.not_true, Bool.not_false, if_true, if_false, Int.reduceEq]
  · repeat' (first
       | (refine WpL.nil (hK _ _ ?_); clear hK K; try dsimp only [thenQ, blockQ]) | refine Rx.move (hk := ?_) | refine Rx.assign (hk := ?_) | refine Rx.load (hk := ?_) | refine Rx.bin (hk := ?_) | refine Rx.fieldAddr (hk := ?_) | refine Rx.indexAddr (hk := ?_) | refine Rx.len (hk := ?_) | refine Rx.pick (hk := ?_) | refine Rx.box (hk := ?_) | refine Rx.alloc (hk := ?_) | refine Rx.store (hk := ?_) | refine Rx.extract (hk := ?_) | refine Rx.buildSlice (hk := ?_) | (refine Rx.guardU (hk := ?_); dsimp only [setO]) | (refine Rx.guard (h1 := fun hg => ?_) (h2 := fun hg => ?_) <;> (try simp only [Bool.not_true, Bool.not_false, reduceCtorEq] at hg) <;> (try (cases hg; done)) <;> (try have hgp := hg) <;> (try simp only [decide_eq_true_eq, decide_eq_false_iff_not] at hgp) <;> (try dsimp only [setO])) | (refine Rx.cond (h1 := fun hb => ?_) (h2 := fun hb => ?_) <;> (try simp only [Bool.not_true, Bool.not_false, reduceCtorEq] at hb) <;> (try (cases hb; done)) <;> (try have hbp := hb) <;> (try simp only [decide_eq_true_eq, decide_eq_false_iff_not] at hbp)) | refine Wp.seq ?_ | (refine Wp.ops' fun K hK => ?_) | refine Wp.block ?_ | (refine Wp.skip ?_; try dsimp only [thenQ, blockQ]) | (refine Wp.ret ?_; try dsimp only [thenQ, blockQ]) | (refine Wp.exit ?_; try simp only [thenQ, blockQ, reduceIte]))
    all_goals (refine ⟨by first | exact .inl rfl | exact .inr rfl | exact .inl trivial | exact .inr trivial, _, (by (try simp only [sB, Nat.reduceBEq, resultsA, resultA, *]); first | done | with_reducible rfl), ?_⟩; try simp only [oneOr])
    rw [dupB]; (try simp only [Bool.not_eq_true', Bool.not_eq_false'] at *); simp only [*, decide_true, decide_false, Bool.false_or, Bool.or_false, Bool.true_or, Bool.or_true, Bool.false_and, Bool.and_false, Bool.true_and, Bool.and_true, Bool.not_true, Bool.not_false, if_true, if_false, Int.reduceEq])
end Go.Proofs.Ytjkmbpieknaekaa
namespace Go.Proofs.Ytjkmbpieknaekaa
set_option maxRecDepth 20000
set_option linter.unusedSimpArgs false
set_option linter.unusedVariables false
set_option linter.unusedSectionVars false
set_option linter.defProp false
open Go Go.Ab
namespace tyW4a
def tyF := And.intro @sz3 (And.intro @pt3 (And.intro @bt3 (And.intro @zr3 (And.intro @sz9 (And.intro @pt9 (And.intro @bt9 (And.intro @zr9 (And.intro @ln9 (And.intro @ix9 (And.intro @sz36 (And.intro @pt36 (And.intro @bt36 (And.intro @zr36 (And.intro @ix36l (And.intro @ix36s (And.intro @ln36l (And.intro @ln36s (And.intro @ln36n (And.intro @sz37 (And.intro @pt37 (And.intro @bt37 (And.intro @zr37 (And.intro @ix37l (And.intro @ix37s (And.intro @ln37l (And.intro @ln37s (And.intro @ln37n (And.intro @sz39 (And.intro @pt39 (And.intro @bt39 (And.intro @zr39 (And.intro @fa39_0p (And.intro @fa39_0c (And.intro @fd39_0 (And.intro @fa39_1p (And.intro @fa39_1c (And.intro @fd39_1 (And.intro @fa39_2p (And.intro @fa39_2c (And.intro @fd39_2 (And.intro @fa39_3p (And.intro @fa39_3c (And.intro @fd39_3 (And.intro @fa39_4p (And.intro @fa39_4c (And.intro @fd39_4 (And.intro @sz46 (And.intro @pt46 (And.intro @bt46 (And.intro @zr46 (And.intro @fa46_0p (And.intro @fa46_0c (And.intro @fd46_0 (And.intro @fa46_1p (And.intro @fa46_1c (And.intro @fd46_1 (And.intro @fa46_2p (And.intro @fa46_2c (And.intro @fd46_2 (And.intro @fa46_3p (And.intro @fa46_3c (And.intro @fd46_3 (And.intro @fa46_4p (And.intro @fa46_4c (And.intro @fd46_4 (And.intro @fa46_5p (And.intro @fa46_5c (And.intro @fd46_5 (And.intro @fa46_6p (And.intro @fa46_6c (And.intro @fd46_6 (And.intro @fa46_7p (And.intro @fa46_7c (And.intro @fd46_7 (And.intro @fa46_8p (And.intro @fa46_8c (And.intro @fd46_8 (And.intro @sz2 (And.intro @pt2 (And.intro @bt2 (@zr2)))))))))))))))))))))))))))))))))))))))))))))))))))))))))))))))))))))))))))))))))
end tyW4a
open tyW4a
noncomputable def code59 : { c : SC // slim 28 (Try.f59.body.getD .skip) = c } := by
  refine ⟨?_, ?_⟩
  rotate_left
  · simp only [Try.f59, Option.getD_some, slim, slimR, slimL, slimD, slimG, Nat.blt, Nat.ble]
    rfl
noncomputable def code53 : { c : SC // slim 39 (Try.f53.body.getD .skip) = c } := by
  refine ⟨?_, ?_⟩
  rotate_left
  · simp only [Try.f53, Option.getD_some, slim, slimR, slimL, slimD, slimG, Nat.blt, Nat.ble]
    rfl
/-- A visitor without a state. -/
def VisitE (cfg : Cfg) (base : Nat) (I : Hp → Prop) (g : FuncId) (cap : List AV) (q : Ex → Int → Bool) : Prop :=
  ∀ (x : Ex) (d : Int) (H : Hp), x.sz < 2 ^ 60 → base ≤ H.next → I H → WpCall Try.prog cfg g (.agg x.cells :: .int .i64 d :: cap) H fun v H' => v = .bool (q x d) ∧ FrB base H H' ∧ I H'
/-- What is said of the heap is said of the blocks below 'base'. -/
def OfLow (base : Nat) (I : Hp → Prop) : Prop := ∀ H H', I H → Low base H H' → I H'
theorem walkExpr_wp {cfg : Cfg} (hw : Plain cfg 59) {base : Nat} {I : Hp → Prop} (hI : OfLow base I) {g : FuncId} {cap : List AV} {q : Ex → Int → Bool} (hq : VisitE cfg base I g cap q) :
    ∀ (n : Nat) (x : Ex), x.sz < n → ∀ (d : Int) (H : Hp), x.sz < 2 ^ 60 → base ≤ H.next → I H → WpCall Try.prog cfg 59 [.agg x.cells, .int .i64 d, .clo g cap] H fun v H' => v = .bool (walkE q x d) ∧ FrB base H H' ∧ I H'
  | 0, x, hx, _, _, _, _, _ => by omega
  | n + 1, x, hx, d, H, hz, hbase, hi => by
    refine WpCall.slim (M := 28) (rs := [.tmp 6]) (hw.call _) hw.ice hw.froz Try.func59 rfl rfl code59.2 rfl ?_; dsimp only [code59, envOf, Nat.reduceAdd]
    repeat' (first
       | (refine WpL.nil (hK _ _ ?_); clear hK K; try dsimp only [thenQ, blockQ]) | refine Rx.move (hk := ?_) | refine Rx.assign (hk := ?_) | refine Rx.load (hk := ?_) | refine Rx.bin (hk := ?_) | refine Rx.un (hk := ?_) | refine Rx.fieldAddr (hk := ?_) | refine Rx.indexAddr (hk := ?_) | refine Rx.len (hk := ?_) | refine Rx.box (hk := ?_) | refine Rx.alloc (hk := ?_) | refine Rx.store (hk := ?_) | (refine Rx.cond (h1 := fun hb => ?_) (h2 := fun hb => ?_) <;> (try simp only [Bool.not_true, Bool.not_false, reduceCtorEq] at hb) <;> (try (cases hb; done)) <;> (try have hbp := hb) <;> (try simp only [decide_eq_true_eq, decide_eq_false_iff_not] at hbp)) | refine Wp.seq ?_ | (refine Wp.ops' fun K hK => ?_) | refine Wp.block ?_ | (refine Wp.skip ?_; try dsimp only [thenQ, blockQ]) | (refine Wp.ret ?_; try dsimp only [thenQ, blockQ]) | (refine Wp.exit ?_; try simp only [thenQ, blockQ, reduceIte]))
    refine WpL.call rfl (by (try simp only [sB, Nat.reduceBEq, *, -hK]); first | done | with_reducible rfl) (by (try simp only [sB, Nat.reduceBEq, aevals, List.cons_append, List.nil_append, *, -hK]); first | done | with_reducible rfl) ?_; simp only [List.cons_append, List.nil_append, List.append_nil]
    have hH1 : FrB base H (H.alloc (.cells x.cells 0 true)) := (FrB.refl _ _).alloc _
    refine WpCall.mono ?_ (hq x d (H.alloc (.cells x.cells 0 true)) hz (by simp only [Hp.next_alloc]; omega) (hI _ _ hi ((Low.refl _ _).alloc hbase _)))
    rintro v H1 ⟨rfl, hf1, hi1⟩
    have hg1 : H1.get H.next = some (.cells x.cells 0 true) := by
      rw [hf1.get _ hbase (by simp [Hp.next_alloc]), Hp.get_alloc, if_pos rfl]
    have hn1 : H.next < H1.next := by have := hf1.next; simp only [Hp.next_alloc] at this; omega
    dsimp only [setO]
    repeat' (first
       | (refine WpL.nil (hK _ _ ?_); clear hK K; try dsimp only [thenQ, blockQ]) | refine Rx.move (hk := ?_) | refine Rx.assign (hk := ?_) | refine Rx.load (hk := ?_) | refine Rx.bin (hk := ?_) | refine Rx.un (hk := ?_) | refine Rx.fieldAddr (hk := ?_) | refine Rx.indexAddr (hk := ?_) | refine Rx.len (hk := ?_) | refine Rx.box (hk := ?_) | refine Rx.alloc (hk := ?_) | refine Rx.store (hk := ?_) | (refine Rx.cond (h1 := fun hb => ?_) (h2 := fun hb => ?_) <;> (try simp only [Bool.not_true, Bool.not_false, reduceCtorEq] at hb) <;> (try (cases hb; done)) <;> (try have hbp := hb) <;> (try simp only [decide_eq_true_eq, decide_eq_false_iff_not] at hbp)) | refine Wp.seq ?_ | (refine Wp.ops' fun K hK => ?_) | refine Wp.block ?_ | (refine Wp.skip ?_; try dsimp only [thenQ, blockQ]) | (refine Wp.ret ?_; try dsimp only [thenQ, blockQ]) | (refine Wp.exit ?_; try simp only [thenQ, blockQ, reduceIte]))
    · all_goals (refine ⟨by first | exact .inl rfl | exact .inr rfl | exact .inl trivial | exact .inr trivial, _, (by (try simp only [sB, Nat.reduceBEq, resultsA, resultA, *]); first | done | with_reducible rfl), ?_⟩; try simp only [oneOr])
      refine ⟨?_, hH1.trans hf1, hi1⟩
      rw [walkE_eq]
      simp_all
    have hl : x.kids.length < 2 ^ 60 := by have := exprsSz_len x.kids; have := x.sz_eq; omega
    refine Wp.loopN (fun i E H2 => walkEs q x.kids (w64 (d + 1)) = walkEs q (x.kids.drop i) (w64 (d + 1)) ∧ E.at 1 = .int .i64 d ∧ E.at 2 = .clo g cap ∧ E.at 15 = .lst (x.kids.map Ex.cells) ∧ E.at 16 = .int .i64 x.kids.length ∧ E.at 17 = .int .i64 i ∧ FrB base H H2 ∧ I H2) x.kids.length ?_ ?_
    · rintro i E H2 hi2 ⟨hc, h1, h2, h15, h16, h17, hf2, hI2⟩
      repeat' (first
         | (refine WpL.nil (hK _ _ ?_); clear hK K; try dsimp only [thenQ, blockQ]) | refine Rx.move (hk := ?_) | refine Rx.assign (hk := ?_) | refine Rx.load (hk := ?_) | refine Rx.bin (hk := ?_) | refine Rx.un (hk := ?_) | refine Rx.fieldAddr (hk := ?_) | refine Rx.indexAddr (hk := ?_) | refine Rx.len (hk := ?_) | refine Rx.box (hk := ?_) | refine Rx.alloc (hk := ?_) | refine Rx.store (hk := ?_) | (refine Rx.cond (h1 := fun hb => ?_) (h2 := fun hb => ?_) <;> (try simp only [Bool.not_true, Bool.not_false, reduceCtorEq] at hb) <;> (try (cases hb; done)) <;> (try have hbp := hb) <;> (try simp only [decide_eq_true_eq, decide_eq_false_iff_not] at hbp)) | refine Wp.seq ?_ | (refine Wp.ops' fun K hK => ?_) | refine Wp.block ?_ | (refine Wp.skip ?_; try dsimp only [thenQ, blockQ]) | (refine Wp.ret ?_; try dsimp only [thenQ, blockQ]) | (refine Wp.exit ?_; try simp only [thenQ, blockQ, reduceIte]))
      · have hlt : i < x.kids.length := by simpa using hb
        have hgx : x.kids[i]? = some x.kids[i] := List.getElem?_eq_getElem hlt
        repeat' (first
           | (refine WpL.nil (hK _ _ ?_); clear hK K; try dsimp only [thenQ, blockQ]) | refine Rx.move (hk := ?_) | refine Rx.assign (hk := ?_) | refine Rx.load (hk := ?_) | refine Rx.bin (hk := ?_) | refine Rx.un (hk := ?_) | refine Rx.fieldAddr (hk := ?_) | refine Rx.indexAddr (hk := ?_) | refine Rx.len (hk := ?_) | refine Rx.box (hk := ?_) | refine Rx.alloc (hk := ?_) | refine Rx.store (hk := ?_) | (refine Rx.cond (h1 := fun hb => ?_) (h2 := fun hb => ?_) <;> (try simp only [Bool.not_true, Bool.not_false, reduceCtorEq] at hb) <;> (try (cases hb; done)) <;> (try have hbp := hb) <;> (try simp only [decide_eq_true_eq, decide_eq_false_iff_not] at hbp)) | refine Wp.seq ?_ | (refine Wp.ops' fun K hK => ?_) | refine Wp.block ?_ | (refine Wp.skip ?_; try dsimp only [thenQ, blockQ]) | (refine Wp.ret ?_; try dsimp only [thenQ, blockQ]) | (refine Wp.exit ?_; try simp only [thenQ, blockQ, reduceIte]))
        have hxm : x.kids[i] ∈ x.kids := List.getElem_mem hlt
        have hsm := exprsSz_mem hxm
        have hsx := x.sz_eq
        have hf3 : FrB base H2 ((H2.alloc (.cells [.int .i64 0, .int .i64 0, .str [], .int .i64 0, .nilS] 0 true)).set H2.next (.cells x.kids[i].cells 0 true)) := ((FrB.refl _ _).alloc _).set (.inl (Nat.le_refl _)) _
        have hb2 : base ≤ H2.next := Nat.le_trans hbase (hf2.next)
        have hlow : Low base H2 ((H2.alloc (.cells [.int .i64 0, .int .i64 0, .str [], .int .i64 0, .nilS] 0 true)).set H2.next (.cells x.kids[i].cells 0 true)) := ((Low.refl _ _).alloc hb2 _).set hb2 _
        refine WpL.call rfl (by (try simp only [sB, Nat.reduceBEq, *, -hK]); first | done | with_reducible rfl) (by (try simp only [sB, Nat.reduceBEq, aevals, List.cons_append, List.nil_append, *, -hK]); first | done | with_reducible rfl) ?_; simp only [List.cons_append, List.nil_append, List.append_nil]
        refine WpCall.mono ?_ (walkExpr_wp hw hI hq n x.kids[i] (by omega) _ _ (by omega) (by simp only [Hp.next_alloc, Hp.next_set]; omega) (hI _ _ hI2 hlow))
        rintro v H3 ⟨rfl, hf4, hI3⟩
        dsimp only [setO]
        repeat' (first
           | (refine WpL.nil (hK _ _ ?_); clear hK K; try dsimp only [thenQ, blockQ]) | refine Rx.move (hk := ?_) | refine Rx.assign (hk := ?_) | refine Rx.load (hk := ?_) | refine Rx.bin (hk := ?_) | refine Rx.un (hk := ?_) | refine Rx.fieldAddr (hk := ?_) | refine Rx.indexAddr (hk := ?_) | refine Rx.len (hk := ?_) | refine Rx.box (hk := ?_) | refine Rx.alloc (hk := ?_) | refine Rx.store (hk := ?_) | (refine Rx.cond (h1 := fun hb => ?_) (h2 := fun hb => ?_) <;> (try simp only [Bool.not_true, Bool.not_false, reduceCtorEq] at hb) <;> (try (cases hb; done)) <;> (try have hbp := hb) <;> (try simp only [decide_eq_true_eq, decide_eq_false_iff_not] at hbp)) | refine Wp.seq ?_ | (refine Wp.ops' fun K hK => ?_) | refine Wp.block ?_ | (refine Wp.skip ?_; try dsimp only [thenQ, blockQ]) | (refine Wp.ret ?_; try dsimp only [thenQ, blockQ]) | (refine Wp.exit ?_; try simp only [thenQ, blockQ, reduceIte]))
        · all_goals (refine ⟨by first | exact .inl rfl | exact .inr rfl | exact .inl trivial | exact .inr trivial, _, (by (try simp only [sB, Nat.reduceBEq, resultsA, resultA, *]); first | done | with_reducible rfl), ?_⟩; try simp only [oneOr])
          refine ⟨?_, (hf2.trans hf3).trans hf4, hI3⟩
          rw [walkE_eq, hc, walkEs_drop q hlt]
          simp_all
        · refine ⟨hlt, ?_, (by first | (simp only [sB, Nat.reduceBEq, *]; done) | rfl), (by first | (simp only [sB, Nat.reduceBEq, *]; done) | rfl), (by first | (simp only [sB, Nat.reduceBEq, *]; done) | rfl), (by first | (simp only [sB, Nat.reduceBEq, *]; done) | rfl), ?_, (hf2.trans hf3).trans hf4, hI3⟩
          · rw [hc, walkEs_drop q hlt]; simp_all
          · simp only [at_set, Nat.reduceBEq, cond_true, wrap_succ (show i < 2 ^ 62 by omega)]
      · have hi3 : i = x.kids.length := by simp at hb; omega
        all_goals (refine ⟨by first | exact .inl rfl | exact .inr rfl | exact .inl trivial | exact .inr trivial, _, (by (try simp only [sB, Nat.reduceBEq, resultsA, resultA, *]); first | done | with_reducible rfl), ?_⟩; try simp only [oneOr])
        refine ⟨?_, hf2, hI2⟩
        rw [walkE_eq, hc, hi3]
        simp_all [walkEs]
    · exact ⟨rfl, (by first | (simp only [sB, Nat.reduceBEq, *]; done) | rfl), (by first | (simp only [sB, Nat.reduceBEq, *]; done) | rfl), (by first | (simp only [sB, Nat.reduceBEq, *]; done) | rfl), (by first | (simp only [sB, Nat.reduceBEq, *]; done) | rfl), (by first | (simp only [sB, Nat.reduceBEq, *]; done) | rfl), hH1.trans hf1, hi1⟩
end Go.Proofs.Ytjkmbpieknaekaa
namespace Go.Proofs.Ytjkmbpieknaekaa
set_option maxRecDepth 20000
set_option linter.unusedSimpArgs false
set_option linter.unusedVariables false
set_option linter.unusedSectionVars false
set_option linter.defProp false
open Go Go.Ab
namespace tyW4b
def tyF := And.intro @sz3 (And.intro @pt3 (And.intro @bt3 (And.intro @zr3 (And.intro @sz9 (And.intro @pt9 (And.intro @bt9 (And.intro @zr9 (And.intro @ln9 (And.intro @ix9 (And.intro @sz36 (And.intro @pt36 (And.intro @bt36 (And.intro @zr36 (And.intro @ix36l (And.intro @ix36s (And.intro @ln36l (And.intro @ln36s (And.intro @ln36n (And.intro @sz37 (And.intro @pt37 (And.intro @bt37 (And.intro @zr37 (And.intro @ix37l (And.intro @ix37s (And.intro @ln37l (And.intro @ln37s (And.intro @ln37n (And.intro @sz39 (And.intro @pt39 (And.intro @bt39 (And.intro @zr39 (And.intro @fa39_0p (And.intro @fa39_0c (And.intro @fd39_0 (And.intro @fa39_1p (And.intro @fa39_1c (And.intro @fd39_1 (And.intro @fa39_2p (And.intro @fa39_2c (And.intro @fd39_2 (And.intro @fa39_3p (And.intro @fa39_3c (And.intro @fd39_3 (And.intro @fa39_4p (And.intro @fa39_4c (And.intro @fd39_4 (And.intro @sz46 (And.intro @pt46 (And.intro @bt46 (And.intro @zr46 (And.intro @fa46_0p (And.intro @fa46_0c (And.intro @fd46_0 (And.intro @fa46_1p (And.intro @fa46_1c (And.intro @fd46_1 (And.intro @fa46_2p (And.intro @fa46_2c (And.intro @fd46_2 (And.intro @fa46_3p (And.intro @fa46_3c (And.intro @fd46_3 (And.intro @fa46_4p (And.intro @fa46_4c (And.intro @fd46_4 (And.intro @fa46_5p (And.intro @fa46_5c (And.intro @fd46_5 (And.intro @fa46_6p (And.intro @fa46_6c (And.intro @fd46_6 (And.intro @fa46_7p (And.intro @fa46_7c (And.intro @fd46_7 (And.intro @fa46_8p (And.intro @fa46_8c (@fd46_8)))))))))))))))))))))))))))))))))))))))))))))))))))))))))))))))))))))))))))))
end tyW4b
open tyW4b
/-- A visitor with a state. -/
def VisitS {σ : Type} (cfg : Cfg) (base : Nat) (I : σ → Hp → Prop) (g : FuncId) (cap : List AV) (q : St → Int → σ → Bool × σ) : Prop :=
  ∀ (x : St) (d : Int) (s : σ) (H : Hp), x.sz < 2 ^ 60 → base ≤ H.next → I s H → WpCall Try.prog cfg g (.agg x.cells :: .int .i64 d :: cap) H fun v H' => v = .bool (q x d s).1 ∧ FrB base H H' ∧ I (q x d s).2 H'
theorem walkStmts_wp {cfg : Cfg} (hw : Plain cfg 53) {σ : Type} {base : Nat} {I : σ → Hp → Prop} (hI : ∀ s, OfLow base (I s)) {g : FuncId} {cap : List AV} {q : St → Int → σ → Bool × σ} (hq : VisitS cfg base I g cap q) :
    ∀ (n : Nat) (l : List St), stmtsSz l < n → ∀ (d : Int) (s : σ) (H : Hp), stmtsSz l < 2 ^ 60 → base ≤ H.next → I s H → WpCall Try.prog cfg 53 [.lst (l.map St.cells), .int .i64 d, .clo g cap] H fun v H' => v = .bool (walkS q l d s).1 ∧ FrB base H H' ∧ I (walkS q l d s).2 H'
  | 0, l, hx, _, _, _, _, _, _ => by omega
  | n + 1, l, hx, d, s, H, hz, hbase, hi => by
    refine WpCall.slim (M := 39) (rs := [.tmp 6]) (hw.call _) hw.ice hw.froz Try.func53 rfl rfl code53.2 rfl ?_; dsimp only [code53, envOf, Nat.reduceAdd]
    repeat' (first
       | (refine WpL.nil (hK _ _ ?_); clear hK K; try dsimp only [thenQ, blockQ]) | refine Rx.move (hk := ?_) | refine Rx.assign (hk := ?_) | refine Rx.load (hk := ?_) | refine Rx.bin (hk := ?_) | refine Rx.un (hk := ?_) | refine Rx.fieldAddr (hk := ?_) | refine Rx.indexAddr (hk := ?_) | refine Rx.len (hk := ?_) | refine Rx.pick (hk := ?_) | refine Rx.alloc (hk := ?_) | refine Rx.store (hk := ?_) | (refine Rx.guardU (hk := ?_); dsimp only [setO]) | (refine Rx.guard (h1 := fun hg => ?_) (h2 := fun hg => ?_) <;> (try simp only [Bool.not_true, Bool.not_false, reduceCtorEq] at hg) <;> (try (cases hg; done)) <;> (try have hgp := hg) <;> (try simp only [decide_eq_true_eq, decide_eq_false_iff_not] at hgp) <;> (try dsimp only [setO])) | (refine Rx.cond (h1 := fun hb => ?_) (h2 := fun hb => ?_) <;> (try simp only [Bool.not_true, Bool.not_false, reduceCtorEq] at hb) <;> (try (cases hb; done)) <;> (try have hbp := hb) <;> (try simp only [decide_eq_true_eq, decide_eq_false_iff_not] at hbp)) | refine Wp.seq ?_ | (refine Wp.ops' fun K hK => ?_) | refine Wp.block ?_ | (refine Wp.skip ?_; try dsimp only [thenQ, blockQ]) | (refine Wp.ret ?_; try dsimp only [thenQ, blockQ]) | (refine Wp.exit ?_; try simp only [thenQ, blockQ, reduceIte]))
    have hl : l.length < 2 ^ 60 := by have := stmtsSz_len l; omega
    refine Wp.loopN (fun i E H2 => ∃ s2, walkS q l d s = walkS q (l.drop i) d s2 ∧ E.at 1 = .int .i64 d ∧ E.at 2 = .clo g cap ∧ E.at 9 = .lst (l.map St.cells) ∧ E.at 10 = .int .i64 l.length ∧ E.at 11 = .int .i64 i ∧ FrB base H H2 ∧ I s2 H2) l.length ?_ ?_
    · rintro i E H2 hi2 ⟨s2, hc, h1, h2, h9, h10, h11, hf2, hI2⟩
      repeat' (first
         | (refine WpL.nil (hK _ _ ?_); clear hK K; try dsimp only [thenQ, blockQ]) | refine Rx.move (hk := ?_) | refine Rx.assign (hk := ?_) | refine Rx.load (hk := ?_) | refine Rx.bin (hk := ?_) | refine Rx.un (hk := ?_) | refine Rx.fieldAddr (hk := ?_) | refine Rx.indexAddr (hk := ?_) | refine Rx.len (hk := ?_) | refine Rx.pick (hk := ?_) | refine Rx.alloc (hk := ?_) | refine Rx.store (hk := ?_) | (refine Rx.guardU (hk := ?_); dsimp only [setO]) | (refine Rx.guard (h1 := fun hg => ?_) (h2 := fun hg => ?_) <;> (try simp only [Bool.not_true, Bool.not_false, reduceCtorEq] at hg) <;> (try (cases hg; done)) <;> (try have hgp := hg) <;> (try simp only [decide_eq_true_eq, decide_eq_false_iff_not] at hgp) <;> (try dsimp only [setO])) | (refine Rx.cond (h1 := fun hb => ?_) (h2 := fun hb => ?_) <;> (try simp only [Bool.not_true, Bool.not_false, reduceCtorEq] at hb) <;> (try (cases hb; done)) <;> (try have hbp := hb) <;> (try simp only [decide_eq_true_eq, decide_eq_false_iff_not] at hbp)) | refine Wp.seq ?_ | (refine Wp.ops' fun K hK => ?_) | refine Wp.block ?_ | (refine Wp.skip ?_; try dsimp only [thenQ, blockQ]) | (refine Wp.ret ?_; try dsimp only [thenQ, blockQ]) | (refine Wp.exit ?_; try simp only [thenQ, blockQ, reduceIte]))
      · have hlt : i < l.length := by simpa using hb
        have hgx : l[i]? = some l[i] := List.getElem?_eq_getElem hlt
        repeat' (first
           | (refine WpL.nil (hK _ _ ?_); clear hK K; try dsimp only [thenQ, blockQ]) | refine Rx.move (hk := ?_) | refine Rx.assign (hk := ?_) | refine Rx.load (hk := ?_) | refine Rx.bin (hk := ?_) | refine Rx.un (hk := ?_) | refine Rx.fieldAddr (hk := ?_) | refine Rx.indexAddr (hk := ?_) | refine Rx.len (hk := ?_) | refine Rx.pick (hk := ?_) | refine Rx.alloc (hk := ?_) | refine Rx.store (hk := ?_) | (refine Rx.guardU (hk := ?_); dsimp only [setO]) | (refine Rx.guard (h1 := fun hg => ?_) (h2 := fun hg => ?_) <;> (try simp only [Bool.not_true, Bool.not_false, reduceCtorEq] at hg) <;> (try (cases hg; done)) <;> (try have hgp := hg) <;> (try simp only [decide_eq_true_eq, decide_eq_false_iff_not] at hgp) <;> (try dsimp only [setO])) | (refine Rx.cond (h1 := fun hb => ?_) (h2 := fun hb => ?_) <;> (try simp only [Bool.not_true, Bool.not_false, reduceCtorEq] at hb) <;> (try (cases hb; done)) <;> (try have hbp := hb) <;> (try simp only [decide_eq_true_eq, decide_eq_false_iff_not] at hbp)) | refine Wp.seq ?_ | (refine Wp.ops' fun K hK => ?_) | refine Wp.block ?_ | (refine Wp.skip ?_; try dsimp only [thenQ, blockQ]) | (refine Wp.ret ?_; try dsimp only [thenQ, blockQ]) | (refine Wp.exit ?_; try simp only [thenQ, blockQ, reduceIte]))
        have hxm : l[i] ∈ l := List.getElem_mem hlt
        have hsm := stmtsSz_mem hxm
        have hsx := l[i].sz_eq
        generalize hx0 : l[i] = x at *
        have hb2 : base ≤ H2.next := Nat.le_trans hbase hf2.next
        generalize hH3 : (H2.alloc _).set H2.next _ = H3
        have hf3 : FrB base H2 H3 := by rw [← hH3]; exact ((FrB.refl _ _).alloc _).set (.inl (Nat.le_refl _)) _
        have hlow : Low base H2 H3 := by rw [← hH3]; exact ((Low.refl _ _).alloc hb2 _).set hb2 _
        have hn3 : H2.next < H3.next := by rw [← hH3]; simp only [Hp.next_alloc, Hp.next_set]; omega
        have hg3 : H3.get H2.next = some (.cells x.cells 0 true) := by rw [← hH3, Hp.get_set, if_pos rfl]
        have hI3 := hI _ _ _ hI2 hlow
        have hwd := walkS_drop q hlt d s2
        rw [hx0, walk1_eq] at hwd
        rw [hwd] at hc
        refine WpL.call rfl (by (try simp only [sB, Nat.reduceBEq, *, -hK]); first | done | with_reducible rfl) (by (try simp only [sB, Nat.reduceBEq, aevals, List.cons_append, List.nil_append, *, -hK]); first | done | with_reducible rfl) ?_; simp only [List.cons_append, List.nil_append, List.append_nil]
        refine WpCall.mono ?_ (hq x d s2 H3 (by omega) (by omega) hI3)
        rintro v H4 ⟨rfl, hf4, hI4⟩
        generalize hq1 : q x d s2 = r1 at *
        obtain ⟨ok1, s3⟩ := r1
        have hg4 : H4.get H2.next = some (.cells x.cells 0 true) := by rw [hf4.get _ hb2 hn3]; exact hg3
        have hn4 : H2.next < H4.next := Nat.lt_of_lt_of_le hn3 hf4.next
        dsimp only [setO]
        cases ok1 with
        | false =>
          repeat' (first
             | (refine WpL.nil (hK _ _ ?_); clear hK K; try dsimp only [thenQ, blockQ]) | refine Rx.move (hk := ?_) | refine Rx.assign (hk := ?_) | refine Rx.load (hk := ?_) | refine Rx.bin (hk := ?_) | refine Rx.un (hk := ?_) | refine Rx.fieldAddr (hk := ?_) | refine Rx.indexAddr (hk := ?_) | refine Rx.len (hk := ?_) | refine Rx.pick (hk := ?_) | refine Rx.alloc (hk := ?_) | refine Rx.store (hk := ?_) | (refine Rx.guardU (hk := ?_); dsimp only [setO]) | (refine Rx.guard (h1 := fun hg => ?_) (h2 := fun hg => ?_) <;> (try simp only [Bool.not_true, Bool.not_false, reduceCtorEq] at hg) <;> (try (cases hg; done)) <;> (try have hgp := hg) <;> (try simp only [decide_eq_true_eq, decide_eq_false_iff_not] at hgp) <;> (try dsimp only [setO])) | (refine Rx.cond (h1 := fun hb => ?_) (h2 := fun hb => ?_) <;> (try simp only [Bool.not_true, Bool.not_false, reduceCtorEq] at hb) <;> (try (cases hb; done)) <;> (try have hbp := hb) <;> (try simp only [decide_eq_true_eq, decide_eq_false_iff_not] at hbp)) | refine Wp.seq ?_ | (refine Wp.ops' fun K hK => ?_) | refine Wp.block ?_ | (refine Wp.skip ?_; try dsimp only [thenQ, blockQ]) | (refine Wp.ret ?_; try dsimp only [thenQ, blockQ]) | (refine Wp.exit ?_; try simp only [thenQ, blockQ, reduceIte]))
          all_goals (refine ⟨by first | exact .inl rfl | exact .inr rfl | exact .inl trivial | exact .inr trivial, _, (by (try simp only [sB, Nat.reduceBEq, resultsA, resultA, *]); first | done | with_reducible rfl), ?_⟩; try simp only [oneOr])
          dsimp only at hc
          rw [hc]
          exact ⟨rfl, (hf2.trans hf3).trans hf4, hI4⟩
        | true =>
          repeat' (first
             | (refine WpL.nil (hK _ _ ?_); clear hK K; try dsimp only [thenQ, blockQ]) | refine Rx.move (hk := ?_) | refine Rx.assign (hk := ?_) | refine Rx.load (hk := ?_) | refine Rx.bin (hk := ?_) | refine Rx.un (hk := ?_) | refine Rx.fieldAddr (hk := ?_) | refine Rx.indexAddr (hk := ?_) | refine Rx.len (hk := ?_) | refine Rx.pick (hk := ?_) | refine Rx.alloc (hk := ?_) | refine Rx.store (hk := ?_) | (refine Rx.guardU (hk := ?_); dsimp only [setO]) | (refine Rx.guard (h1 := fun hg => ?_) (h2 := fun hg => ?_) <;> (try simp only [Bool.not_true, Bool.not_false, reduceCtorEq] at hg) <;> (try (cases hg; done)) <;> (try have hgp := hg) <;> (try simp only [decide_eq_true_eq, decide_eq_false_iff_not] at hgp) <;> (try dsimp only [setO])) | (refine Rx.cond (h1 := fun hb => ?_) (h2 := fun hb => ?_) <;> (try simp only [Bool.not_true, Bool.not_false, reduceCtorEq] at hb) <;> (try (cases hb; done)) <;> (try have hbp := hb) <;> (try simp only [decide_eq_true_eq, decide_eq_false_iff_not] at hbp)) | refine Wp.seq ?_ | (refine Wp.ops' fun K hK => ?_) | refine Wp.block ?_ | (refine Wp.skip ?_; try dsimp only [thenQ, blockQ]) | (refine Wp.ret ?_; try dsimp only [thenQ, blockQ]) | (refine Wp.exit ?_; try simp only [thenQ, blockQ, reduceIte]))
          refine WpL.call rfl (by (try simp only [sB, Nat.reduceBEq, *, -hK]); first | done | with_reducible rfl) (by (try simp only [sB, Nat.reduceBEq, aevals, List.cons_append, List.nil_append, *, -hK]); first | done | with_reducible rfl) ?_; simp only [List.cons_append, List.nil_append, List.append_nil]
          have hrec := walkStmts_wp hw hI hq n x.thn (by omega) (w64 (d + 1)) s3 H4 (by omega) (by omega) hI4
          refine WpCall.mono ?_ hrec
          rintro v H5 ⟨rfl, hf5, hI5⟩
          generalize hq2 : walkS q x.thn (w64 (d + 1)) s3 = r2 at *
          obtain ⟨ok2, s4⟩ := r2
          have hg5 : H5.get H2.next = some (.cells x.cells 0 true) := by rw [hf5.get _ hb2 hn4]; exact hg4
          have hn5 : H2.next < H5.next := Nat.lt_of_lt_of_le hn4 hf5.next
          dsimp only [setO]
          cases ok2 with
          | false =>
            repeat' (first
               | (refine WpL.nil (hK _ _ ?_); clear hK K; try dsimp only [thenQ, blockQ]) | refine Rx.move (hk := ?_) | refine Rx.assign (hk := ?_) | refine Rx.load (hk := ?_) | refine Rx.bin (hk := ?_) | refine Rx.un (hk := ?_) | refine Rx.fieldAddr (hk := ?_) | refine Rx.indexAddr (hk := ?_) | refine Rx.len (hk := ?_) | refine Rx.pick (hk := ?_) | refine Rx.alloc (hk := ?_) | refine Rx.store (hk := ?_) | (refine Rx.guardU (hk := ?_); dsimp only [setO]) | (refine Rx.guard (h1 := fun hg => ?_) (h2 := fun hg => ?_) <;> (try simp only [Bool.not_true, Bool.not_false, reduceCtorEq] at hg) <;> (try (cases hg; done)) <;> (try have hgp := hg) <;> (try simp only [decide_eq_true_eq, decide_eq_false_iff_not] at hgp) <;> (try dsimp only [setO])) | (refine Rx.cond (h1 := fun hb => ?_) (h2 := fun hb => ?_) <;> (try simp only [Bool.not_true, Bool.not_false, reduceCtorEq] at hb) <;> (try (cases hb; done)) <;> (try have hbp := hb) <;> (try simp only [decide_eq_true_eq, decide_eq_false_iff_not] at hbp)) | refine Wp.seq ?_ | (refine Wp.ops' fun K hK => ?_) | refine Wp.block ?_ | (refine Wp.skip ?_; try dsimp only [thenQ, blockQ]) | (refine Wp.ret ?_; try dsimp only [thenQ, blockQ]) | (refine Wp.exit ?_; try simp only [thenQ, blockQ, reduceIte]))
            all_goals (refine ⟨by first | exact .inl rfl | exact .inr rfl | exact .inl trivial | exact .inr trivial, _, (by (try simp only [sB, Nat.reduceBEq, resultsA, resultA, *]); first | done | with_reducible rfl), ?_⟩; try simp only [oneOr])
            simp only [hq2] at hc
            rw [hc]
            exact ⟨rfl, ((hf2.trans hf3).trans hf4).trans hf5, hI5⟩
          | true =>
            repeat' (first
               | (refine WpL.nil (hK _ _ ?_); clear hK K; try dsimp only [thenQ, blockQ]) | refine Rx.move (hk := ?_) | refine Rx.assign (hk := ?_) | refine Rx.load (hk := ?_) | refine Rx.bin (hk := ?_) | refine Rx.un (hk := ?_) | refine Rx.fieldAddr (hk := ?_) | refine Rx.indexAddr (hk := ?_) | refine Rx.len (hk := ?_) | refine Rx.pick (hk := ?_) | refine Rx.alloc (hk := ?_) | refine Rx.store (hk := ?_) | (refine Rx.guardU (hk := ?_); dsimp only [setO]) | (refine Rx.guard (h1 := fun hg => ?_) (h2 := fun hg => ?_) <;> (try simp only [Bool.not_true, Bool.not_false, reduceCtorEq] at hg) <;> (try (cases hg; done)) <;> (try have hgp := hg) <;> (try simp only [decide_eq_true_eq, decide_eq_false_iff_not] at hgp) <;> (try dsimp only [setO])) | (refine Rx.cond (h1 := fun hb => ?_) (h2 := fun hb => ?_) <;> (try simp only [Bool.not_true, Bool.not_false, reduceCtorEq] at hb) <;> (try (cases hb; done)) <;> (try have hbp := hb) <;> (try simp only [decide_eq_true_eq, decide_eq_false_iff_not] at hbp)) | refine Wp.seq ?_ | (refine Wp.ops' fun K hK => ?_) | refine Wp.block ?_ | (refine Wp.skip ?_; try dsimp only [thenQ, blockQ]) | (refine Wp.ret ?_; try dsimp only [thenQ, blockQ]) | (refine Wp.exit ?_; try simp only [thenQ, blockQ, reduceIte]))
            refine WpL.call rfl (by (try simp only [sB, Nat.reduceBEq, *, -hK]); first | done | with_reducible rfl) (by (try simp only [sB, Nat.reduceBEq, aevals, List.cons_append, List.nil_append, *, -hK]); first | done | with_reducible rfl) ?_; simp only [List.cons_append, List.nil_append, List.append_nil]
            have hrec2 := walkStmts_wp hw hI hq n x.els (by omega) (w64 (d + 1)) s4 H5 (by omega) (by omega) hI5
            refine WpCall.mono ?_ hrec2
            rintro v H6 ⟨rfl, hf6, hI6⟩
            generalize hq3 : walkS q x.els (w64 (d + 1)) s4 = r3 at *
            obtain ⟨ok3, s5⟩ := r3
            dsimp only [setO]
            have hf7 : FrB base H H6 := (((hf2.trans hf3).trans hf4).trans hf5).trans hf6
            cases ok3 with
            | false =>
              repeat' (first
                 | (refine WpL.nil (hK _ _ ?_); clear hK K; try dsimp only [thenQ, blockQ]) | refine Rx.move (hk := ?_) | refine Rx.assign (hk := ?_) | refine Rx.load (hk := ?_) | refine Rx.bin (hk := ?_) | refine Rx.un (hk := ?_) | refine Rx.fieldAddr (hk := ?_) | refine Rx.indexAddr (hk := ?_) | refine Rx.len (hk := ?_) | refine Rx.pick (hk := ?_) | refine Rx.alloc (hk := ?_) | refine Rx.store (hk := ?_) | (refine Rx.guardU (hk := ?_); dsimp only [setO]) | (refine Rx.guard (h1 := fun hg => ?_) (h2 := fun hg => ?_) <;> (try simp only [Bool.not_true, Bool.not_false, reduceCtorEq] at hg) <;> (try (cases hg; done)) <;> (try have hgp := hg) <;> (try simp only [decide_eq_true_eq, decide_eq_false_iff_not] at hgp) <;> (try dsimp only [setO])) | (refine Rx.cond (h1 := fun hb => ?_) (h2 := fun hb => ?_) <;> (try simp only [Bool.not_true, Bool.not_false, reduceCtorEq] at hb) <;> (try (cases hb; done)) <;> (try have hbp := hb) <;> (try simp only [decide_eq_true_eq, decide_eq_false_iff_not] at hbp)) | refine Wp.seq ?_ | (refine Wp.ops' fun K hK => ?_) | refine Wp.block ?_ | (refine Wp.skip ?_; try dsimp only [thenQ, blockQ]) | (refine Wp.ret ?_; try dsimp only [thenQ, blockQ]) | (refine Wp.exit ?_; try simp only [thenQ, blockQ, reduceIte]))
              all_goals (refine ⟨by first | exact .inl rfl | exact .inr rfl | exact .inl trivial | exact .inr trivial, _, (by (try simp only [sB, Nat.reduceBEq, resultsA, resultA, *]); first | done | with_reducible rfl), ?_⟩; try simp only [oneOr])
              simp only [hq2, hq3] at hc
              rw [hc]
              exact ⟨rfl, hf7, hI6⟩
            | true =>
              repeat' (first
                 | (refine WpL.nil (hK _ _ ?_); clear hK K; try dsimp only [thenQ, blockQ]) | refine Rx.move (hk := ?_) | refine Rx.assign (hk := ?_) | refine Rx.load (hk := ?_) | refine Rx.bin (hk := ?_) | refine Rx.un (hk := ?_) | refine Rx.fieldAddr (hk := ?_) | refine Rx.indexAddr (hk := ?_) | refine Rx.len (hk := ?_) | refine Rx.pick (hk := ?_) | refine Rx.alloc (hk := ?_) | refine Rx.store (hk := ?_) | (refine Rx.guardU (hk := ?_); dsimp only [setO]) | (refine Rx.guard (h1 := fun hg => ?_) (h2 := fun hg => ?_) <;> (try simp only [Bool.not_true, Bool.not_false, reduceCtorEq] at hg) <;> (try (cases hg; done)) <;> (try have hgp := hg) <;> (try simp only [decide_eq_true_eq, decide_eq_false_iff_not] at hgp) <;> (try dsimp only [setO])) | (refine Rx.cond (h1 := fun hb => ?_) (h2 := fun hb => ?_) <;> (try simp only [Bool.not_true, Bool.not_false, reduceCtorEq] at hb) <;> (try (cases hb; done)) <;> (try have hbp := hb) <;> (try simp only [decide_eq_true_eq, decide_eq_false_iff_not] at hbp)) | refine Wp.seq ?_ | (refine Wp.ops' fun K hK => ?_) | refine Wp.block ?_ | (refine Wp.skip ?_; try dsimp only [thenQ, blockQ]) | (refine Wp.ret ?_; try dsimp only [thenQ, blockQ]) | (refine Wp.exit ?_; try simp only [thenQ, blockQ, reduceIte]))
              refine ⟨hlt, s5, ?_, (by first | (simp only [sB, Nat.reduceBEq, *]; done) | rfl), (by first | (simp only [sB, Nat.reduceBEq, *]; done) | rfl), (by first | (simp only [sB, Nat.reduceBEq, *]; done) | rfl), (by first | (simp only [sB, Nat.reduceBEq, *]; done) | rfl), ?_, hf7, hI6⟩
              · simp only [hq2, hq3] at hc; exact hc
              · simp only [at_set, Nat.reduceBEq, cond_true, wrap_succ (show i < 2 ^ 62 by omega)]
      · have hi3 : i = l.length := by simp at hb; omega
        all_goals (refine ⟨by first | exact .inl rfl | exact .inr rfl | exact .inl trivial | exact .inr trivial, _, (by (try simp only [sB, Nat.reduceBEq, resultsA, resultA, *]); first | done | with_reducible rfl), ?_⟩; try simp only [oneOr])
        rw [hc, hi3]
        simp only [List.drop_length, walkS]
        exact ⟨trivial, hf2, hI2⟩
    · exact ⟨s, rfl, (by first | (simp only [sB, Nat.reduceBEq, *]; done) | rfl), (by first | (simp only [sB, Nat.reduceBEq, *]; done) | rfl), (by first | (simp only [sB, Nat.reduceBEq, *]; done) | rfl), (by first | (simp only [sB, Nat.reduceBEq, *]; done) | rfl), (by first | (simp only [sB, Nat.reduceBEq, *]; done) | rfl), FrB.refl _ _, hi⟩
end Go.Proofs.Ytjkmbpieknaekaa
namespace Go.Proofs.Ytjkmbpieknaekaa
set_option maxRecDepth 20000
set_option linter.unusedSimpArgs false
set_option linter.unusedVariables false
set_option linter.unusedSectionVars false
set_option linter.defProp false
open Go Go.Ab
namespace tyW4c
def tyF := And.intro @sz3 (And.intro @pt3 (And.intro @bt3 (And.intro @zr3 (And.intro @sz9 (And.intro @pt9 (And.intro @bt9 (And.intro @zr9 (And.intro @ln9 (And.intro @ix9 (And.intro @sz36 (And.intro @pt36 (And.intro @bt36 (And.intro @zr36 (And.intro @ix36l (And.intro @ix36s (And.intro @ln36l (And.intro @ln36s (And.intro @ln36n (And.intro @sz37 (And.intro @pt37 (And.intro @bt37 (And.intro @zr37 (And.intro @ix37l (And.intro @ix37s (And.intro @ln37l (And.intro @ln37s (And.intro @ln37n (And.intro @sz39 (And.intro @pt39 (And.intro @bt39 (And.intro @zr39 (And.intro @fa39_0p (And.intro @fa39_0c (And.intro @fd39_0 (And.intro @fa39_1p (And.intro @fa39_1c (And.intro @fd39_1 (And.intro @fa39_2p (And.intro @fa39_2c (And.intro @fd39_2 (And.intro @fa39_3p (And.intro @fa39_3c (And.intro @fd39_3 (And.intro @fa39_4p (And.intro @fa39_4c (And.intro @fd39_4 (And.intro @sz46 (And.intro @pt46 (And.intro @bt46 (And.intro @zr46 (And.intro @fa46_0p (And.intro @fa46_0c (And.intro @fd46_0 (And.intro @fa46_1p (And.intro @fa46_1c (And.intro @fd46_1 (And.intro @fa46_2p (And.intro @fa46_2c (And.intro @fd46_2 (And.intro @fa46_3p (And.intro @fa46_3c (And.intro @fd46_3 (And.intro @fa46_4p (And.intro @fa46_4c (And.intro @fd46_4 (And.intro @fa46_5p (And.intro @fa46_5c (And.intro @fd46_5 (And.intro @fa46_6p (And.intro @fa46_6c (And.intro @fd46_6 (And.intro @fa46_7p (And.intro @fa46_7c (And.intro @fd46_7 (And.intro @fa46_8p (And.intro @fa46_8c (And.intro @fd46_8 (And.intro @sz2 (And.intro @pt2 (And.intro @bt2 (And.intro @zr2 (And.intro @sz35 (And.intro @pt35 (And.intro @bt35 (And.intro @zr35 (And.intro @ix35l (And.intro @ix35s (And.intro @ln35l (And.intro @ln35s (And.intro @ln35n (And.intro @sz41 (And.intro @pt41 (And.intro @bt41 (And.intro @zr41 (And.intro @fa41_0p (And.intro @fa41_0c (And.intro @fd41_0 (And.intro @fa41_1p (And.intro @fa41_1c (And.intro @fd41_1 (And.intro @fa41_2p (And.intro @fa41_2c (And.intro @fd41_2 (And.intro @fa41_3p (And.intro @fa41_3c (And.intro @fd41_3 (And.intro @fa41_4p (And.intro @fa41_4c (And.intro @fd41_4 (And.intro @sz105 (And.intro @pt105 (And.intro @bt105 (@zr105)))))))))))))))))))))))))))))))))))))))))))))))))))))))))))))))))))))))))))))))))))))))))))))))))))))))))))))))))
end tyW4c
open tyW4c
noncomputable def code54 : { c : SC // slim 24 (Try.f54.body.getD .skip) = c } := by
  refine ⟨?_, ?_⟩
  rotate_left
  · simp only [Try.f54, Option.getD_some, slim, slimR, slimL, slimD, slimG, Nat.blt, Nat.ble]
    rfl
noncomputable def code56 : { c : SC // slim 7 (Try.f56.body.getD .skip) = c } := by
  refine ⟨?_, ?_⟩
  rotate_left
  · simp only [Try.f56, Option.getD_some, slim, slimR, slimL, slimD, slimG, Nat.blt, Nat.ble]
    rfl
noncomputable def code87 : { c : SC // slim 32 (Try.f87.body.getD .skip) = c } := by
  refine ⟨?_, ?_⟩
  rotate_left
  · simp only [Try.f87, Option.getD_some, slim, slimR, slimL, slimD, slimG, Nat.blt, Nat.ble]
    rfl
noncomputable def code55 : { c : SC // slim 15 (Try.f55.body.getD .skip) = c } := by
  refine ⟨?_, ?_⟩
  rotate_left
  · simp only [Try.f55, Option.getD_some, slim, slimR, slimL, slimD, slimG, Nat.blt, Nat.ble]
    rfl
theorem lim1_wp {cfg : Cfg} (hw : Plain cfg 54) {base rn rl : Nat} (hn : rn < base) (hl : rl < base) (hne : rn ≠ rl) (Hb : Hp) :
    VisitS cfg base (fun (s : Int × Int) H => H.get rn = some (.cells [.int .i64 s.1] 0 true) ∧ H.get rl = some (.cells [.int .i64 s.2] 0 true) ∧ ∀ r, r < base → r ≠ rn → r ≠ rl → H.get r = Hb.get r) 54 [.ptr rn 0, .ptr rl 0] limS := by
  intro x d s H hz hbase ⟨hi1, hi2, hi3⟩
  have e1 : (rn == H.next) = false := by simp; omega
  have e2 : (rl == H.next) = false := by simp; omega
  have e3 : (rl == rn) = false := by simp; omega
  have e4 : (rn == rl) = false := by simp; omega
  have e5 : (H.next == rn) = false := by simp; omega
  have e6 : (H.next == rl) = false := by simp; omega
  refine WpCall.slim (M := 24) (rs := [.tmp 6]) (hw.call _) hw.ice hw.froz Try.func54 rfl rfl code54.2 rfl ?_; dsimp only [code54, envOf, Nat.reduceAdd]
  repeat' (first
     | (refine WpL.nil (hK _ _ ?_); clear hK K; try dsimp only [thenQ, blockQ]) | refine Rx.move (hk := ?_) | refine Rx.assign (hk := ?_) | refine Rx.load (hk := ?_) | refine Rx.bin (hk := ?_) | refine Rx.fieldAddr (hk := ?_) | refine Rx.pick (hk := ?_) | refine Rx.box (hk := ?_) | refine Rx.store (hk := ?_) | (refine Rx.guardU (hk := ?_); dsimp only [setO]) | (refine Rx.guard (h1 := fun hg => ?_) (h2 := fun hg => ?_) <;> (try simp only [Bool.not_true, Bool.not_false, reduceCtorEq] at hg) <;> (try (cases hg; done)) <;> (try have hgp := hg) <;> (try simp only [decide_eq_true_eq, decide_eq_false_iff_not] at hgp) <;> (try dsimp only [setO])) | (refine Rx.cond (h1 := fun hb => ?_) (h2 := fun hb => ?_) <;> (try simp only [Bool.not_true, Bool.not_false, reduceCtorEq] at hb) <;> (try (cases hb; done)) <;> (try have hbp := hb) <;> (try simp only [decide_eq_true_eq, decide_eq_false_iff_not] at hbp)) | refine Wp.seq ?_ | (refine Wp.ops' fun K hK => ?_) | refine Wp.block ?_ | (refine Wp.skip ?_; try dsimp only [thenQ, blockQ]) | (refine Wp.ret ?_; try dsimp only [thenQ, blockQ]) | (refine Wp.exit ?_; try simp only [thenQ, blockQ, reduceIte]))
  all_goals (refine ⟨by first | exact .inl rfl | exact .inr rfl | exact .inl trivial | exact .inr trivial, _, (by (try simp only [sB, Nat.reduceBEq, resultsA, resultA, *]); first | done | with_reducible rfl), ?_⟩; try simp only [oneOr])
  all_goals (refine ⟨?_, ?_, ?_, ?_, ?_⟩)
  all_goals first
    | (intro r q1 q2 q3; simp only [Hp.get_set, Hp.get_alloc, q2, q3, show ¬ r = H.next by omega, if_false]; exact hi3 r q1 q2 q3)
    | exact (((FrB.refl _ _).alloc _).set (.inr hn) _).set (.inr hl) _
    | exact ((FrB.refl _ _).alloc _).set (.inr hn) _
    | (simp only [get_set, get_alloc, limS, *, cond_true, cond_false, beq_self_eq_true, Bool.false_and, Bool.and_false, Bool.true_and, Bool.and_true, if_true, if_false]; done)
    | (simp_all [limS, get_set, get_alloc]; done)
    | skip
theorem lim2_wp {cfg : Cfg} (hw : Plain cfg 56) {base : Nat} {I : Hp → Prop} (hI : OfLow base I) : VisitE cfg base I 56 [] limE := by
  intro x d H hz hbase hi
  refine WpCall.slim (M := 7) (rs := [.tmp 4]) (hw.call _) hw.ice hw.froz Try.func56 rfl rfl code56.2 rfl ?_; dsimp only [code56, envOf, Nat.reduceAdd]
  repeat' (first
     | (refine WpL.nil (hK _ _ ?_); clear hK K; try dsimp only [thenQ, blockQ]) | refine Rx.move (hk := ?_) | refine Rx.assign (hk := ?_) | refine Rx.bin (hk := ?_) | refine Rx.box (hk := ?_) | (refine Rx.cond (h1 := fun hb => ?_) (h2 := fun hb => ?_) <;> (try simp only [Bool.not_true, Bool.not_false, reduceCtorEq] at hb) <;> (try (cases hb; done)) <;> (try have hbp := hb) <;> (try simp only [decide_eq_true_eq, decide_eq_false_iff_not] at hbp)) | refine Wp.seq ?_ | (refine Wp.ops' fun K hK => ?_) | refine Wp.block ?_ | (refine Wp.skip ?_; try dsimp only [thenQ, blockQ]) | (refine Wp.ret ?_; try dsimp only [thenQ, blockQ]) | (refine Wp.exit ?_; try simp only [thenQ, blockQ, reduceIte]))
  all_goals (refine ⟨by first | exact .inl rfl | exact .inr rfl | exact .inl trivial | exact .inr trivial, _, (by (try simp only [sB, Nat.reduceBEq, resultsA, resultA, *]); first | done | with_reducible rfl), ?_⟩; try simp only [oneOr])
  exact ⟨rfl, (FrB.refl _ _).alloc _, hI _ _ hi ((Low.refl _ _).alloc hbase _)⟩
theorem inSt_wp {cfg : Cfg} (hw : Plain cfg 87) (hwe : Plain cfg 59) {base base' : Nat} (hbb : base ≤ base') {I : Hp → Prop} (hI : OfLow base I) {g : FuncId} {cap : List AV} {q : Ex → Int → Bool} (hq : VisitE cfg base I g cap q)
    {r3 : Nat} (hr1 : base ≤ r3) (hr2 : r3 < base') (H1 : Hp) :
    VisitS cfg base' (fun (_ : Unit) H => I H ∧ H.get r3 = some (.cells [.clo g cap] 0 true) ∧ ∀ r, base ≤ r → r < base' → H.get r = H1.get r) 87 [.ptr r3 0] (inSt q) := by
  intro x d s H hz hbase ⟨hi, hi3, hi1⟩
  have hsz := x.sz_eq
  have e1 : (r3 == H.next) = false := by simp; omega
  have e2 : (H.next == r3) = false := by simp; omega
  refine WpCall.slim (M := 32) (rs := [.tmp 5]) (hw.call _) hw.ice hw.froz Try.func87 rfl rfl code87.2 rfl ?_; dsimp only [code87, envOf, Nat.reduceAdd]
  repeat' (first
     | (refine WpL.nil (hK _ _ ?_); clear hK K; try dsimp only [thenQ, blockQ]) | refine Rx.move (hk := ?_) | refine Rx.assign (hk := ?_) | refine Rx.load (hk := ?_) | refine Rx.bin (hk := ?_) | refine Rx.un (hk := ?_) | refine Rx.fieldAddr (hk := ?_) | refine Rx.indexAddr (hk := ?_) | refine Rx.len (hk := ?_) | refine Rx.pick (hk := ?_) | refine Rx.box (hk := ?_) | refine Rx.alloc (hk := ?_) | refine Rx.store (hk := ?_) | (refine Rx.guardU (hk := ?_); dsimp only [setO]) | (refine Rx.guard (h1 := fun hg => ?_) (h2 := fun hg => ?_) <;> (try simp only [Bool.not_true, Bool.not_false, reduceCtorEq] at hg) <;> (try (cases hg; done)) <;> (try have hgp := hg) <;> (try simp only [decide_eq_true_eq, decide_eq_false_iff_not] at hgp) <;> (try dsimp only [setO])) | (refine Rx.cond (h1 := fun hb => ?_) (h2 := fun hb => ?_) <;> (try simp only [Bool.not_true, Bool.not_false, reduceCtorEq] at hb) <;> (try (cases hb; done)) <;> (try have hbp := hb) <;> (try simp only [decide_eq_true_eq, decide_eq_false_iff_not] at hbp)) | refine Wp.seq ?_ | (refine Wp.ops' fun K hK => ?_) | refine Wp.block ?_ | (refine Wp.skip ?_; try dsimp only [thenQ, blockQ]) | (refine Wp.ret ?_; try dsimp only [thenQ, blockQ]) | (refine Wp.exit ?_; try simp only [thenQ, blockQ, reduceIte]))
  have hIa := hI _ _ hi ((Low.refl base H).alloc (Nat.le_trans hbb hbase) (.cells x.cells 0 true))
  refine WpL.call rfl (by (try simp only [sB, Nat.reduceBEq, *, -hK]); first | done | with_reducible rfl) (by (try simp only [sB, Nat.reduceBEq, aevals, List.cons_append, List.nil_append, *, -hK]); first | done | with_reducible rfl) ?_; simp only [List.cons_append, List.nil_append, List.append_nil]
  refine WpCall.mono ?_ (walkExpr_wp hwe hI hq (x.at_.sz + 1) x.at_ (by omega) 0 _ (by omega) (by simp only [Hp.next_alloc]; omega) hIa)
  rintro v H2 ⟨rfl, hf2, hi2⟩
  have hn2 : H.next < H2.next := by have := hf2.next; simp only [Hp.next_alloc] at this; omega
  have hg2 : H2.get H.next = some (.cells x.cells 0 true) := by rw [hf2.get _ (by omega) (by simp [Hp.next_alloc]), Hp.get_alloc, if_pos rfl]
  have hr3 : H2.get r3 = some (.cells [.clo g cap] 0 true) := by rw [hf2.get _ hr1 (by simp only [Hp.next_alloc]; omega), Hp.get_alloc, if_neg (by omega)]; exact hi3
  have hF2 : FrB base H H2 := ((FrB.refl _ _).alloc _).trans hf2
  have hold2 : ∀ r, base ≤ r → r < base' → H2.get r = H1.get r := fun r h1 h2 => by rw [hF2.get r h1 (by omega)]; exact hi1 r h1 h2
  dsimp only [setO]
  repeat' (first
     | (refine WpL.nil (hK _ _ ?_); clear hK K; try dsimp only [thenQ, blockQ]) | refine Rx.move (hk := ?_) | refine Rx.assign (hk := ?_) | refine Rx.load (hk := ?_) | refine Rx.bin (hk := ?_) | refine Rx.un (hk := ?_) | refine Rx.fieldAddr (hk := ?_) | refine Rx.indexAddr (hk := ?_) | refine Rx.len (hk := ?_) | refine Rx.pick (hk := ?_) | refine Rx.box (hk := ?_) | refine Rx.alloc (hk := ?_) | refine Rx.store (hk := ?_) | (refine Rx.guardU (hk := ?_); dsimp only [setO]) | (refine Rx.guard (h1 := fun hg => ?_) (h2 := fun hg => ?_) <;> (try simp only [Bool.not_true, Bool.not_false, reduceCtorEq] at hg) <;> (try (cases hg; done)) <;> (try have hgp := hg) <;> (try simp only [decide_eq_true_eq, decide_eq_false_iff_not] at hgp) <;> (try dsimp only [setO])) | (refine Rx.cond (h1 := fun hb => ?_) (h2 := fun hb => ?_) <;> (try simp only [Bool.not_true, Bool.not_false, reduceCtorEq] at hb) <;> (try (cases hb; done)) <;> (try have hbp := hb) <;> (try simp only [decide_eq_true_eq, decide_eq_false_iff_not] at hbp)) | refine Wp.seq ?_ | (refine Wp.ops' fun K hK => ?_) | refine Wp.block ?_ | (refine Wp.skip ?_; try dsimp only [thenQ, blockQ]) | (refine Wp.ret ?_; try dsimp only [thenQ, blockQ]) | (refine Wp.exit ?_; try simp only [thenQ, blockQ, reduceIte]))
  · refine WpL.call rfl (by (try simp only [sB, Nat.reduceBEq, *, -hK]); first | done | with_reducible rfl) (by (try simp only [sB, Nat.reduceBEq, aevals, List.cons_append, List.nil_append, *, -hK]); first | done | with_reducible rfl) ?_; simp only [List.cons_append, List.nil_append, List.append_nil]
    refine WpCall.mono ?_ (walkExpr_wp hwe hI hq (x.value.sz + 1) x.value (by omega) 0 _ (by omega) (by omega) hi2)
    rintro v H3 ⟨rfl, hf3, hi3'⟩
    have hn3 : H.next < H3.next := Nat.lt_of_lt_of_le hn2 hf3.next
    have hg3 : H3.get H.next = some (.cells x.cells 0 true) := by rw [hf3.get _ (by omega) hn2]; exact hg2
    have hr3b : H3.get r3 = some (.cells [.clo g cap] 0 true) := by rw [hf3.get _ hr1 (by omega)]; exact hr3
    have hF3 : FrB base H H3 := hF2.trans hf3
    have hold3 : ∀ r, base ≤ r → r < base' → H3.get r = H1.get r := fun r h1 h2 => by rw [hf3.get r h1 (by omega)]; exact hold2 r h1 h2
    dsimp only [setO]
    repeat' (first
       | (refine WpL.nil (hK _ _ ?_); clear hK K; try dsimp only [thenQ, blockQ]) | refine Rx.move (hk := ?_) | refine Rx.assign (hk := ?_) | refine Rx.load (hk := ?_) | refine Rx.bin (hk := ?_) | refine Rx.un (hk := ?_) | refine Rx.fieldAddr (hk := ?_) | refine Rx.indexAddr (hk := ?_) | refine Rx.len (hk := ?_) | refine Rx.pick (hk := ?_) | refine Rx.box (hk := ?_) | refine Rx.alloc (hk := ?_) | refine Rx.store (hk := ?_) | (refine Rx.guardU (hk := ?_); dsimp only [setO]) | (refine Rx.guard (h1 := fun hg => ?_) (h2 := fun hg => ?_) <;> (try simp only [Bool.not_true, Bool.not_false, reduceCtorEq] at hg) <;> (try (cases hg; done)) <;> (try have hgp := hg) <;> (try simp only [decide_eq_true_eq, decide_eq_false_iff_not] at hgp) <;> (try dsimp only [setO])) | (refine Rx.cond (h1 := fun hb => ?_) (h2 := fun hb => ?_) <;> (try simp only [Bool.not_true, Bool.not_false, reduceCtorEq] at hb) <;> (try (cases hb; done)) <;> (try have hbp := hb) <;> (try simp only [decide_eq_true_eq, decide_eq_false_iff_not] at hbp)) | refine Wp.seq ?_ | (refine Wp.ops' fun K hK => ?_) | refine Wp.block ?_ | (refine Wp.skip ?_; try dsimp only [thenQ, blockQ]) | (refine Wp.ret ?_; try dsimp only [thenQ, blockQ]) | (refine Wp.exit ?_; try simp only [thenQ, blockQ, reduceIte]))
    · all_goals (refine ⟨by first | exact .inl rfl | exact .inr rfl | exact .inl trivial | exact .inr trivial, _, (by (try simp only [sB, Nat.reduceBEq, resultsA, resultA, *]); first | done | with_reducible rfl), ?_⟩; try simp only [oneOr])
      exact ⟨by simp_all [inSt], hF3.weak hbb, hi3', hr3b, hold3⟩
    have hl : x.args.length < 2 ^ 60 := by have := exprsSz_len x.args; omega
    refine Wp.loopN (fun i E H2 => walkEs q x.args 0 = walkEs q (x.args.drop i) 0 ∧ E.at 2 = .ptr r3 0 ∧ E.at 21 = .lst (x.args.map Ex.cells) ∧ E.at 22 = .int .i64 x.args.length ∧ E.at 23 = .int .i64 i ∧ FrB base H H2 ∧ I H2 ∧ H2.get r3 = some (.cells [.clo g cap] 0 true) ∧ (∀ r, base ≤ r → r < base' → H2.get r = H1.get r)) x.args.length ?_ ?_
    · rintro i E H4 hi2 ⟨hc, h2, h21, h22, h23, hf4, hI4, hr4, hold4⟩
      have hn4 := hf4.next
      have e3 : (r3 == H4.next) = false := by simp; omega
      repeat' (first
         | (refine WpL.nil (hK _ _ ?_); clear hK K; try dsimp only [thenQ, blockQ]) | refine Rx.move (hk := ?_) | refine Rx.assign (hk := ?_) | refine Rx.load (hk := ?_) | refine Rx.bin (hk := ?_) | refine Rx.un (hk := ?_) | refine Rx.fieldAddr (hk := ?_) | refine Rx.indexAddr (hk := ?_) | refine Rx.len (hk := ?_) | refine Rx.pick (hk := ?_) | refine Rx.box (hk := ?_) | refine Rx.alloc (hk := ?_) | refine Rx.store (hk := ?_) | (refine Rx.guardU (hk := ?_); dsimp only [setO]) | (refine Rx.guard (h1 := fun hg => ?_) (h2 := fun hg => ?_) <;> (try simp only [Bool.not_true, Bool.not_false, reduceCtorEq] at hg) <;> (try (cases hg; done)) <;> (try have hgp := hg) <;> (try simp only [decide_eq_true_eq, decide_eq_false_iff_not] at hgp) <;> (try dsimp only [setO])) | (refine Rx.cond (h1 := fun hb => ?_) (h2 := fun hb => ?_) <;> (try simp only [Bool.not_true, Bool.not_false, reduceCtorEq] at hb) <;> (try (cases hb; done)) <;> (try have hbp := hb) <;> (try simp only [decide_eq_true_eq, decide_eq_false_iff_not] at hbp)) | refine Wp.seq ?_ | (refine Wp.ops' fun K hK => ?_) | refine Wp.block ?_ | (refine Wp.skip ?_; try dsimp only [thenQ, blockQ]) | (refine Wp.ret ?_; try dsimp only [thenQ, blockQ]) | (refine Wp.exit ?_; try simp only [thenQ, blockQ, reduceIte]))
      · have hlt : i < x.args.length := by simpa using hb
        have hgx : x.args[i]? = some x.args[i] := List.getElem?_eq_getElem hlt
        repeat' (first
           | (refine WpL.nil (hK _ _ ?_); clear hK K; try dsimp only [thenQ, blockQ]) | refine Rx.move (hk := ?_) | refine Rx.assign (hk := ?_) | refine Rx.load (hk := ?_) | refine Rx.bin (hk := ?_) | refine Rx.un (hk := ?_) | refine Rx.fieldAddr (hk := ?_) | refine Rx.indexAddr (hk := ?_) | refine Rx.len (hk := ?_) | refine Rx.pick (hk := ?_) | refine Rx.box (hk := ?_) | refine Rx.alloc (hk := ?_) | refine Rx.store (hk := ?_) | (refine Rx.guardU (hk := ?_); dsimp only [setO]) | (refine Rx.guard (h1 := fun hg => ?_) (h2 := fun hg => ?_) <;> (try simp only [Bool.not_true, Bool.not_false, reduceCtorEq] at hg) <;> (try (cases hg; done)) <;> (try have hgp := hg) <;> (try simp only [decide_eq_true_eq, decide_eq_false_iff_not] at hgp) <;> (try dsimp only [setO])) | (refine Rx.cond (h1 := fun hb => ?_) (h2 := fun hb => ?_) <;> (try simp only [Bool.not_true, Bool.not_false, reduceCtorEq] at hb) <;> (try (cases hb; done)) <;> (try have hbp := hb) <;> (try simp only [decide_eq_true_eq, decide_eq_false_iff_not] at hbp)) | refine Wp.seq ?_ | (refine Wp.ops' fun K hK => ?_) | refine Wp.block ?_ | (refine Wp.skip ?_; try dsimp only [thenQ, blockQ]) | (refine Wp.ret ?_; try dsimp only [thenQ, blockQ]) | (refine Wp.exit ?_; try simp only [thenQ, blockQ, reduceIte]))
        have hxm : x.args[i] ∈ x.args := List.getElem_mem hlt
        have hsm := exprsSz_mem hxm
        have hb4 : base ≤ H4.next := by omega
        generalize hH5 : (H4.alloc _).set H4.next _ = H5
        have hf5 : FrB base H4 H5 := by rw [← hH5]; exact ((FrB.refl _ _).alloc _).set (.inl (Nat.le_refl _)) _
        have hlow5 : Low base H4 H5 := by rw [← hH5]; exact ((Low.refl _ _).alloc hb4 _).set hb4 _
        have hn5 : H4.next < H5.next := by rw [← hH5]; simp only [Hp.next_alloc, Hp.next_set]; omega
        refine WpL.call rfl (by (try simp only [sB, Nat.reduceBEq, *, -hK]); first | done | with_reducible rfl) (by (try simp only [sB, Nat.reduceBEq, aevals, List.cons_append, List.nil_append, *, -hK]); first | done | with_reducible rfl) ?_; simp only [List.cons_append, List.nil_append, List.append_nil]
        refine WpCall.mono ?_ (walkExpr_wp hwe hI hq (x.args[i].sz + 1) x.args[i] (by omega) 0 _ (by omega) (by omega) (hI _ _ hI4 hlow5))
        rintro v H6 ⟨rfl, hf6, hi6⟩
        have hF6 : FrB base H4 H6 := hf5.trans hf6
        have hr6 : H6.get r3 = some (.cells [.clo g cap] 0 true) := by rw [hF6.get _ hr1 (by omega)]; exact hr4
        have hold6 : ∀ r, base ≤ r → r < base' → H6.get r = H1.get r := fun r h1 h2 => by rw [hF6.get r h1 (by omega)]; exact hold4 r h1 h2
        dsimp only [setO]
        repeat' (first
           | (refine WpL.nil (hK _ _ ?_); clear hK K; try dsimp only [thenQ, blockQ]) | refine Rx.move (hk := ?_) | refine Rx.assign (hk := ?_) | refine Rx.load (hk := ?_) | refine Rx.bin (hk := ?_) | refine Rx.un (hk := ?_) | refine Rx.fieldAddr (hk := ?_) | refine Rx.indexAddr (hk := ?_) | refine Rx.len (hk := ?_) | refine Rx.pick (hk := ?_) | refine Rx.box (hk := ?_) | refine Rx.alloc (hk := ?_) | refine Rx.store (hk := ?_) | (refine Rx.guardU (hk := ?_); dsimp only [setO]) | (refine Rx.guard (h1 := fun hg => ?_) (h2 := fun hg => ?_) <;> (try simp only [Bool.not_true, Bool.not_false, reduceCtorEq] at hg) <;> (try (cases hg; done)) <;> (try have hgp := hg) <;> (try simp only [decide_eq_true_eq, decide_eq_false_iff_not] at hgp) <;> (try dsimp only [setO])) | (refine Rx.cond (h1 := fun hb => ?_) (h2 := fun hb => ?_) <;> (try simp only [Bool.not_true, Bool.not_false, reduceCtorEq] at hb) <;> (try (cases hb; done)) <;> (try have hbp := hb) <;> (try simp only [decide_eq_true_eq, decide_eq_false_iff_not] at hbp)) | refine Wp.seq ?_ | (refine Wp.ops' fun K hK => ?_) | refine Wp.block ?_ | (refine Wp.skip ?_; try dsimp only [thenQ, blockQ]) | (refine Wp.ret ?_; try dsimp only [thenQ, blockQ]) | (refine Wp.exit ?_; try simp only [thenQ, blockQ, reduceIte]))
        · all_goals (refine ⟨by first | exact .inl rfl | exact .inr rfl | exact .inl trivial | exact .inr trivial, _, (by (try simp only [sB, Nat.reduceBEq, resultsA, resultA, *]); first | done | with_reducible rfl), ?_⟩; try simp only [oneOr])
          refine ⟨?_, (hf4.trans hF6).weak hbb, hi6, hr6, hold6⟩
          have := walkEs_drop q hlt 0
          simp_all [inSt]
        · refine ⟨hlt, ?_, (by first | (simp only [sB, Nat.reduceBEq, *]; done) | rfl), (by first | (simp only [sB, Nat.reduceBEq, *]; done) | rfl), (by first | (simp only [sB, Nat.reduceBEq, *]; done) | rfl), ?_, hf4.trans hF6, hi6, hr6, hold6⟩
          · rw [hc, walkEs_drop q hlt]; simp_all
          · simp only [at_set, Nat.reduceBEq, cond_true, wrap_succ (show i < 2 ^ 62 by omega)]
      · have hi3 : i = x.args.length := by simp at hb; omega
        all_goals (refine ⟨by first | exact .inl rfl | exact .inr rfl | exact .inl trivial | exact .inr trivial, _, (by (try simp only [sB, Nat.reduceBEq, resultsA, resultA, *]); first | done | with_reducible rfl), ?_⟩; try simp only [oneOr])
        refine ⟨?_, hf4.weak hbb, hI4, hr4, hold4⟩
        rw [hi3] at hc
        simp_all [inSt, walkEs]
    · exact ⟨rfl, (by first | (simp only [sB, Nat.reduceBEq, *]; done) | rfl), (by first | (simp only [sB, Nat.reduceBEq, *]; done) | rfl), (by first | (simp only [sB, Nat.reduceBEq, *]; done) | rfl), (by first | (simp only [sB, Nat.reduceBEq, *]; done) | rfl), hF3, hi3', hr3b, hold3⟩
  · all_goals (refine ⟨by first | exact .inl rfl | exact .inr rfl | exact .inl trivial | exact .inr trivial, _, (by (try simp only [sB, Nat.reduceBEq, resultsA, resultA, *]); first | done | with_reducible rfl), ?_⟩; try simp only [oneOr])
    exact ⟨by simp_all [inSt], hF2.weak hbb, hi2, hr3, hold2⟩
end Go.Proofs.Ytjkmbpieknaekaa
