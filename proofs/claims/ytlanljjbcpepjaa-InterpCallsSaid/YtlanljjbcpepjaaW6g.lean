/- The interpreter: calls; all together. -/
import Derived.Test.YtlanljjbcpepjaaW6f
namespace Go.Proofs.Ytlanljjbcpepjaa
set_option linter.unusedSimpArgs false
set_option linter.unusedVariables false
set_option linter.unusedSectionVars false
set_option linter.defProp false
open Go Go.Ab
namespace tyW6g
def tyF := And.intro @sz2 (And.intro @pt2 (And.intro @bt2 (And.intro @zr2 (And.intro @sz3 (And.intro @pt3 (And.intro @bt3 (And.intro @zr3 (And.intro @sz9 (And.intro @pt9 (And.intro @bt9 (And.intro @zr9 (And.intro @ln9 (And.intro @ix9 (And.intro @sz22 (And.intro @pt22 (And.intro @bt22 (And.intro @zr22 (And.intro @ix22l (And.intro @ix22s (And.intro @ln22l (And.intro @ln22s (And.intro @ln22n (And.intro @sz23 (And.intro @pt23 (And.intro @bt23 (And.intro @zr23 (And.intro @ix23l (And.intro @ix23s (And.intro @ln23l (And.intro @ln23s (And.intro @ln23n (And.intro @sz25 (And.intro @pt25 (And.intro @bt25 (And.intro @zr25 (And.intro @fa25_0p (And.intro @fa25_0c (And.intro @fd25_0 (And.intro @fa25_1p (And.intro @fa25_1c (And.intro @fd25_1 (And.intro @sz35 (And.intro @pt35 (And.intro @bt35 (And.intro @zr35 (And.intro @ix35l (And.intro @ix35s (And.intro @ln35l (And.intro @ln35s (And.intro @ln35n (And.intro @sz36 (And.intro @pt36 (And.intro @bt36 (And.intro @zr36 (And.intro @ix36l (And.intro @ix36s (And.intro @ln36l (And.intro @ln36s (And.intro @ln36n (And.intro @sz37 (And.intro @pt37 (And.intro @bt37 (And.intro @zr37 (And.intro @ix37l (And.intro @ix37s (And.intro @ln37l (And.intro @ln37s (And.intro @ln37n (And.intro @sz39 (And.intro @pt39 (And.intro @bt39 (And.intro @zr39 (And.intro @fa39_0p (And.intro @fa39_0c (And.intro @fd39_0 (And.intro @fa39_1p (And.intro @fa39_1c (And.intro @fd39_1 (And.intro @fa39_2p (And.intro @fa39_2c (And.intro @fd39_2 (And.intro @fa39_3p (And.intro @fa39_3c (And.intro @fd39_3 (And.intro @fa39_4p (And.intro @fa39_4c (And.intro @fd39_4 (And.intro @sz41 (And.intro @pt41 (And.intro @bt41 (And.intro @zr41 (And.intro @fa41_0p (And.intro @fa41_0c (And.intro @fd41_0 (And.intro @fa41_1p (And.intro @fa41_1c (And.intro @fd41_1 (And.intro @fa41_2p (And.intro @fa41_2c (And.intro @fd41_2 (And.intro @fa41_3p (And.intro @fa41_3c (And.intro @fd41_3 (And.intro @fa41_4p (And.intro @fa41_4c (And.intro @fd41_4 (And.intro @sz46 (And.intro @pt46 (And.intro @bt46 (And.intro @zr46 (And.intro @fa46_0p (And.intro @fa46_0c (And.intro @fd46_0 (And.intro @fa46_1p (And.intro @fa46_1c (And.intro @fd46_1 (And.intro @fa46_2p (And.intro @fa46_2c (And.intro @fd46_2 (And.intro @fa46_3p (And.intro @fa46_3c (And.intro @fd46_3 (And.intro @fa46_4p (And.intro @fa46_4c (And.intro @fd46_4 (And.intro @fa46_5p (And.intro @fa46_5c (And.intro @fd46_5 (And.intro @fa46_6p (And.intro @fa46_6c (And.intro @fd46_6 (And.intro @fa46_7p (And.intro @fa46_7c (And.intro @fd46_7 (And.intro @fa46_8p (And.intro @fa46_8c (And.intro @fd46_8 (And.intro @sz52 (And.intro @pt52 (And.intro @bt52 (And.intro @zr52 (And.intro @ix52l (And.intro @ix52s (And.intro @ln52l (And.intro @ln52s (And.intro @ln52n (And.intro @sz85 (And.intro @pt85 (And.intro @bt85 (And.intro @zr85 (And.intro @sz86 (And.intro @pt86 (And.intro @bt86 (And.intro @zr86 (And.intro @sz88 (And.intro @pt88 (And.intro @bt88 (And.intro @zr88 (And.intro @fa88_0p (And.intro @fa88_0c (And.intro @fd88_0 (And.intro @fa88_1p (And.intro @fa88_1c (And.intro @fd88_1 (And.intro @fa88_2p (And.intro @fa88_2c (And.intro @fd88_2 (And.intro @fa88_3p (And.intro @fa88_3c (And.intro @fd88_3 (And.intro @fa88_4p (And.intro @fa88_4c (And.intro @fd88_4 (And.intro @fa88_5p (And.intro @fa88_5c (And.intro @fd88_5 (And.intro @fa88_6p (And.intro @fa88_6c (And.intro @fd88_6 (And.intro @sz123 (And.intro @pt123 (And.intro @bt123 (@zr123)))))))))))))))))))))))))))))))))))))))))))))))))))))))))))))))))))))))))))))))))))))))))))))))))))))))))))))))))))))))))))))))))))))))))))))))))))))))))))))))))))))))))))))))))))))))
end tyW6g
open tyW6g

theorem bindV_drop : ∀ {ps : List Nm} {al : List Int} {vs r : List (Nm × Int)}, bindV ps al vs = some r → ps.length ≤ al.length
  | [], _, _, _, _ => Nat.zero_le _
  | _ :: _, [], _, _, h => by simp [bindV] at h
  | p :: ps, a :: al, vs, r, h => by
    simp only [bindV] at h
    have := bindV_drop h
    simp; omega

section
variable {cfg : Cfg} (hS : Std cfg) (X : Mx)

set_option maxRecDepth 100000 in
set_option maxHeartbeats 8000000 in
include hS in
theorem call_step {N : Nat} (hpz : X.p.sz < 2 ^ 40) (IH : PStmts cfg X N) : PCall cfg X (N + 1) := by
  intro k al s r h ho hal av ov H hR hav halt
  unfold callM at h
  by_cases hk0 : k < 0
  · rw [if_pos hk0] at h; simp at h
  rw [if_neg hk0] at h
  simp only [Option.bind_eq_some_iff] at h
  obtain ⟨f, hf, vs, hv, r1, hs, he⟩ := h
  have hk0' : 0 ≤ k := by omega
  have hm := hR.m
  unfold mc at hm
  have hpsz : X.p.sz = 1 + arrsSz X.p.arrays + fnsSz X.p.funcs := rfl
  have hfm := fnsSz_mem (List.mem_of_getElem? hf)
  have hfsz : f.sz = 1 + f.name.length + strsSz f.params + strsSz f.locals + stmtsSz f.body + f.value.sz := rfl
  have hpl := strsSz_len f.params
  have hpal := bindV_drop hv
  refine WpCall.slim (M := 45) (rs := [.tmp 6]) ((hS.plain _ rfl).call _) (hS.plain _ rfl).ice (hS.plain _ rfl).froz Try.func43 rfl rfl code43.2 rfl ?_; dsimp only [code43, envOf, Nat.reduceAdd]
  repeat' (first
     | (refine WpL.nil (hK _ _ ?_); clear hK K; try dsimp only [thenQ, blockQ]) | refine Rx.move (hk := ?_) | refine Rx.assign (hk := ?_) | refine Rx.load (hk := ?_) | refine Rx.bin (hk := ?_) | refine Rx.fieldAddr (hk := ?_) | refine Rx.indexAddr (hk := ?_) | refine Rx.len (hk := ?_) | refine Rx.nilCheck (hk := ?_) | refine Rx.alloc (hk := ?_) | refine Rx.store (hk := ?_) | refine Rx.makeMap (hk := ?_) | refine Rx.mapUpdate (hk := ?_) | (refine Rx.cond (h1 := fun hb => ?_) (h2 := fun hb => ?_) <;> (try simp only [Bool.not_true, Bool.not_false, reduceCtorEq] at hb) <;> (try (cases hb; done)) <;> (try have hbp := hb) <;> (try simp only [decide_eq_true_eq, decide_eq_false_iff_not] at hbp)) | refine Wp.seq ?_ | (refine Wp.ops' fun K hK => ?_) | refine Wp.block ?_ | (refine Wp.skip ?_; try dsimp only [thenQ, blockQ]) | (refine Wp.ret ?_; try dsimp only [thenQ, blockQ]) | (refine Wp.exit ?_; try simp only [thenQ, blockQ, reduceIte]))
  generalize hH1 : Hp.alloc _ (HB.map []) = H1
  have hn1 : H1.next = H.next + 2 := by rw [← hH1]; rfl
  have hg1 : ∀ r, r < H.next → H1.get r = H.get r := fun r hr => by rw [← hH1, Hp.get_alloc, if_neg (by simp only [Hp.next_set, Hp.next_alloc]; omega), Hp.get_set, if_neg (by omega), Hp.get_alloc, if_neg (by omega)]
  have hbox1 : H1.get H.next = some (.cells f.cells 0 true) := by rw [← hH1, Hp.get_alloc, if_neg (by simp only [Hp.next_set, Hp.next_alloc]; omega), Hp.get_set, if_pos rfl]
  have hmap1 : H1.get (H.next + 1) = some (.map (vEs [])) := by rw [← hH1, Hp.get_alloc, if_pos (by rfl)]; rfl
  have hR1 : RepM X H1 s ov := hR.same (by omega) hg1
  have hvo : ∀ H2 vs2, H2.get (H.next + 1) = some (.map (vEs vs2)) → H1.next ≤ H2.next → VarOk X H2 (H.next + 1) vs2 ov := fun H2 vs2 h1 h2 =>
    ⟨h1, by omega, fun e => by have := hR.own_lt e; omega, by have := hR.lc; omega, by have := hR.lf; omega, fun e => by have := hR.out_lt e; omega⟩
  repeat' (first
     | (refine WpL.nil (hK _ _ ?_); clear hK K; try dsimp only [thenQ, blockQ]) | refine Rx.move (hk := ?_) | refine Rx.assign (hk := ?_) | refine Rx.load (hk := ?_) | refine Rx.bin (hk := ?_) | refine Rx.fieldAddr (hk := ?_) | refine Rx.indexAddr (hk := ?_) | refine Rx.len (hk := ?_) | refine Rx.nilCheck (hk := ?_) | refine Rx.alloc (hk := ?_) | refine Rx.store (hk := ?_) | refine Rx.makeMap (hk := ?_) | refine Rx.mapUpdate (hk := ?_) | (refine Rx.cond (h1 := fun hb => ?_) (h2 := fun hb => ?_) <;> (try simp only [Bool.not_true, Bool.not_false, reduceCtorEq] at hb) <;> (try (cases hb; done)) <;> (try have hbp := hb) <;> (try simp only [decide_eq_true_eq, decide_eq_false_iff_not] at hbp)) | refine Wp.seq ?_ | (refine Wp.ops' fun K hK => ?_) | refine Wp.block ?_ | (refine Wp.skip ?_; try dsimp only [thenQ, blockQ]) | (refine Wp.ret ?_; try dsimp only [thenQ, blockQ]) | (refine Wp.exit ?_; try simp only [thenQ, blockQ, reduceIte]))
  refine Wp.loopN (fun i E H2 => ∃ vs2, bindV (f.params.drop i) (al.drop i) vs2 = some vs ∧ E.at 0 = .ptr X.rm 0 ∧ E.at 2 = av ∧ E.at 7 = .ptr H.next 0 ∧ E.at 8 = .map (H.next + 1) ∧ E.at 21 = lstS f.params ∧ E.at 22 = .int .i64 f.params.length ∧ E.at 23 = .int .i64 i ∧
    H2.get (H.next + 1) = some (.map (vEs vs2)) ∧ H1.next ≤ H2.next ∧ ∀ r, r < H1.next → r ≠ H.next + 1 → H2.get r = H1.get r) f.params.length ?_ ?_
  · rintro i E H2 hi ⟨vs2, hb2, k0, k2, k7, k8, k21, k22, k23, hmap2, hn2, hg2⟩
    repeat' (first
       | (refine WpL.nil (hK _ _ ?_); clear hK K; try dsimp only [thenQ, blockQ]) | refine Rx.move (hk := ?_) | refine Rx.assign (hk := ?_) | refine Rx.load (hk := ?_) | refine Rx.bin (hk := ?_) | refine Rx.fieldAddr (hk := ?_) | refine Rx.indexAddr (hk := ?_) | refine Rx.len (hk := ?_) | refine Rx.nilCheck (hk := ?_) | refine Rx.alloc (hk := ?_) | refine Rx.store (hk := ?_) | refine Rx.makeMap (hk := ?_) | refine Rx.mapUpdate (hk := ?_) | (refine Rx.cond (h1 := fun hb => ?_) (h2 := fun hb => ?_) <;> (try simp only [Bool.not_true, Bool.not_false, reduceCtorEq] at hb) <;> (try (cases hb; done)) <;> (try have hbp := hb) <;> (try simp only [decide_eq_true_eq, decide_eq_false_iff_not] at hbp)) | refine Wp.seq ?_ | (refine Wp.ops' fun K hK => ?_) | refine Wp.block ?_ | (refine Wp.skip ?_; try dsimp only [thenQ, blockQ]) | (refine Wp.ret ?_; try dsimp only [thenQ, blockQ]) | (refine Wp.exit ?_; try simp only [thenQ, blockQ, reduceIte]))
    · have hlt : i < f.params.length := by simpa using hb
      have hlt2 : i < al.length := by omega
      have hgx : f.params[i]? = some f.params[i] := List.getElem?_eq_getElem hlt
      rw [List.drop_eq_getElem_cons hlt, List.drop_eq_getElem_cons hlt2] at hb2
      simp only [bindV] at hb2
      obtain ⟨a, hia, hld⟩ := hav.at (P := Try.prog) (t := 52) Try.underlying52 Try.underlying2 sz2 hlt2
      have hld2 := hld H2 fun r hr => by
        have := halt r hr
        rw [hg2 r (by omega) (by omega)]; exact hg1 r this
      have hu := upd_vEs (P := Try.prog) Try.underlying123 keyS hmap2 f.params[i] (al.getD i 0)
      have hgd : al[i] = al.getD i 0 := by rw [List.getD_eq_getElem?_getD, List.getElem?_eq_getElem hlt2, Option.getD_some]
      rw [hgd] at hb2
      repeat' (first
         | (refine WpL.nil (hK _ _ ?_); clear hK K; try dsimp only [thenQ, blockQ]) | refine Rx.move (hk := ?_) | refine Rx.assign (hk := ?_) | refine Rx.load (hk := ?_) | refine Rx.bin (hk := ?_) | refine Rx.fieldAddr (hk := ?_) | refine Rx.indexAddr (hk := ?_) | refine Rx.len (hk := ?_) | refine Rx.nilCheck (hk := ?_) | refine Rx.alloc (hk := ?_) | refine Rx.store (hk := ?_) | refine Rx.makeMap (hk := ?_) | refine Rx.mapUpdate (hk := ?_) | (refine Rx.cond (h1 := fun hb => ?_) (h2 := fun hb => ?_) <;> (try simp only [Bool.not_true, Bool.not_false, reduceCtorEq] at hb) <;> (try (cases hb; done)) <;> (try have hbp := hb) <;> (try simp only [decide_eq_true_eq, decide_eq_false_iff_not] at hbp)) | refine Wp.seq ?_ | (refine Wp.ops' fun K hK => ?_) | refine Wp.block ?_ | (refine Wp.skip ?_; try dsimp only [thenQ, blockQ]) | (refine Wp.ret ?_; try dsimp only [thenQ, blockQ]) | (refine Wp.exit ?_; try simp only [thenQ, blockQ, reduceIte]))
      refine ⟨hlt, _, hb2, (by first | (simp only [sB, Nat.reduceBEq, *]; done) | rfl), (by first | (simp only [sB, Nat.reduceBEq, *]; done) | rfl), (by first | (simp only [sB, Nat.reduceBEq, *]; done) | rfl), (by first | (simp only [sB, Nat.reduceBEq, *]; done) | rfl), (by first | (simp only [sB, Nat.reduceBEq, *]; done) | rfl), (by first | (simp only [sB, Nat.reduceBEq, *]; done) | rfl), ?_, by rw [Hp.get_set, if_pos rfl], hn2, fun r h1 h2 => ?_⟩
      · simp only [at_set, Nat.reduceBEq, cond_true, wrap_succ (show i < 2 ^ 62 by omega)]
      · rw [Hp.get_set, if_neg h2]; exact hg2 r h1 h2
    · have hie : f.params.length ≤ i := by simp at hb; omega
      rw [List.drop_of_length_le hie] at hb2
      simp only [bindV, Option.some.injEq] at hb2
      subst hb2
      clear hie hb hbp
      have hbox2 : H2.get H.next = some (.cells f.cells 0 true) := by rw [hg2 _ (by omega) (by omega)]; exact hbox1
      have hR2 : RepM X H2 s ov := hR1.other hn2 fun r h1 h2 => hg2 r h1 (by
        rcases h2 with h2 | h2 | h2 | h2
        · have := hR.own_lt h2; omega
        · have := hR.lc; omega
        · have := hR.lf; omega
        · have := hR.out_lt h2; omega)
      have hv2 := hvo H2 vs2 hmap2 hn2
      have f02 : FrS X (fun _ => False) ov H ov H2 := ⟨by omega, fun r h1 h2 h3 h4 => by rw [hg2 r (by omega) (by omega)]; exact hg1 r h1, fun r h => .inl h⟩
      repeat' (first
         | (refine WpL.nil (hK _ _ ?_); clear hK K; try dsimp only [thenQ, blockQ]) | refine Rx.move (hk := ?_) | refine Rx.assign (hk := ?_) | refine Rx.load (hk := ?_) | refine Rx.bin (hk := ?_) | refine Rx.fieldAddr (hk := ?_) | refine Rx.indexAddr (hk := ?_) | refine Rx.len (hk := ?_) | refine Rx.nilCheck (hk := ?_) | refine Rx.alloc (hk := ?_) | refine Rx.store (hk := ?_) | refine Rx.makeMap (hk := ?_) | refine Rx.mapUpdate (hk := ?_) | (refine Rx.cond (h1 := fun hb => ?_) (h2 := fun hb => ?_) <;> (try simp only [Bool.not_true, Bool.not_false, reduceCtorEq] at hb) <;> (try (cases hb; done)) <;> (try have hbp := hb) <;> (try simp only [decide_eq_true_eq, decide_eq_false_iff_not] at hbp)) | refine Wp.seq ?_ | (refine Wp.ops' fun K hK => ?_) | refine Wp.block ?_ | (refine Wp.skip ?_; try dsimp only [thenQ, blockQ]) | (refine Wp.ret ?_; try dsimp only [thenQ, blockQ]) | (refine Wp.exit ?_; try simp only [thenQ, blockQ, reduceIte]))
      refine WpL.call rfl (by (try simp only [sB, Nat.reduceBEq, *, -hK]); first | done | with_reducible rfl) (by (try simp only [sB, Nat.reduceBEq, aevals, List.cons_append, List.nil_append, *, -hK]); first | done | with_reducible rfl) ?_; simp only [List.cons_append, List.nil_append, List.append_nil]
      refine WpCall.mono ?_ (IH f.body vs2 s r1 hs (by omega) (by rw [← (exprM_keep _ _ _ _ _ he).1]; exact ho) (H.next + 1) ov H2 hR2 hv2)
      rintro v H3 ⟨ov3, hR3, hv3, hf3⟩
      have hn3 := hf3.next
      have hbox3 : H3.get H.next = some (.cells f.cells 0 true) := by rw [hf3.keep hR (Nat.le_refl _) (by omega) (by omega)]; exact hbox2
      dsimp only [setO]
      repeat' (first
         | (refine WpL.nil (hK _ _ ?_); clear hK K; try dsimp only [thenQ, blockQ]) | refine Rx.move (hk := ?_) | refine Rx.assign (hk := ?_) | refine Rx.load (hk := ?_) | refine Rx.bin (hk := ?_) | refine Rx.fieldAddr (hk := ?_) | refine Rx.indexAddr (hk := ?_) | refine Rx.len (hk := ?_) | refine Rx.nilCheck (hk := ?_) | refine Rx.alloc (hk := ?_) | refine Rx.store (hk := ?_) | refine Rx.makeMap (hk := ?_) | refine Rx.mapUpdate (hk := ?_) | (refine Rx.cond (h1 := fun hb => ?_) (h2 := fun hb => ?_) <;> (try simp only [Bool.not_true, Bool.not_false, reduceCtorEq] at hb) <;> (try (cases hb; done)) <;> (try have hbp := hb) <;> (try simp only [decide_eq_true_eq, decide_eq_false_iff_not] at hbp)) | refine Wp.seq ?_ | (refine Wp.ops' fun K hK => ?_) | refine Wp.block ?_ | (refine Wp.skip ?_; try dsimp only [thenQ, blockQ]) | (refine Wp.ret ?_; try dsimp only [thenQ, blockQ]) | (refine Wp.exit ?_; try simp only [thenQ, blockQ, reduceIte]))
      refine WpL.call rfl (by (try simp only [sB, Nat.reduceBEq, *, -hK]); first | done | with_reducible rfl) (by (try simp only [sB, Nat.reduceBEq, aevals, List.cons_append, List.nil_append, *, -hK]); first | done | with_reducible rfl) ?_; simp only [List.cons_append, List.nil_append, List.append_nil]
      refine WpCall.mono ?_ (expr_wp hS X N f.value r1.1 r1.2 r he (H.next + 1) ov3 H3 hR3 hv3.get hv3.lt hv3.nm)
      rintro v H4 ⟨rfl, hR4, hf4⟩
      have hn4 := hf4.next
      dsimp only [setO]
      repeat' (first
         | (refine WpL.nil (hK _ _ ?_); clear hK K; try dsimp only [thenQ, blockQ]) | refine Rx.move (hk := ?_) | refine Rx.assign (hk := ?_) | refine Rx.load (hk := ?_) | refine Rx.bin (hk := ?_) | refine Rx.fieldAddr (hk := ?_) | refine Rx.indexAddr (hk := ?_) | refine Rx.len (hk := ?_) | refine Rx.nilCheck (hk := ?_) | refine Rx.alloc (hk := ?_) | refine Rx.store (hk := ?_) | refine Rx.makeMap (hk := ?_) | refine Rx.mapUpdate (hk := ?_) | (refine Rx.cond (h1 := fun hb => ?_) (h2 := fun hb => ?_) <;> (try simp only [Bool.not_true, Bool.not_false, reduceCtorEq] at hb) <;> (try (cases hb; done)) <;> (try have hbp := hb) <;> (try simp only [decide_eq_true_eq, decide_eq_false_iff_not] at hbp)) | refine Wp.seq ?_ | (refine Wp.ops' fun K hK => ?_) | refine Wp.block ?_ | (refine Wp.skip ?_; try dsimp only [thenQ, blockQ]) | (refine Wp.ret ?_; try dsimp only [thenQ, blockQ]) | (refine Wp.exit ?_; try simp only [thenQ, blockQ, reduceIte]))
      all_goals (refine ⟨by first | exact .inl rfl | exact .inr rfl | exact .inl trivial | exact .inr trivial, _, (by (try simp only [sB, Nat.reduceBEq, resultsA, resultA, *]); first | done | with_reducible rfl), ?_⟩; try simp only [oneOr])
      refine ⟨by first | rfl | trivial, ov3, hR4, by omega, fun r h1 h2 h3 h4 => ?_, fun r h1 => ?_⟩
      · rw [hf4.get r (by omega) (fun e => h2 (.inl e)), hf3.get r (by omega) h2 h3 (by omega)]
        exact f02.get r h1 h2 h3 h4
      · rcases hf3.out r h1 with e | e
        · exact .inl e
        · exact .inr (by omega)
  · refine ⟨[], by simpa using hv, (by first | (simp only [sB, Nat.reduceBEq, *]; done) | rfl), (by first | (simp only [sB, Nat.reduceBEq, *]; done) | rfl), (by first | (simp only [sB, Nat.reduceBEq, *]; done) | rfl), (by first | (simp only [sB, Nat.reduceBEq, *]; done) | rfl), (by first | (simp only [sB, Nat.reduceBEq, *]; done) | rfl), (by first | (simp only [sB, Nat.reduceBEq, *]; done) | rfl), (by first | (simp only [sB, Nat.reduceBEq, *]; done) | rfl), hmap1, Nat.le_refl _, fun _ _ _ => rfl⟩

include hS in
theorem stmt_step {N : Nat} (IHs : ∀ m, m < N → PStmts cfg X m) (IHc : ∀ m, m < N → PCall cfg X m) : PStmt cfg X N := by
  intro x vs s r h hz ho rv ov H hR hv
  cases N with
  | zero => simp [stmtM] at h
  | succ n =>
    unfold stmtM at h
    by_cases h1 : x.kind = 1
    · rw [if_pos h1] at h
      simp only [Option.bind_eq_some_iff, Option.some.injEq] at h
      obtain ⟨r1, he, rfl⟩ := h
      exact stmt1 hS X h1 he hR hv
    rw [if_neg h1] at h
    by_cases h2 : x.kind = 2
    · rw [if_pos h2] at h
      simp only [Option.bind_eq_some_iff, Option.some.injEq] at h
      obtain ⟨r1, he, r2, he2, rfl⟩ := h
      exact stmt2 hS X h2 he he2 hR hv
    rw [if_neg h2] at h
    by_cases h3 : x.kind = 3
    · rw [if_pos h3] at h
      simp only [Option.bind_eq_some_iff] at h
      obtain ⟨r1, he, h⟩ := h
      exact stmt3 hS X h3 he h (IHs n (Nat.lt_succ_self n)) hz ho hR hv
    rw [if_neg h3] at h
    by_cases h4 : x.kind = 4
    · rw [if_pos h4] at h
      exact stmt4 hS X h4 h (fun m hm => IHs m (by omega)) hz ho hR hv
    rw [if_neg h4] at h
    by_cases h5 : x.kind = 5
    · rw [if_pos h5] at h
      simp only [Option.bind_eq_some_iff, Option.some.injEq] at h
      obtain ⟨r1, he, rfl⟩ := h
      exact stmt5 hS X h5 he ho hR hv
    rw [if_neg h5] at h
    by_cases h6 : x.kind = 6
    · rw [if_pos h6] at h
      simp only [Option.bind_eq_some_iff] at h
      obtain ⟨ra, ha, h⟩ := h
      exact stmt6 hS X h6 ha h (IHc n (Nat.lt_succ_self n)) hz ho hR hv
    rw [if_neg h6] at h
    by_cases h7 : x.kind = 7
    · rw [if_pos h7, Option.some.injEq] at h
      subst h
      exact stmt7 hS X h7 hR hv
    rw [if_neg h7, Option.some.injEq] at h
    subst h
    exact stmt0 hS X h1 h2 h3 h4 h5 h6 h7 hR hv

include hS in
theorem all_wp (hpz : X.p.sz < 2 ^ 40) (N : Nat) : PStmt cfg X N ∧ PStmts cfg X N ∧ PCall cfg X N := by
  induction N using Nat.strongRecOn with
  | _ N IH =>
    refine ⟨stmt_step hS X (fun m hm => (IH m hm).2.1) (fun m hm => (IH m hm).2.2), stmts_step hS X (fun m hm => (IH m hm).1), ?_⟩
    cases N with
    | zero => intro k al s r h; simp [callM] at h
    | succ n => exact call_step hS X hpz (IH n (Nat.lt_succ_self n)).2.1
end
end Go.Proofs.Ytlanljjbcpepjaa
