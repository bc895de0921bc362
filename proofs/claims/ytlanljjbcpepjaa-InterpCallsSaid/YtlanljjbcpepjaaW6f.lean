/- The interpreter: call statements, rows of statements, calls. -/
import Derived.Test.YtlanljjbcpepjaaW6e
namespace Go.Proofs.Ytlanljjbcpepjaa
set_option linter.unusedSimpArgs false
set_option linter.unusedVariables false
set_option linter.unusedSectionVars false
set_option linter.defProp false
open Go Go.Ab
namespace tyW6f
def tyF := And.intro @sz2 (And.intro @pt2 (And.intro @bt2 (And.intro @zr2 (And.intro @sz3 (And.intro @pt3 (And.intro @bt3 (And.intro @zr3 (And.intro @sz9 (And.intro @pt9 (And.intro @bt9 (And.intro @zr9 (And.intro @ln9 (And.intro @ix9 (And.intro @sz22 (And.intro @pt22 (And.intro @bt22 (And.intro @zr22 (And.intro @ix22l (And.intro @ix22s (And.intro @ln22l (And.intro @ln22s (And.intro @ln22n (And.intro @sz23 (And.intro @pt23 (And.intro @bt23 (And.intro @zr23 (And.intro @ix23l (And.intro @ix23s (And.intro @ln23l (And.intro @ln23s (And.intro @ln23n (And.intro @sz25 (And.intro @pt25 (And.intro @bt25 (And.intro @zr25 (And.intro @fa25_0p (And.intro @fa25_0c (And.intro @fd25_0 (And.intro @fa25_1p (And.intro @fa25_1c (And.intro @fd25_1 (And.intro @sz35 (And.intro @pt35 (And.intro @bt35 (And.intro @zr35 (And.intro @ix35l (And.intro @ix35s (And.intro @ln35l (And.intro @ln35s (And.intro @ln35n (And.intro @sz36 (And.intro @pt36 (And.intro @bt36 (And.intro @zr36 (And.intro @ix36l (And.intro @ix36s (And.intro @ln36l (And.intro @ln36s (And.intro @ln36n (And.intro @sz37 (And.intro @pt37 (And.intro @bt37 (And.intro @zr37 (And.intro @ix37l (And.intro @ix37s (And.intro @ln37l (And.intro @ln37s (And.intro @ln37n (And.intro @sz39 (And.intro @pt39 (And.intro @bt39 (And.intro @zr39 (And.intro @fa39_0p (And.intro @fa39_0c (And.intro @fd39_0 (And.intro @fa39_1p (And.intro @fa39_1c (And.intro @fd39_1 (And.intro @fa39_2p (And.intro @fa39_2c (And.intro @fd39_2 (And.intro @fa39_3p (And.intro @fa39_3c (And.intro @fd39_3 (And.intro @fa39_4p (And.intro @fa39_4c (And.intro @fd39_4 (And.intro @sz41 (And.intro @pt41 (And.intro @bt41 (And.intro @zr41 (And.intro @fa41_0p (And.intro @fa41_0c (And.intro @fd41_0 (And.intro @fa41_1p (And.intro @fa41_1c (And.intro @fd41_1 (And.intro @fa41_2p (And.intro @fa41_2c (And.intro @fd41_2 (And.intro @fa41_3p (And.intro @fa41_3c (And.intro @fd41_3 (And.intro @fa41_4p (And.intro @fa41_4c (And.intro @fd41_4 (And.intro @sz46 (And.intro @pt46 (And.intro @bt46 (And.intro @zr46 (And.intro @fa46_0p (And.intro @fa46_0c (And.intro @fd46_0 (And.intro @fa46_1p (And.intro @fa46_1c (And.intro @fd46_1 (And.intro @fa46_2p (And.intro @fa46_2c (And.intro @fd46_2 (And.intro @fa46_3p (And.intro @fa46_3c (And.intro @fd46_3 (And.intro @fa46_4p (And.intro @fa46_4c (And.intro @fd46_4 (And.intro @fa46_5p (And.intro @fa46_5c (And.intro @fd46_5 (And.intro @fa46_6p (And.intro @fa46_6c (And.intro @fd46_6 (And.intro @fa46_7p (And.intro @fa46_7c (And.intro @fd46_7 (And.intro @fa46_8p (And.intro @fa46_8c (And.intro @fd46_8 (And.intro @sz52 (And.intro @pt52 (And.intro @bt52 (And.intro @zr52 (And.intro @ix52l (And.intro @ix52s (And.intro @ln52l (And.intro @ln52s (And.intro @ln52n (And.intro @sz85 (And.intro @pt85 (And.intro @bt85 (And.intro @zr85 (And.intro @sz86 (And.intro @pt86 (And.intro @bt86 (And.intro @zr86 (And.intro @sz88 (And.intro @pt88 (And.intro @bt88 (And.intro @zr88 (And.intro @fa88_0p (And.intro @fa88_0c (And.intro @fd88_0 (And.intro @fa88_1p (And.intro @fa88_1c (And.intro @fd88_1 (And.intro @fa88_2p (And.intro @fa88_2c (And.intro @fd88_2 (And.intro @fa88_3p (And.intro @fa88_3c (And.intro @fd88_3 (And.intro @fa88_4p (And.intro @fa88_4c (And.intro @fd88_4 (And.intro @fa88_5p (And.intro @fa88_5c (And.intro @fd88_5 (And.intro @fa88_6p (And.intro @fa88_6c (And.intro @fd88_6 (And.intro @sz123 (And.intro @pt123 (And.intro @bt123 (And.intro @zr123 (@bs52))))))))))))))))))))))))))))))))))))))))))))))))))))))))))))))))))))))))))))))))))))))))))))))))))))))))))))))))))))))))))))))))))))))))))))))))))))))))))))))))))))))))))))))))))))))))
end tyW6f
open tyW6f

noncomputable def code78 : { c : SC // slim 27 (Try.f78.body.getD .skip) = c } := by
  refine ⟨?_, ?_⟩
  rotate_left
  · simp only [Try.f78, Option.getD_some, slim, slimR, slimL, slimD, slimG, Nat.blt, Nat.ble]
    rfl
noncomputable def code43 : { c : SC // slim 45 (Try.f43.body.getD .skip) = c } := by
  refine ⟨?_, ?_⟩
  rotate_left
  · simp only [Try.f43, Option.getD_some, slim, slimR, slimL, slimD, slimG, Nat.blt, Nat.ble]
    rfl

/-- The arguments so far. -/
def ArgR (b : Nat) (H : Hp) (v : AV) (l : List Int) : Prop := (v = .nilS ∧ l = []) ∨ ∃ r, v = .sl r 0 l.length 1 ∧ H.get r = some (.cells (ints l) 0 true) ∧ b ≤ r ∧ r < H.next
theorem ArgR.ints {b : Nat} {H : Hp} {v : AV} {l : List Int} (h : ArgR b H v l) : IntsR H v l := by
  rcases h with h | ⟨r, h1, h2, _⟩
  · exact .inl h
  · exact .inr ⟨r, h1, h2⟩
theorem ArgR.lt {b : Nat} {H : Hp} {v : AV} {l : List Int} (h : ArgR b H v l) : ∀ k, outB v k → b ≤ k ∧ k < H.next := fun k ⟨n, e⟩ => by
  rcases h with ⟨h, _⟩ | ⟨r, h1, h2, h3, h4⟩
  · rw [h] at e; simp at e
  · rw [h1] at e
    simp only [AV.sl.injEq] at e
    omega
theorem ArgR.slb {b : Nat} {H : Hp} {v : AV} {l : List Int} (h : ArgR b H v l) : ∀ k, slB v k → k < H.next := fun k ⟨o, n, z, e⟩ => by
  rcases h with ⟨h, _⟩ | ⟨r, h1, h2, h3, h4⟩
  · rw [h] at e; simp at e
  · rw [h1] at e
    simp only [AV.sl.injEq] at e
    omega
theorem ArgR.mono {b : Nat} {H H' : Hp} {v : AV} {l : List Int} (h : ArgR b H v l) (hn : H.next ≤ H'.next) (hg : ∀ k, b ≤ k → k < H.next → H'.get k = H.get k) : ArgR b H' v l := by
  rcases h with h | ⟨r, h1, h2, h3, h4⟩
  · exact .inl h
  · exact .inr ⟨r, h1, by rw [hg r h3 h4]; exact h2, h3, by omega⟩

section
variable {cfg : Cfg} (hS : Std cfg) (X : Mx) {x : St} {vs : List (Nm × Int)} {s : MS} {rv : Nat} {ov : AV} {H : Hp}

set_option maxRecDepth 100000 in
set_option maxHeartbeats 8000000 in
include hS in
theorem stmt6 (hk : x.kind = 6) {n : Nat} {ra : List Int × MS} {r : List (Nm × Int) × MS} (ha : argsM n x.args vs s = some ra)
    (h2 : (if (tickM ra.2).fin = 0 then (callM X.p X.fi n (lkV X.fi x.to) ra.1 (tickM ra.2)).bind fun r2 => some (setV vs x.name r2.1, r2.2) else some (vs, tickM ra.2)) = some r)
    (IH : PCall cfg X n) (hz : x.sz < 2 ^ 40) (ho : r.2.out.length < 2 ^ 40) (hR : RepM X H s ov) (hv : VarOk X H rv vs ov) :
    WpCall Try.prog cfg 99 [.ptr X.rm 0, .agg x.cells, .map rv] H (StmtPost X rv ov H r) := by
  have b1 := Boxed.start (x := x) X hR hv
  have hsz := x.sz_eq
  have hal := exprsSz_len x.args
  have hral := (argsM_keep _ _ _ _ ha).2.2.2
  have hkeep : cfg.keep 99 = false := hS.keep _
  refine WpCall.slim (M := 154) (rs := []) ((hS.plain _ rfl).call _) (hS.plain _ rfl).ice (hS.plain _ rfl).froz Try.func99 rfl rfl code99.2 rfl ?_; dsimp only [code99, envOf, Nat.reduceAdd]
  repeat' (first
     | (refine WpL.nil (hK _ _ ?_); clear hK K; try dsimp only [thenQ, blockQ]) | (refine WpL.nil ?_; (try dsimp only []); (try intro _)) | (refine WpT.nil (hK _ _ _ ?_ ?_) <;> clear hK K <;> try dsimp only [thenQ, blockQ]) | refine Ry.move (hk := ?_) | refine Ry.assign (hk := ?_) | refine Ry.load (hk := ?_) | refine Ry.bin (hk := ?_) | refine Ry.fieldAddr (hk := ?_) | refine Ry.indexAddr (hk := ?_) | refine Ry.len (hk := ?_) | refine Ry.pick (hk := ?_) | refine Ry.nilCheck (hk := ?_) | refine Ry.box (hk := ?_) | refine Ry.alloc (hk := ?_) | refine Ry.store (hk := ?_) | refine Ry.lookup (hk := ?_) | refine Ry.mapUpdate (hk := ?_) | refine Ry.buildSlice (hk := ?_) | refine Ry.append (hk := ?_) | (refine Ry.guardU (hk := ?_); dsimp only [setO]) | (refine Ry.guard (h1 := fun hg => ?_) (h2 := fun hg => ?_) <;> (try simp only [Bool.not_true, Bool.not_false, reduceCtorEq] at hg) <;> (try (cases hg; done)) <;> (try have hgp := hg) <;> (try simp only [decide_eq_true_eq, decide_eq_false_iff_not] at hgp) <;> (try dsimp only [setO])) | (refine Ry.cond (h1 := fun hb => ?_) (h2 := fun hb => ?_) <;> (try simp only [Bool.not_true, Bool.not_false, reduceCtorEq] at hb) <;> (try (cases hb; done)) <;> (try have hbp := hb) <;> (try simp only [decide_eq_true_eq, decide_eq_false_iff_not] at hbp)) | refine Wp.seq ?_ | (refine Wp.ops' fun K hK => ?_)
     | refine Wp.drawT (id := 3) (need := [(2, 7), (2, 8), (5, 7)]) (by first | rfl | exact hplan _ | (rw [hS.plan]; rfl)) (by kernel_rfl) (by simp only [slimL, slimD, slimG, Nat.blt, Nat.ble]; rfl) (by kernel_rfl) fun K hK => ?_ | (refine Wp.drawT (id := 5) (need := [(4, 12), (4, 17), (4, 18), (6, 12), (6, 17), (6, 18), (7, 12), (7, 17), (7, 18), (10, 12), (15, 12), (15, 17)]) (by first | rfl | exact hplan _ | (rw [hS.plan]; rfl)) (by kernel_rfl) (by simp only [slimL, slimD, slimG, Nat.blt, Nat.ble]; rfl) (by kernel_rfl) fun K hK => ?_) | (refine Wp.drawT (id := 28) (need := [(2, 12), (2, 13), (7, 12), (9, 12), (10, 12)]) (by first | rfl | exact hplan _ | (rw [hS.plan]; rfl)) (by kernel_rfl) (by simp only [slimL, slimD, slimG, Nat.blt, Nat.ble]; rfl) (by kernel_rfl) fun K hK => ?_) | refine WpT.step ?_ | refine WpT.step0 rfl ?_ | (refine Ry.guardUT (hk := ?_); dsimp only [setO]) | (refine Ry.guardT (h1 := fun hg => ?_) (h2 := fun hg => ?_) <;> (try simp only [Bool.not_true, Bool.not_false, reduceCtorEq] at hg) <;> (try (cases hg; done)) <;> (try have hgp := hg) <;> (try simp only [decide_eq_true_eq, decide_eq_false_iff_not] at hgp) <;> (try dsimp only [setO])) | refine Wp.block ?_ | (refine Wp.skip ?_; try dsimp only [thenQ, blockQ]) | (refine Wp.ret ?_; try dsimp only [thenQ, blockQ]) | (refine Wp.exit ?_; try simp only [thenQ, blockQ, reduceIte]))
  refine Wp.loopN (fun i E H2 => ∃ s2, argsM n (x.args.drop i) vs s2 = some (ra.1.drop i, ra.2) ∧ E.at 0 = .ptr X.rm 0 ∧ E.at 2 = .map rv ∧ E.at 4 = .ptr H.next 0 ∧ E.at 113 = .lst (x.args.map Ex.cells) ∧ E.at 114 = .int .i64 x.args.length ∧ E.at 115 = .int .i64 i ∧
    ArgR (H.next + 1) H2 (E.at 7) (ra.1.take i) ∧ RepM X H2 s2 ov ∧ FrE X (H.alloc (.cells x.cells 0 true)) H2) x.args.length ?_ ?_
  · rintro i E H2 hi ⟨s2, has, k0, k2, k4, k113, k114, k115, k7, hR2, hf2⟩
    repeat' (first
       | (refine WpL.nil (hK _ _ ?_); clear hK K; try dsimp only [thenQ, blockQ]) | (refine WpL.nil ?_; (try dsimp only []); (try intro _)) | (refine WpT.nil (hK _ _ _ ?_ ?_) <;> clear hK K <;> try dsimp only [thenQ, blockQ]) | refine Rx.move (hk := ?_) | refine Rx.assign (hk := ?_) | refine Rx.load (hk := ?_) | refine Rx.bin (hk := ?_) | refine Rx.fieldAddr (hk := ?_) | refine Rx.indexAddr (hk := ?_) | refine Rx.len (hk := ?_) | refine Rx.pick (hk := ?_) | refine Rx.nilCheck (hk := ?_) | refine Rx.box (hk := ?_) | refine Rx.alloc (hk := ?_) | refine Rx.store (hk := ?_) | refine Rx.lookup (hk := ?_) | refine Rx.mapUpdate (hk := ?_) | refine Rx.buildSlice (hk := ?_) | refine Rx.append (hk := ?_) | (refine Rx.guardU (hk := ?_); dsimp only [setO]) | (refine Rx.guard (h1 := fun hg => ?_) (h2 := fun hg => ?_) <;> (try simp only [Bool.not_true, Bool.not_false, reduceCtorEq] at hg) <;> (try (cases hg; done)) <;> (try have hgp := hg) <;> (try simp only [decide_eq_true_eq, decide_eq_false_iff_not] at hgp) <;> (try dsimp only [setO])) | (refine Rx.cond (h1 := fun hb => ?_) (h2 := fun hb => ?_) <;> (try simp only [Bool.not_true, Bool.not_false, reduceCtorEq] at hb) <;> (try (cases hb; done)) <;> (try have hbp := hb) <;> (try simp only [decide_eq_true_eq, decide_eq_false_iff_not] at hbp)) | refine Wp.seq ?_ | (refine Wp.ops' fun K hK => ?_)
       | refine Wp.drawT (id := 3) (need := [(2, 7), (2, 8), (5, 7)]) (by first | rfl | exact hplan _ | (rw [hS.plan]; rfl)) (by kernel_rfl) (by simp only [slimL, slimD, slimG, Nat.blt, Nat.ble]; rfl) (by kernel_rfl) fun K hK => ?_ | (refine Wp.drawT (id := 5) (need := [(4, 12), (4, 17), (4, 18), (6, 12), (6, 17), (6, 18), (7, 12), (7, 17), (7, 18), (10, 12), (15, 12), (15, 17)]) (by first | rfl | exact hplan _ | (rw [hS.plan]; rfl)) (by kernel_rfl) (by simp only [slimL, slimD, slimG, Nat.blt, Nat.ble]; rfl) (by kernel_rfl) fun K hK => ?_) | (refine Wp.drawT (id := 28) (need := [(2, 12), (2, 13), (7, 12), (9, 12), (10, 12)]) (by first | rfl | exact hplan _ | (rw [hS.plan]; rfl)) (by kernel_rfl) (by simp only [slimL, slimD, slimG, Nat.blt, Nat.ble]; rfl) (by kernel_rfl) fun K hK => ?_) | refine WpT.step ?_ | refine WpT.step0 rfl ?_ | (refine Rx.guardUT (hk := ?_); dsimp only [setO]) | (refine Rx.guardT (h1 := fun hg => ?_) (h2 := fun hg => ?_) <;> (try simp only [Bool.not_true, Bool.not_false, reduceCtorEq] at hg) <;> (try (cases hg; done)) <;> (try have hgp := hg) <;> (try simp only [decide_eq_true_eq, decide_eq_false_iff_not] at hgp) <;> (try dsimp only [setO])) | refine Wp.block ?_ | (refine Wp.skip ?_; try dsimp only [thenQ, blockQ]) | (refine Wp.ret ?_; try dsimp only [thenQ, blockQ]) | (refine Wp.exit ?_; try simp only [thenQ, blockQ, reduceIte]))
    · have hlt : i < x.args.length := by simpa using hb
      have hgx : x.args[i]? = some x.args[i] := List.getElem?_eq_getElem hlt
      have hxm := exprsSz_mem (List.getElem_mem hlt)
      rw [List.drop_eq_getElem_cons hlt] at has
      simp only [argsM, Option.bind_eq_some_iff, Option.some.injEq, Prod.mk.injEq] at has
      obtain ⟨r1, he, r2, has, hd, h22⟩ := has
      repeat' (first
         | (refine WpL.nil (hK _ _ ?_); clear hK K; try dsimp only [thenQ, blockQ]) | (refine WpL.nil ?_; (try dsimp only []); (try intro _)) | (refine WpT.nil (hK _ _ _ ?_ ?_) <;> clear hK K <;> try dsimp only [thenQ, blockQ]) | refine Rx.move (hk := ?_) | refine Rx.assign (hk := ?_) | refine Rx.load (hk := ?_) | refine Rx.bin (hk := ?_) | refine Rx.fieldAddr (hk := ?_) | refine Rx.indexAddr (hk := ?_) | refine Rx.len (hk := ?_) | refine Rx.pick (hk := ?_) | refine Rx.nilCheck (hk := ?_) | refine Rx.box (hk := ?_) | refine Rx.alloc (hk := ?_) | refine Rx.store (hk := ?_) | refine Rx.lookup (hk := ?_) | refine Rx.mapUpdate (hk := ?_) | refine Rx.buildSlice (hk := ?_) | refine Rx.append (hk := ?_) | (refine Rx.guardU (hk := ?_); dsimp only [setO]) | (refine Rx.guard (h1 := fun hg => ?_) (h2 := fun hg => ?_) <;> (try simp only [Bool.not_true, Bool.not_false, reduceCtorEq] at hg) <;> (try (cases hg; done)) <;> (try have hgp := hg) <;> (try simp only [decide_eq_true_eq, decide_eq_false_iff_not] at hgp) <;> (try dsimp only [setO])) | (refine Rx.cond (h1 := fun hb => ?_) (h2 := fun hb => ?_) <;> (try simp only [Bool.not_true, Bool.not_false, reduceCtorEq] at hb) <;> (try (cases hb; done)) <;> (try have hbp := hb) <;> (try simp only [decide_eq_true_eq, decide_eq_false_iff_not] at hbp)) | refine Wp.seq ?_ | (refine Wp.ops' fun K hK => ?_)
         | refine Wp.drawT (id := 3) (need := [(2, 7), (2, 8), (5, 7)]) (by first | rfl | exact hplan _ | (rw [hS.plan]; rfl)) (by kernel_rfl) (by simp only [slimL, slimD, slimG, Nat.blt, Nat.ble]; rfl) (by kernel_rfl) fun K hK => ?_ | (refine Wp.drawT (id := 5) (need := [(4, 12), (4, 17), (4, 18), (6, 12), (6, 17), (6, 18), (7, 12), (7, 17), (7, 18), (10, 12), (15, 12), (15, 17)]) (by first | rfl | exact hplan _ | (rw [hS.plan]; rfl)) (by kernel_rfl) (by simp only [slimL, slimD, slimG, Nat.blt, Nat.ble]; rfl) (by kernel_rfl) fun K hK => ?_) | (refine Wp.drawT (id := 28) (need := [(2, 12), (2, 13), (7, 12), (9, 12), (10, 12)]) (by first | rfl | exact hplan _ | (rw [hS.plan]; rfl)) (by kernel_rfl) (by simp only [slimL, slimD, slimG, Nat.blt, Nat.ble]; rfl) (by kernel_rfl) fun K hK => ?_) | refine WpT.step ?_ | refine WpT.step0 rfl ?_ | (refine Rx.guardUT (hk := ?_); dsimp only [setO]) | (refine Rx.guardT (h1 := fun hg => ?_) (h2 := fun hg => ?_) <;> (try simp only [Bool.not_true, Bool.not_false, reduceCtorEq] at hg) <;> (try (cases hg; done)) <;> (try have hgp := hg) <;> (try simp only [decide_eq_true_eq, decide_eq_false_iff_not] at hgp) <;> (try dsimp only [setO])) | refine Wp.block ?_ | (refine Wp.skip ?_; try dsimp only [thenQ, blockQ]) | (refine Wp.ret ?_; try dsimp only [thenQ, blockQ]) | (refine Wp.exit ?_; try simp only [thenQ, blockQ, reduceIte]))
      generalize hH3 : Hp.set _ H2.next _ = H3
      have hn3 : H3.next = H2.next + 1 := by rw [← hH3]; rfl
      have hg3 : ∀ k, k < H2.next → H3.get k = H2.get k := fun k hk => by rw [← hH3, Hp.get_set, if_neg (by omega), Hp.get_alloc, if_neg (by omega)]
      have hb3 : H3.get H2.next = some (.cells x.args[i].cells 0 true) := by rw [← hH3, Hp.get_set, if_pos rfl]
      have hR3 : RepM X H3 s2 ov := hR2.same (by omega) hg3
      have hf3 : FrE X (H.alloc (.cells x.cells 0 true)) H3 := hf2.trans ⟨by omega, fun k h1 _ => hg3 k h1⟩
      have hv3 := b1.v.frE hf3
      have k73 := k7.mono (H' := H3) (by omega) fun k _ h => hg3 k h
      repeat' (first
         | (refine WpL.nil (hK _ _ ?_); clear hK K; try dsimp only [thenQ, blockQ]) | (refine WpL.nil ?_; (try dsimp only []); (try intro _)) | (refine WpT.nil (hK _ _ _ ?_ ?_) <;> clear hK K <;> try dsimp only [thenQ, blockQ]) | refine Rx.move (hk := ?_) | refine Rx.assign (hk := ?_) | refine Rx.load (hk := ?_) | refine Rx.bin (hk := ?_) | refine Rx.fieldAddr (hk := ?_) | refine Rx.indexAddr (hk := ?_) | refine Rx.len (hk := ?_) | refine Rx.pick (hk := ?_) | refine Rx.nilCheck (hk := ?_) | refine Rx.box (hk := ?_) | refine Rx.alloc (hk := ?_) | refine Rx.store (hk := ?_) | refine Rx.lookup (hk := ?_) | refine Rx.mapUpdate (hk := ?_) | refine Rx.buildSlice (hk := ?_) | refine Rx.append (hk := ?_) | (refine Rx.guardU (hk := ?_); dsimp only [setO]) | (refine Rx.guard (h1 := fun hg => ?_) (h2 := fun hg => ?_) <;> (try simp only [Bool.not_true, Bool.not_false, reduceCtorEq] at hg) <;> (try (cases hg; done)) <;> (try have hgp := hg) <;> (try simp only [decide_eq_true_eq, decide_eq_false_iff_not] at hgp) <;> (try dsimp only [setO])) | (refine Rx.cond (h1 := fun hb => ?_) (h2 := fun hb => ?_) <;> (try simp only [Bool.not_true, Bool.not_false, reduceCtorEq] at hb) <;> (try (cases hb; done)) <;> (try have hbp := hb) <;> (try simp only [decide_eq_true_eq, decide_eq_false_iff_not] at hbp)) | refine Wp.seq ?_ | (refine Wp.ops' fun K hK => ?_)
         | refine Wp.drawT (id := 3) (need := [(2, 7), (2, 8), (5, 7)]) (by first | rfl | exact hplan _ | (rw [hS.plan]; rfl)) (by kernel_rfl) (by simp only [slimL, slimD, slimG, Nat.blt, Nat.ble]; rfl) (by kernel_rfl) fun K hK => ?_ | (refine Wp.drawT (id := 5) (need := [(4, 12), (4, 17), (4, 18), (6, 12), (6, 17), (6, 18), (7, 12), (7, 17), (7, 18), (10, 12), (15, 12), (15, 17)]) (by first | rfl | exact hplan _ | (rw [hS.plan]; rfl)) (by kernel_rfl) (by simp only [slimL, slimD, slimG, Nat.blt, Nat.ble]; rfl) (by kernel_rfl) fun K hK => ?_) | (refine Wp.drawT (id := 28) (need := [(2, 12), (2, 13), (7, 12), (9, 12), (10, 12)]) (by first | rfl | exact hplan _ | (rw [hS.plan]; rfl)) (by kernel_rfl) (by simp only [slimL, slimD, slimG, Nat.blt, Nat.ble]; rfl) (by kernel_rfl) fun K hK => ?_) | refine WpT.step ?_ | refine WpT.step0 rfl ?_ | (refine Rx.guardUT (hk := ?_); dsimp only [setO]) | (refine Rx.guardT (h1 := fun hg => ?_) (h2 := fun hg => ?_) <;> (try simp only [Bool.not_true, Bool.not_false, reduceCtorEq] at hg) <;> (try (cases hg; done)) <;> (try have hgp := hg) <;> (try simp only [decide_eq_true_eq, decide_eq_false_iff_not] at hgp) <;> (try dsimp only [setO])) | refine Wp.block ?_ | (refine Wp.skip ?_; try dsimp only [thenQ, blockQ]) | (refine Wp.ret ?_; try dsimp only [thenQ, blockQ]) | (refine Wp.exit ?_; try simp only [thenQ, blockQ, reduceIte]))
      refine WpL.call rfl (by (try simp only [sB, Nat.reduceBEq, *, -hK]); first | done | with_reducible rfl) (by (try simp only [sB, Nat.reduceBEq, aevals, List.cons_append, List.nil_append, *, -hK]); first | done | with_reducible rfl) ?_; simp only [List.cons_append, List.nil_append, List.append_nil]
      refine WpCall.mono ?_ (expr_wp hS X n x.args[i] vs s2 r1 he rv ov _ hR3 hv3.get hv3.lt hv3.nm)
      rintro v H4 ⟨rfl, hR4, hf4⟩
      have hn4 := hf4.next
      have hlm := hR.lm
      have k74 := k73.mono (H' := H4) hf4.next fun k h1 h2 => hf4.get k h2 (by omega)
      have k75 := k74.mono (H' := H4.alloc (.cells [.int .i64 r1.1] 0 true)) (Nat.le_succ _) fun k h1 h2 => by rw [Hp.get_alloc, if_neg (by omega)]
      obtain ⟨H6, happ, hn6, hg6, hk6⟩ := intsR_append (P := Try.prog) (t := 52) Try.underlying52 sz2 bt2 zr2 k75.ints (r' := H4.next) (x := r1.1) (by rw [Hp.get_alloc, if_pos rfl]) (by rw [List.length_take]; omega)
      have hlt2 : i < ra.1.length := by omega
      have htl : (ra.1.take i).length = i := by rw [List.length_take]; omega
      rw [htl] at happ
      have happ2 : appendA Try.prog false (H4.alloc (.cells [.int .i64 r1.1] 0 true)) 52 52 (E.at 7) (.sl H4.next 0 1 1) = some (.sl (H4.next + 1) 0 (i + 1) 1, H6) := happ
      have hk6' : ∀ k, k < H.next + 1 → H6.get k = H4.get k := fun k hk => by
        rw [hk6 k (by simp only [Hp.next_alloc]; have := hf3.next; simp only [Hp.next_alloc] at this; omega) (fun e => by have := (k75.lt k e).1; omega), Hp.get_alloc, if_neg (by have := hf3.next; simp only [Hp.next_alloc] at this; omega)]
      have hn6' : H6.next = H4.next + 2 := hn6
      have hR6 : RepM X H6 r1.2 ov := by
        refine hR4.other (by omega) fun k h1 h2 => hk6' k ?_
        rcases h2 with h2 | h2 | h2 | h2
        · have := hR.own_lt h2; omega
        · have := hR.lc; omega
        · have := hR.lf; omega
        · have := hR.out_lt h2; omega
      have hdrop : ra.1.drop (i + 1) = r2.1 := by
        rw [← List.tail_drop, ← hd, List.tail_cons]
      have hget : ra.1[i]? = some r1.1 := by
        rw [← List.head?_drop, ← hd]; rfl
      dsimp only [setO]
      repeat' (first
         | (refine WpL.nil (hK _ _ ?_); clear hK K; try dsimp only [thenQ, blockQ]) | (refine WpL.nil ?_; (try dsimp only []); (try intro _)) | (refine WpT.nil (hK _ _ _ ?_ ?_) <;> clear hK K <;> try dsimp only [thenQ, blockQ]) | refine Rx.move (hk := ?_) | refine Rx.assign (hk := ?_) | refine Rx.load (hk := ?_) | refine Rx.bin (hk := ?_) | refine Rx.fieldAddr (hk := ?_) | refine Rx.indexAddr (hk := ?_) | refine Rx.len (hk := ?_) | refine Rx.pick (hk := ?_) | refine Rx.nilCheck (hk := ?_) | refine Rx.box (hk := ?_) | refine Rx.alloc (hk := ?_) | refine Rx.store (hk := ?_) | refine Rx.lookup (hk := ?_) | refine Rx.mapUpdate (hk := ?_) | refine Rx.buildSlice (hk := ?_) | refine Rx.append (hk := ?_) | (refine Rx.guardU (hk := ?_); dsimp only [setO]) | (refine Rx.guard (h1 := fun hg => ?_) (h2 := fun hg => ?_) <;> (try simp only [Bool.not_true, Bool.not_false, reduceCtorEq] at hg) <;> (try (cases hg; done)) <;> (try have hgp := hg) <;> (try simp only [decide_eq_true_eq, decide_eq_false_iff_not] at hgp) <;> (try dsimp only [setO])) | (refine Rx.cond (h1 := fun hb => ?_) (h2 := fun hb => ?_) <;> (try simp only [Bool.not_true, Bool.not_false, reduceCtorEq] at hb) <;> (try (cases hb; done)) <;> (try have hbp := hb) <;> (try simp only [decide_eq_true_eq, decide_eq_false_iff_not] at hbp)) | refine Wp.seq ?_ | (refine Wp.ops' fun K hK => ?_)
         | refine Wp.drawT (id := 3) (need := [(2, 7), (2, 8), (5, 7)]) (by first | rfl | exact hplan _ | (rw [hS.plan]; rfl)) (by kernel_rfl) (by simp only [slimL, slimD, slimG, Nat.blt, Nat.ble]; rfl) (by kernel_rfl) fun K hK => ?_ | (refine Wp.drawT (id := 5) (need := [(4, 12), (4, 17), (4, 18), (6, 12), (6, 17), (6, 18), (7, 12), (7, 17), (7, 18), (10, 12), (15, 12), (15, 17)]) (by first | rfl | exact hplan _ | (rw [hS.plan]; rfl)) (by kernel_rfl) (by simp only [slimL, slimD, slimG, Nat.blt, Nat.ble]; rfl) (by kernel_rfl) fun K hK => ?_) | (refine Wp.drawT (id := 28) (need := [(2, 12), (2, 13), (7, 12), (9, 12), (10, 12)]) (by first | rfl | exact hplan _ | (rw [hS.plan]; rfl)) (by kernel_rfl) (by simp only [slimL, slimD, slimG, Nat.blt, Nat.ble]; rfl) (by kernel_rfl) fun K hK => ?_) | refine WpT.step ?_ | refine WpT.step0 rfl ?_ | (refine Rx.guardUT (hk := ?_); dsimp only [setO]) | (refine Rx.guardT (h1 := fun hg => ?_) (h2 := fun hg => ?_) <;> (try simp only [Bool.not_true, Bool.not_false, reduceCtorEq] at hg) <;> (try (cases hg; done)) <;> (try have hgp := hg) <;> (try simp only [decide_eq_true_eq, decide_eq_false_iff_not] at hgp) <;> (try dsimp only [setO])) | refine Wp.block ?_ | (refine Wp.skip ?_; try dsimp only [thenQ, blockQ]) | (refine Wp.ret ?_; try dsimp only [thenQ, blockQ]) | (refine Wp.exit ?_; try simp only [thenQ, blockQ, reduceIte]))
      refine ⟨hlt, r1.2, ?_, (by first | (simp only [sB, Nat.reduceBEq, *]; done) | rfl), (by first | (simp only [sB, Nat.reduceBEq, *]; done) | rfl), (by first | (simp only [sB, Nat.reduceBEq, *]; done) | rfl), (by first | (simp only [sB, Nat.reduceBEq, *]; done) | rfl), (by first | (simp only [sB, Nat.reduceBEq, *]; done) | rfl), ?_, ?_, hR6, ⟨by have := hf3.next; omega, fun k h1 h2 => ?_⟩⟩
      · rw [hdrop, has, ← h22]
      · simp only [at_set, Nat.reduceBEq, cond_true, wrap_succ (show i < 2 ^ 62 by omega)]
      · refine .inr ⟨H4.next + 1, ?_, ?_, by have := hf3.next; simp only [Hp.next_alloc] at this; omega, by omega⟩
        · simp only [at_set, Nat.reduceBEq, cond_true, cond_false, List.length_take]
          rw [Nat.min_eq_left (by omega)]
        · rw [show ra.1.take (i + 1) = ra.1.take i ++ [r1.1] by rw [List.take_add_one, hget]; rfl]
          exact hg6
      · have h1' : k < H.next + 1 := h1
        have h3' := hf3.next
        rw [hk6' k h1', hf4.get k (by omega) h2]
        exact hf3.get k h1 h2
    · have hia : i = x.args.length := by simp at hb; omega
      subst hia
      have hd0 : ra.1.drop x.args.length = [] := List.drop_of_length_le (by omega)
      rw [List.drop_of_length_le (Nat.le_refl _)] at has
      simp only [argsM, Option.some.injEq, Prod.mk.injEq] at has
      obtain ⟨_, rfl⟩ := has
      rw [List.take_of_length_le (by omega)] at k7
      clear hb hbp
      have hf2' : FrS X (· = rv) ov H ov H2 := b1.fr.trans (hf2.toS _ _)
      have hv2 := b1.v.frE hf2
      have kb2 : H2.get H.next = some (.cells x.cells 0 true) := by rw [hf2.get _ (Nat.lt_succ_self _) (by have := hR.lm; omega)]; exact b1.box
      have hn2 := hf2.next
      simp only [Hp.next_alloc] at hn2
      refine WpL.call rfl (by (try simp only [sB, Nat.reduceBEq, *, -hK]); first | done | with_reducible rfl) (by (try simp only [sB, Nat.reduceBEq, aevals, List.cons_append, List.nil_append, *, -hK]); first | done | with_reducible rfl) ?_; simp only [List.cons_append, List.nil_append, List.append_nil]
      refine WpCall.mono ?_ (tick_wp hS X ra.2 ov H2 hR2)
      rintro v H3 ⟨hR3, hf3⟩
      have hn3 := hf3.next
      have hv3 := hv2.frE hf3
      have hf3' := hf2'.trans (hf3.toS _ _)
      have kb3 : H3.get H.next = some (.cells x.cells 0 true) := by rw [hf3.get _ (by omega) (by have := hR.lm; omega)]; exact kb2
      have hlm := hR.lm
      have k73 := k7.mono (H' := H3) hf3.next fun k h1 h2 => hf3.get k h2 (by omega)
      have m3 := hR3.m
      unfold mc at m3
      dsimp only [setO]
      by_cases ht : (tickM ra.2).fin = 0
      · rw [if_pos ht] at h2
        simp only [Option.bind_eq_some_iff, Option.some.injEq] at h2
        obtain ⟨r2, hc, rfl⟩ := h2
        have hlf := look_vEs (P := Try.prog) Try.underlying86 keyS (show zeroV Try.prog 3 = some (.int .i64 0) by kernel_rfl) hR3.f x.to
        repeat' (first
           | (refine WpL.nil (hK _ _ ?_); clear hK K; try dsimp only [thenQ, blockQ]) | (refine WpL.nil ?_; (try dsimp only []); (try intro _)) | (refine WpT.nil (hK _ _ _ ?_ ?_) <;> clear hK K <;> try dsimp only [thenQ, blockQ]) | refine Ry.move (hk := ?_) | refine Ry.assign (hk := ?_) | refine Ry.load (hk := ?_) | refine Ry.bin (hk := ?_) | refine Ry.fieldAddr (hk := ?_) | refine Ry.indexAddr (hk := ?_) | refine Ry.len (hk := ?_) | refine Ry.pick (hk := ?_) | refine Ry.nilCheck (hk := ?_) | refine Ry.box (hk := ?_) | refine Ry.alloc (hk := ?_) | refine Ry.store (hk := ?_) | refine Ry.lookup (hk := ?_) | refine Ry.mapUpdate (hk := ?_) | refine Ry.buildSlice (hk := ?_) | refine Ry.append (hk := ?_) | (refine Ry.guardU (hk := ?_); dsimp only [setO]) | (refine Ry.guard (h1 := fun hg => ?_) (h2 := fun hg => ?_) <;> (try simp only [Bool.not_true, Bool.not_false, reduceCtorEq] at hg) <;> (try (cases hg; done)) <;> (try have hgp := hg) <;> (try simp only [decide_eq_true_eq, decide_eq_false_iff_not] at hgp) <;> (try dsimp only [setO])) | (refine Ry.cond (h1 := fun hb => ?_) (h2 := fun hb => ?_) <;> (try simp only [Bool.not_true, Bool.not_false, reduceCtorEq] at hb) <;> (try (cases hb; done)) <;> (try have hbp := hb) <;> (try simp only [decide_eq_true_eq, decide_eq_false_iff_not] at hbp)) | refine Wp.seq ?_ | (refine Wp.ops' fun K hK => ?_)
           | refine Wp.drawT (id := 3) (need := [(2, 7), (2, 8), (5, 7)]) (by first | rfl | exact hplan _ | (rw [hS.plan]; rfl)) (by kernel_rfl) (by simp only [slimL, slimD, slimG, Nat.blt, Nat.ble]; rfl) (by kernel_rfl) fun K hK => ?_ | (refine Wp.drawT (id := 5) (need := [(4, 12), (4, 17), (4, 18), (6, 12), (6, 17), (6, 18), (7, 12), (7, 17), (7, 18), (10, 12), (15, 12), (15, 17)]) (by first | rfl | exact hplan _ | (rw [hS.plan]; rfl)) (by kernel_rfl) (by simp only [slimL, slimD, slimG, Nat.blt, Nat.ble]; rfl) (by kernel_rfl) fun K hK => ?_) | (refine Wp.drawT (id := 28) (need := [(2, 12), (2, 13), (7, 12), (9, 12), (10, 12)]) (by first | rfl | exact hplan _ | (rw [hS.plan]; rfl)) (by kernel_rfl) (by simp only [slimL, slimD, slimG, Nat.blt, Nat.ble]; rfl) (by kernel_rfl) fun K hK => ?_) | refine WpT.step ?_ | refine WpT.step0 rfl ?_ | (refine Ry.guardUT (hk := ?_); dsimp only [setO]) | (refine Ry.guardT (h1 := fun hg => ?_) (h2 := fun hg => ?_) <;> (try simp only [Bool.not_true, Bool.not_false, reduceCtorEq] at hg) <;> (try (cases hg; done)) <;> (try have hgp := hg) <;> (try simp only [decide_eq_true_eq, decide_eq_false_iff_not] at hgp) <;> (try dsimp only [setO])) | refine Wp.block ?_ | (refine Wp.skip ?_; try dsimp only [thenQ, blockQ]) | (refine Wp.ret ?_; try dsimp only [thenQ, blockQ]) | (refine Wp.exit ?_; try simp only [thenQ, blockQ, reduceIte]))
        refine WpL.call rfl (by (try simp only [sB, Nat.reduceBEq, *, -hK]); first | done | with_reducible rfl) (by (try simp only [sB, Nat.reduceBEq, aevals, List.cons_append, List.nil_append, *, -hK]); first | done | with_reducible rfl) ?_; simp only [List.cons_append, List.nil_append, List.append_nil]
        refine WpCall.mono ?_ (IH _ _ _ r2 hc ho (by omega) (E.at 7) ov H3 hR3 k73.ints.argsV (fun b hb => k73.slb b hb))
        rintro v H4 ⟨rfl, ov4, hR4, hf4⟩
        have hn4 := hf4.next
        have hv4 := hv3.frS hf4 (fun e => e)
        have m4 := hR4.m
        unfold mc at m4
        have kb4 : H4.get H.next = some (.cells x.cells 0 true) := by
          rw [hf4.keep hR (Nat.le_refl _) (by omega) (fun e => e)]; exact kb3
        have hlf4 := look_vEs (P := Try.prog) Try.underlying86 keyS (show zeroV Try.prog 3 = some (.int .i64 0) by kernel_rfl) hR4.f x.to
        have hu := upd_vEs (P := Try.prog) Try.underlying123 keyS hv4.get x.name r2.1
        dsimp only [setO]
        repeat' (first
           | (refine WpL.nil (hK _ _ ?_); clear hK K; try dsimp only [thenQ, blockQ]) | (refine WpL.nil ?_; (try dsimp only []); (try intro _)) | (refine WpT.nil (hK _ _ _ ?_ ?_) <;> clear hK K <;> try dsimp only [thenQ, blockQ]) | refine Rx.move (hk := ?_) | refine Rx.assign (hk := ?_) | refine Rx.load (hk := ?_) | refine Rx.bin (hk := ?_) | refine Rx.fieldAddr (hk := ?_) | refine Rx.indexAddr (hk := ?_) | refine Rx.len (hk := ?_) | refine Rx.pick (hk := ?_) | refine Rx.nilCheck (hk := ?_) | refine Rx.box (hk := ?_) | refine Rx.alloc (hk := ?_) | refine Rx.store (hk := ?_) | refine Rx.lookup (hk := ?_) | refine Rx.mapUpdate (hk := ?_) | refine Rx.buildSlice (hk := ?_) | refine Rx.append (hk := ?_) | (refine Rx.guardU (hk := ?_); dsimp only [setO]) | (refine Rx.guard (h1 := fun hg => ?_) (h2 := fun hg => ?_) <;> (try simp only [Bool.not_true, Bool.not_false, reduceCtorEq] at hg) <;> (try (cases hg; done)) <;> (try have hgp := hg) <;> (try simp only [decide_eq_true_eq, decide_eq_false_iff_not] at hgp) <;> (try dsimp only [setO])) | (refine Rx.cond (h1 := fun hb => ?_) (h2 := fun hb => ?_) <;> (try simp only [Bool.not_true, Bool.not_false, reduceCtorEq] at hb) <;> (try (cases hb; done)) <;> (try have hbp := hb) <;> (try simp only [decide_eq_true_eq, decide_eq_false_iff_not] at hbp)) | refine Wp.seq ?_ | (refine Wp.ops' fun K hK => ?_)
           | refine Wp.drawT (id := 3) (need := [(2, 7), (2, 8), (5, 7)]) (by first | rfl | exact hplan _ | (rw [hS.plan]; rfl)) (by kernel_rfl) (by simp only [slimL, slimD, slimG, Nat.blt, Nat.ble]; rfl) (by kernel_rfl) fun K hK => ?_ | (refine Wp.drawT (id := 5) (need := [(4, 12), (4, 17), (4, 18), (6, 12), (6, 17), (6, 18), (7, 12), (7, 17), (7, 18), (10, 12), (15, 12), (15, 17)]) (by first | rfl | exact hplan _ | (rw [hS.plan]; rfl)) (by kernel_rfl) (by simp only [slimL, slimD, slimG, Nat.blt, Nat.ble]; rfl) (by kernel_rfl) fun K hK => ?_) | (refine Wp.drawT (id := 28) (need := [(2, 12), (2, 13), (7, 12), (9, 12), (10, 12)]) (by first | rfl | exact hplan _ | (rw [hS.plan]; rfl)) (by kernel_rfl) (by simp only [slimL, slimD, slimG, Nat.blt, Nat.ble]; rfl) (by kernel_rfl) fun K hK => ?_) | refine WpT.step ?_ | refine WpT.step0 rfl ?_ | (refine Rx.guardUT (hk := ?_); dsimp only [setO]) | (refine Rx.guardT (h1 := fun hg => ?_) (h2 := fun hg => ?_) <;> (try simp only [Bool.not_true, Bool.not_false, reduceCtorEq] at hg) <;> (try (cases hg; done)) <;> (try have hgp := hg) <;> (try simp only [decide_eq_true_eq, decide_eq_false_iff_not] at hgp) <;> (try dsimp only [setO])) | refine Wp.block ?_ | (refine Wp.skip ?_; try dsimp only [thenQ, blockQ]) | (refine Wp.ret ?_; try dsimp only [thenQ, blockQ]) | (refine Wp.exit ?_; try simp only [thenQ, blockQ, reduceIte]))
        · (refine ⟨?_, ?_⟩ <;> simp only [List.nil_append, List.cons_append, List.append_assoc, List.getElem?_cons_succ, List.getElem?_cons_zero, List.getElem?_nil, List.forall_mem_cons, Hp.next_alloc, Hp.next_set, Nat.le_refl, true_and, and_true] <;> (repeat' apply And.intro) <;> first
            | (intro r hr; cases hr; done)
            | (refine sameT_at (by simp only [List.nil_append, List.cons_append, List.append_assoc, List.getElem?_cons_succ, List.getElem?_cons_zero, List.getElem?_nil]; rfl) (fun hd => ?_)
               simp only [heapT, List.nil_append, List.cons_append, List.append_assoc, List.getElem?_cons_succ, List.getElem?_cons_zero, List.getElem?_nil] at hd ⊢
               first
               | (cases hd; done)
               | exact same_load (by (try simp only [sB, Nat.reduceBEq, kb3, kb4, m3, m4, hlf, hlf4, *]); first | done | with_reducible rfl) (by (try simp only [sB, sO, Nat.reduceBEq, Nat.reduceAdd, Nat.reduceLeDiff, tyF, kb3, kb4, m3, m4, hlf, hlf4, *]); first | done | with_reducible rfl)
               | exact same_lookup (by (try simp only [sB, Nat.reduceBEq, kb3, kb4, m3, m4, hlf, hlf4, *]); first | done | with_reducible rfl) (by (try simp only [sB, Nat.reduceBEq, kb3, kb4, m3, m4, hlf, hlf4, *]); first | done | with_reducible rfl) (by (try simp only [sB, sO, Nat.reduceBEq, Nat.reduceAdd, Nat.reduceLeDiff, tyF, kb3, kb4, m3, m4, hlf, hlf4, *]); first | done | with_reducible rfl)
               | exact same_len (by (try simp only [sB, Nat.reduceBEq, kb3, kb4, m3, m4, hlf, hlf4, *]); first | done | with_reducible rfl) (by (try simp only [sB, sO, Nat.reduceBEq, Nat.reduceAdd, Nat.reduceLeDiff, tyF, kb3, kb4, m3, m4, hlf, hlf4, *]); first | done | with_reducible rfl)
               | exact same_conv (by (try simp only [sB, Nat.reduceBEq, kb3, kb4, m3, m4, hlf, hlf4, *]); first | done | with_reducible rfl) (by (try simp only [sB, sO, Nat.reduceBEq, Nat.reduceAdd, Nat.reduceLeDiff, tyF, kb3, kb4, m3, m4, hlf, hlf4, *]); first | done | with_reducible rfl)
               | exact same_make rfl (by (try simp only [sB, sO, Nat.reduceBEq, Nat.reduceAdd, Nat.reduceLeDiff, tyF, kb3, kb4, m3, m4, hlf, hlf4, *]); first | done | with_reducible rfl) (by (try simp only [sB, sO, Nat.reduceBEq, Nat.reduceAdd, Nat.reduceLeDiff, tyF, kb3, kb4, m3, m4, hlf, hlf4, *]); first | done | with_reducible rfl)
               | skip)
            | exact Nat.le_refl _
            | assumption
            | omega
            | skip)
        · all_goals (refine ⟨by first | exact .inl rfl | exact .inr rfl | exact .inl trivial | exact .inr trivial, _, (by (try simp only [sB, Nat.reduceBEq, resultsA, resultA, *]); first | done | with_reducible rfl), ?_⟩; try simp only [oneOr])
          obtain ⟨q1, q2, q3⟩ := hR4.setV hv4 (setV vs x.name r2.1)
          exact ⟨ov4, q1, q2, (hf3'.trans (hf4.weak fun r _ e => e.elim)).trans q3⟩
      · rw [if_neg ht, Option.some.injEq] at h2
        subst h2
        repeat' (first
           | (refine WpL.nil (hK _ _ ?_); clear hK K; try dsimp only [thenQ, blockQ]) | (refine WpL.nil ?_; (try dsimp only []); (try intro _)) | (refine WpT.nil (hK _ _ _ ?_ ?_) <;> clear hK K <;> try dsimp only [thenQ, blockQ]) | refine Ry.move (hk := ?_) | refine Ry.assign (hk := ?_) | refine Ry.load (hk := ?_) | refine Ry.bin (hk := ?_) | refine Ry.fieldAddr (hk := ?_) | refine Ry.indexAddr (hk := ?_) | refine Ry.len (hk := ?_) | refine Ry.pick (hk := ?_) | refine Ry.nilCheck (hk := ?_) | refine Ry.box (hk := ?_) | refine Ry.alloc (hk := ?_) | refine Ry.store (hk := ?_) | refine Ry.lookup (hk := ?_) | refine Ry.mapUpdate (hk := ?_) | refine Ry.buildSlice (hk := ?_) | refine Ry.append (hk := ?_) | (refine Ry.guardU (hk := ?_); dsimp only [setO]) | (refine Ry.guard (h1 := fun hg => ?_) (h2 := fun hg => ?_) <;> (try simp only [Bool.not_true, Bool.not_false, reduceCtorEq] at hg) <;> (try (cases hg; done)) <;> (try have hgp := hg) <;> (try simp only [decide_eq_true_eq, decide_eq_false_iff_not] at hgp) <;> (try dsimp only [setO])) | (refine Ry.cond (h1 := fun hb => ?_) (h2 := fun hb => ?_) <;> (try simp only [Bool.not_true, Bool.not_false, reduceCtorEq] at hb) <;> (try (cases hb; done)) <;> (try have hbp := hb) <;> (try simp only [decide_eq_true_eq, decide_eq_false_iff_not] at hbp)) | refine Wp.seq ?_ | (refine Wp.ops' fun K hK => ?_)
           | refine Wp.drawT (id := 3) (need := [(2, 7), (2, 8), (5, 7)]) (by first | rfl | exact hplan _ | (rw [hS.plan]; rfl)) (by kernel_rfl) (by simp only [slimL, slimD, slimG, Nat.blt, Nat.ble]; rfl) (by kernel_rfl) fun K hK => ?_ | (refine Wp.drawT (id := 5) (need := [(4, 12), (4, 17), (4, 18), (6, 12), (6, 17), (6, 18), (7, 12), (7, 17), (7, 18), (10, 12), (15, 12), (15, 17)]) (by first | rfl | exact hplan _ | (rw [hS.plan]; rfl)) (by kernel_rfl) (by simp only [slimL, slimD, slimG, Nat.blt, Nat.ble]; rfl) (by kernel_rfl) fun K hK => ?_) | (refine Wp.drawT (id := 28) (need := [(2, 12), (2, 13), (7, 12), (9, 12), (10, 12)]) (by first | rfl | exact hplan _ | (rw [hS.plan]; rfl)) (by kernel_rfl) (by simp only [slimL, slimD, slimG, Nat.blt, Nat.ble]; rfl) (by kernel_rfl) fun K hK => ?_) | refine WpT.step ?_ | refine WpT.step0 rfl ?_ | (refine Ry.guardUT (hk := ?_); dsimp only [setO]) | (refine Ry.guardT (h1 := fun hg => ?_) (h2 := fun hg => ?_) <;> (try simp only [Bool.not_true, Bool.not_false, reduceCtorEq] at hg) <;> (try (cases hg; done)) <;> (try have hgp := hg) <;> (try simp only [decide_eq_true_eq, decide_eq_false_iff_not] at hgp) <;> (try dsimp only [setO])) | refine Wp.block ?_ | (refine Wp.skip ?_; try dsimp only [thenQ, blockQ]) | (refine Wp.ret ?_; try dsimp only [thenQ, blockQ]) | (refine Wp.exit ?_; try simp only [thenQ, blockQ, reduceIte]))
        all_goals (refine ⟨by first | exact .inl rfl | exact .inr rfl | exact .inl trivial | exact .inr trivial, _, (by (try simp only [sB, Nat.reduceBEq, resultsA, resultA, *]); first | done | with_reducible rfl), ?_⟩; try simp only [oneOr])
        exact ⟨ov, hR3, hv3, hf3'⟩
  · refine ⟨s, ha, (by first | (simp only [sB, Nat.reduceBEq, *]; done) | rfl), (by first | (simp only [sB, Nat.reduceBEq, *]; done) | rfl), (by first | (simp only [sB, Nat.reduceBEq, *]; done) | rfl), (by first | (simp only [sB, Nat.reduceBEq, *]; done) | rfl), (by first | (simp only [sB, Nat.reduceBEq, *]; done) | rfl), (by first | (simp only [sB, Nat.reduceBEq, *]; done) | rfl), .inl ⟨(by first | (simp only [sB, Nat.reduceBEq, *]; done) | rfl), rfl⟩, b1.R, FrE.refl _ _⟩

set_option maxRecDepth 100000 in
set_option maxHeartbeats 4000000 in
include hS in
theorem stmts_step {N : Nat} (IH : ∀ m, m < N → PStmt cfg X m) : PStmts cfg X N := by
  intro l vs s r h hz ho rv ov H hR hv
  have hlen := stmtsSz_len l
  refine WpCall.slim (M := 27) (rs := []) ((hS.plain _ rfl).call _) (hS.plain _ rfl).ice (hS.plain _ rfl).froz Try.func78 rfl rfl code78.2 rfl ?_; dsimp only [code78, envOf, Nat.reduceAdd]
  repeat' (first
     | (refine WpL.nil (hK _ _ ?_); clear hK K; try dsimp only [thenQ, blockQ]) | refine Rx.move (hk := ?_) | refine Rx.assign (hk := ?_) | refine Rx.load (hk := ?_) | refine Rx.bin (hk := ?_) | refine Rx.fieldAddr (hk := ?_) | refine Rx.indexAddr (hk := ?_) | refine Rx.len (hk := ?_) | refine Rx.pick (hk := ?_) | refine Rx.nilCheck (hk := ?_) | (refine Rx.guardU (hk := ?_); dsimp only [setO]) | (refine Rx.guard (h1 := fun hg => ?_) (h2 := fun hg => ?_) <;> (try simp only [Bool.not_true, Bool.not_false, reduceCtorEq] at hg) <;> (try (cases hg; done)) <;> (try have hgp := hg) <;> (try simp only [decide_eq_true_eq, decide_eq_false_iff_not] at hgp) <;> (try dsimp only [setO])) | (refine Rx.cond (h1 := fun hb => ?_) (h2 := fun hb => ?_) <;> (try simp only [Bool.not_true, Bool.not_false, reduceCtorEq] at hb) <;> (try (cases hb; done)) <;> (try have hbp := hb) <;> (try simp only [decide_eq_true_eq, decide_eq_false_iff_not] at hbp)) | refine Wp.seq ?_ | (refine Wp.ops' fun K hK => ?_) | refine Wp.block ?_ | (refine Wp.skip ?_; try dsimp only [thenQ, blockQ]) | (refine Wp.ret ?_; try dsimp only [thenQ, blockQ]) | (refine Wp.exit ?_; try simp only [thenQ, blockQ, reduceIte]))
  refine Wp.loopN (fun i E H2 => ∃ m vs2 s2 ov2, m ≤ N ∧ stmtsM X.p X.fi m (l.drop i) vs2 s2 = some r ∧ E.at 0 = .ptr X.rm 0 ∧ E.at 1 = .lst (l.map St.cells) ∧ E.at 2 = .map rv ∧ E.at 6 = .int .i64 i ∧ RepM X H2 s2 ov2 ∧ VarOk X H2 rv vs2 ov2 ∧ FrS X (· = rv) ov H ov2 H2) l.length ?_ ?_
  · rintro i E H2 hi ⟨m, vs2, s2, ov2, hmN, hw, k0, k1, k2, k6, hR2, hv2, hf2⟩
    have m2 := hR2.m
    unfold mc at m2
    cases m with
    | zero => simp [stmtsM] at hw
    | succ m =>
      by_cases hlt : i < l.length
      · have hgx : l[i]? = some l[i] := List.getElem?_eq_getElem hlt
        have hxm := stmtsSz_mem (List.getElem_mem hlt)
        rw [List.drop_eq_getElem_cons hlt] at hw
        unfold stmtsM at hw
        simp only [] at hw
        by_cases h0 : s2.fin = 0
        · rw [if_neg (by simp [h0])] at hw
          simp only [Option.bind_eq_some_iff] at hw
          obtain ⟨r1, hs1, hw⟩ := hw
          have hlt' : (i : Int) < (l.length : Int) := by omega
          repeat' (first
             | (refine WpL.nil (hK _ _ ?_); clear hK K; try dsimp only [thenQ, blockQ]) | refine Ry.move (hk := ?_) | refine Ry.assign (hk := ?_) | refine Ry.load (hk := ?_) | refine Ry.bin (hk := ?_) | refine Ry.fieldAddr (hk := ?_) | refine Ry.indexAddr (hk := ?_) | refine Ry.len (hk := ?_) | refine Ry.pick (hk := ?_) | refine Ry.nilCheck (hk := ?_) | (refine Ry.guardU (hk := ?_); dsimp only [setO]) | (refine Ry.guard (h1 := fun hg => ?_) (h2 := fun hg => ?_) <;> (try simp only [Bool.not_true, Bool.not_false, reduceCtorEq] at hg) <;> (try (cases hg; done)) <;> (try have hgp := hg) <;> (try simp only [decide_eq_true_eq, decide_eq_false_iff_not] at hgp) <;> (try dsimp only [setO])) | (refine Ry.cond (h1 := fun hb => ?_) (h2 := fun hb => ?_) <;> (try simp only [Bool.not_true, Bool.not_false, reduceCtorEq] at hb) <;> (try (cases hb; done)) <;> (try have hbp := hb) <;> (try simp only [decide_eq_true_eq, decide_eq_false_iff_not] at hbp)) | refine Wp.seq ?_ | (refine Wp.ops' fun K hK => ?_) | refine Wp.block ?_ | (refine Wp.skip ?_; try dsimp only [thenQ, blockQ]) | (refine Wp.ret ?_; try dsimp only [thenQ, blockQ]) | (refine Wp.exit ?_; try simp only [thenQ, blockQ, reduceIte]))
          refine WpL.call rfl (by (try simp only [sB, Nat.reduceBEq, *, -hK]); first | done | with_reducible rfl) (by (try simp only [sB, Nat.reduceBEq, aevals, List.cons_append, List.nil_append, *, -hK]); first | done | with_reducible rfl) ?_; simp only [List.cons_append, List.nil_append, List.append_nil]
          refine WpCall.mono ?_ (IH m (by omega) l[i] vs2 s2 r1 hs1 (by omega) (Nat.lt_of_le_of_lt ((stepM_out _ _ _).2.1 _ _ _ _ hw) ho) rv ov2 H2 hR2 hv2)
          rintro v H3 ⟨ov3, hR3, hv3, hf3⟩
          dsimp only [setO]
          repeat' (first
             | (refine WpL.nil (hK _ _ ?_); clear hK K; try dsimp only [thenQ, blockQ]) | refine Rx.move (hk := ?_) | refine Rx.assign (hk := ?_) | refine Rx.load (hk := ?_) | refine Rx.bin (hk := ?_) | refine Rx.fieldAddr (hk := ?_) | refine Rx.indexAddr (hk := ?_) | refine Rx.len (hk := ?_) | refine Rx.pick (hk := ?_) | refine Rx.nilCheck (hk := ?_) | (refine Rx.guardU (hk := ?_); dsimp only [setO]) | (refine Rx.guard (h1 := fun hg => ?_) (h2 := fun hg => ?_) <;> (try simp only [Bool.not_true, Bool.not_false, reduceCtorEq] at hg) <;> (try (cases hg; done)) <;> (try have hgp := hg) <;> (try simp only [decide_eq_true_eq, decide_eq_false_iff_not] at hgp) <;> (try dsimp only [setO])) | (refine Rx.cond (h1 := fun hb => ?_) (h2 := fun hb => ?_) <;> (try simp only [Bool.not_true, Bool.not_false, reduceCtorEq] at hb) <;> (try (cases hb; done)) <;> (try have hbp := hb) <;> (try simp only [decide_eq_true_eq, decide_eq_false_iff_not] at hbp)) | refine Wp.seq ?_ | (refine Wp.ops' fun K hK => ?_) | refine Wp.block ?_ | (refine Wp.skip ?_; try dsimp only [thenQ, blockQ]) | (refine Wp.ret ?_; try dsimp only [thenQ, blockQ]) | (refine Wp.exit ?_; try simp only [thenQ, blockQ, reduceIte]))
          refine ⟨hlt, m, r1.1, r1.2, ov3, by omega, hw, (by first | (simp only [sB, Nat.reduceBEq, *]; done) | rfl), (by first | (simp only [sB, Nat.reduceBEq, *]; done) | rfl), (by first | (simp only [sB, Nat.reduceBEq, *]; done) | rfl), ?_, hR3, hv3, hf2.trans hf3⟩
          simp only [at_set, Nat.reduceBEq, cond_true, wrap_succ (show i < 2 ^ 62 by omega)]
        · rw [if_pos h0, Option.some.injEq] at hw
          subst hw
          have hlt' : (i : Int) < (l.length : Int) := by omega
          repeat' (first
             | (refine WpL.nil (hK _ _ ?_); clear hK K; try dsimp only [thenQ, blockQ]) | refine Ry.move (hk := ?_) | refine Ry.assign (hk := ?_) | refine Ry.load (hk := ?_) | refine Ry.bin (hk := ?_) | refine Ry.fieldAddr (hk := ?_) | refine Ry.indexAddr (hk := ?_) | refine Ry.len (hk := ?_) | refine Ry.pick (hk := ?_) | refine Ry.nilCheck (hk := ?_) | (refine Ry.guardU (hk := ?_); dsimp only [setO]) | (refine Ry.guard (h1 := fun hg => ?_) (h2 := fun hg => ?_) <;> (try simp only [Bool.not_true, Bool.not_false, reduceCtorEq] at hg) <;> (try (cases hg; done)) <;> (try have hgp := hg) <;> (try simp only [decide_eq_true_eq, decide_eq_false_iff_not] at hgp) <;> (try dsimp only [setO])) | (refine Ry.cond (h1 := fun hb => ?_) (h2 := fun hb => ?_) <;> (try simp only [Bool.not_true, Bool.not_false, reduceCtorEq] at hb) <;> (try (cases hb; done)) <;> (try have hbp := hb) <;> (try simp only [decide_eq_true_eq, decide_eq_false_iff_not] at hbp)) | refine Wp.seq ?_ | (refine Wp.ops' fun K hK => ?_) | refine Wp.block ?_ | (refine Wp.skip ?_; try dsimp only [thenQ, blockQ]) | (refine Wp.ret ?_; try dsimp only [thenQ, blockQ]) | (refine Wp.exit ?_; try simp only [thenQ, blockQ, reduceIte]))
          all_goals (refine ⟨by first | exact .inl rfl | exact .inr rfl | exact .inl trivial | exact .inr trivial, _, (by (try simp only [sB, Nat.reduceBEq, resultsA, resultA, *]); first | done | with_reducible rfl), ?_⟩; try simp only [oneOr])
          exact ⟨ov2, hR2, hv2, hf2⟩
      · rw [List.drop_of_length_le (by omega)] at hw
        simp only [stmtsM, Option.some.injEq] at hw
        subst hw
        have hlt' : ¬ (i : Int) < (l.length : Int) := by omega
        repeat' (first
           | (refine WpL.nil (hK _ _ ?_); clear hK K; try dsimp only [thenQ, blockQ]) | refine Ry.move (hk := ?_) | refine Ry.assign (hk := ?_) | refine Ry.load (hk := ?_) | refine Ry.bin (hk := ?_) | refine Ry.fieldAddr (hk := ?_) | refine Ry.indexAddr (hk := ?_) | refine Ry.len (hk := ?_) | refine Ry.pick (hk := ?_) | refine Ry.nilCheck (hk := ?_) | (refine Ry.guardU (hk := ?_); dsimp only [setO]) | (refine Ry.guard (h1 := fun hg => ?_) (h2 := fun hg => ?_) <;> (try simp only [Bool.not_true, Bool.not_false, reduceCtorEq] at hg) <;> (try (cases hg; done)) <;> (try have hgp := hg) <;> (try simp only [decide_eq_true_eq, decide_eq_false_iff_not] at hgp) <;> (try dsimp only [setO])) | (refine Ry.cond (h1 := fun hb => ?_) (h2 := fun hb => ?_) <;> (try simp only [Bool.not_true, Bool.not_false, reduceCtorEq] at hb) <;> (try (cases hb; done)) <;> (try have hbp := hb) <;> (try simp only [decide_eq_true_eq, decide_eq_false_iff_not] at hbp)) | refine Wp.seq ?_ | (refine Wp.ops' fun K hK => ?_) | refine Wp.block ?_ | (refine Wp.skip ?_; try dsimp only [thenQ, blockQ]) | (refine Wp.ret ?_; try dsimp only [thenQ, blockQ]) | (refine Wp.exit ?_; try simp only [thenQ, blockQ, reduceIte]))
        all_goals (refine ⟨by first | exact .inl rfl | exact .inr rfl | exact .inl trivial | exact .inr trivial, _, (by (try simp only [sB, Nat.reduceBEq, resultsA, resultA, *]); first | done | with_reducible rfl), ?_⟩; try simp only [oneOr])
        exact ⟨ov2, hR2, hv2, hf2⟩
  · exact ⟨N, vs, s, ov, Nat.le_refl _, by simpa using h, (by first | (simp only [sB, Nat.reduceBEq, *]; done) | rfl), (by first | (simp only [sB, Nat.reduceBEq, *]; done) | rfl), (by first | (simp only [sB, Nat.reduceBEq, *]; done) | rfl), (by first | (simp only [sB, Nat.reduceBEq, *]; done) | rfl), hR, hv, FrS.refl _ _ _ _⟩
end
end Go.Proofs.Ytlanljjbcpepjaa
