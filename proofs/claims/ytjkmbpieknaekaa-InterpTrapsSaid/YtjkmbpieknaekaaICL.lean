/- Parts: W6f, W6g, W6h, P4e, W4a, W4b. -/
import Derived.Test.YtjkmbpieknaekaaICK
set_option linter.unusedSimpArgs false
set_option linter.unusedVariables false
set_option linter.unusedSectionVars false
set_option linter.defProp false
namespace Go.Proofs.Ytjkmbpieknaekaa
set_option maxRecDepth 20000
set_option linter.unusedSimpArgs false
set_option linter.unusedVariables false
set_option linter.unusedSectionVars false
set_option linter.defProp false
set_option maxRecDepth 20000
open Go Go.Ab
namespace tyW6f
def tyF := And.intro @tq2 (And.intro @tq3 (And.intro @tq9 (And.intro @tq22 (And.intro @tq23 (And.intro @tq25 (And.intro @tq35 (And.intro @tq36 (And.intro @tq37 (And.intro @tq39 (And.intro @tq41 (And.intro @tq46 (And.intro @tq52 (And.intro @tq83 (And.intro @tq84 (And.intro @tq86 (And.intro @tq121 (@bs52)))))))))))))))))
end tyW6f
open tyW6f
noncomputable def code76 : { c : SC // slim 27 (Try.f76.body.getD .skip) = c } := by
  refine ⟨?_, ?_⟩
  rotate_left
  · simp only [Try.f76, Option.getD_some, slim, slimR, slimL, slimD, slimG, Nat.blt, Nat.ble]
    rfl
noncomputable def code41 : { c : SC // slim 45 (Try.f41.body.getD .skip) = c } := by
  refine ⟨?_, ?_⟩
  rotate_left
  · simp only [Try.f41, Option.getD_some, slim, slimR, slimL, slimD, slimG, Nat.blt, Nat.ble]
    rfl
/-- The arguments so far. -/
def ArgR (b : Nat) (H : Hp) (v : AV) (l : List Int) : Prop := (v = .nilS ∧ l = []) ∨ ∃ r, v = .sl r 0 l.length 1 ∧ H.get r = some (.cells (ints l) 0 true) ∧ b ≤ r ∧ r < H.next
theorem ArgR.ints {b : Nat} {H : Hp} {v : AV} {l : List Int} (h : ArgR b H v l) : IntsR H v l := by
  rcases h with h | ⟨r, h1, h2, _⟩
  · exact .inl h
  · exact .inr ⟨r, h1, h2⟩
theorem ArgR.lt {b : Nat} {H : Hp} {v : AV} {l : List Int} (h : ArgR b H v l) : ∀ k, outB v k → b ≤ k ∧ k < H.next := fun k ⟨n, e⟩ => by
  rcases h with ⟨h, _⟩ | ⟨r, h1, h2, h3, h4⟩
  · rw [h] at e; simp at e
  · rw [h1] at e
    simp only [AV.sl.injEq] at e
    omega
theorem ArgR.slb {b : Nat} {H : Hp} {v : AV} {l : List Int} (h : ArgR b H v l) : ∀ k, slB v k → k < H.next := fun k ⟨o, n, z, e⟩ => by
  rcases h with ⟨h, _⟩ | ⟨r, h1, h2, h3, h4⟩
  · rw [h] at e; simp at e
  · rw [h1] at e
    simp only [AV.sl.injEq] at e
    omega
theorem ArgR.mono {b : Nat} {H H' : Hp} {v : AV} {l : List Int} (h : ArgR b H v l) (hn : H.next ≤ H'.next) (hg : ∀ k, b ≤ k → k < H.next → H'.get k = H.get k) : ArgR b H' v l := by
  rcases h with h | ⟨r, h1, h2, h3, h4⟩
  · exact .inl h
  · exact .inr ⟨r, h1, by rw [hg r h3 h4]; exact h2, h3, by omega⟩
section
variable {cfg : Cfg} (hS : Std cfg) (X : Mx) {x : St} {vs : List (Nm × Int)} {s : MS} {rv : Nat} {ov : AV} {H : Hp}
set_option maxRecDepth 100000 in
set_option maxHeartbeats 8000000 in
include hS in
theorem stmt6 (hk : x.kind = 6) {n : Nat} {ra : List Int × MS} {r : List (Nm × Int) × MS} (ha : argsM n x.args vs s = some ra)
    (h2 : (if (tickM ra.2).fin = 0 then (callM X.p X.fi n (lkV X.fi x.to) ra.1 (tickM ra.2)).bind fun r2 => some (setV vs x.name r2.1, r2.2) else some (vs, tickM ra.2)) = some r)
    (IH : PCall cfg X n) (hz : x.sz < 2 ^ 40) (ho : r.2.out.length < 2 ^ 40) (hR : RepM X H s ov) (hv : VarOk X H rv vs ov) :
    WpCall Try.prog cfg 97 [.ptr X.rm 0, .agg x.cells, .map rv] H (StmtPost X rv ov H r) := by
  have b1 := Boxed.start (x := x) X hR hv
  have hsz := x.sz_eq
  have hal := exprsSz_len x.args
  have hral := (argsM_keep _ _ _ _ ha).2.2.2
  have hkeep : cfg.keep 97 = false := hS.keep _
  refine WpCall.slim (M := 154) (rs := []) ((hS.plain _ rfl).call _) (hS.plain _ rfl).ice (hS.plain _ rfl).froz Try.func97 rfl rfl code97.2 rfl ?_; dsimp only [code97, envOf, Nat.reduceAdd]
  repeat' (first
     | (apply Rx.nl ?_; clear hK K) | apply Ry.o ?_ | apply Ry.on ?_ | apply Ry.gu ?_ | (apply Ry.gd (fun hg hgp => ?_) (fun hg hgp => ?_) <;> try (cases hg; done)) | (apply Ry.cd (fun hb hbp => ?_) (fun hb hbp => ?_) <;> try (cases hb; done)) | apply Wp.seq ?_ | (apply Wp.ops' fun K hK => ?_) | (apply Rx.dT 3 [(2, 7), (2, 8), (5, 7)] fun K hK => ?_) | (apply Rx.dT 5 [(4, 12), (4, 17), (4, 18), (6, 12), (6, 17), (6, 18), (7, 12), (7, 17), (7, 18), (10, 12), (15, 12), (15, 17)] fun K hK => ?_) | (apply Rx.dT 28 [(2, 12), (2, 13), (7, 12), (9, 12), (10, 12)] fun K hK => ?_) | (apply Rx.nq ?_; try intro _) | (apply Rx.nt ?_ ?_ <;> clear hK K) | apply WpT.step ?_ | apply WpT.step0 rfl ?_ | apply Ry.gv ?_ | (apply Ry.gt (fun hg hgp => ?_) (fun hg hgp => ?_) <;> try (cases hg; done)) | apply Wp.block ?_ | apply Rx.sk ?_ | apply Rx.xt ?_)
  refine Wp.loopN (fun i E H2 => ∃ s2, argsM n (x.args.drop i) vs s2 = some (ra.1.drop i, ra.2) ∧ E.at 0 = .ptr X.rm 0 ∧ E.at 2 = .map rv ∧ E.at 4 = .ptr H.next 0 ∧ E.at 113 = .lst (x.args.map Ex.cells) ∧ E.at 114 = .int .i64 x.args.length ∧ E.at 115 = .int .i64 i ∧
    ArgR (H.next + 1) H2 (E.at 7) (ra.1.take i) ∧ RepM X H2 s2 ov ∧ FrE X (H.alloc (.cells x.cells 0 true)) H2) x.args.length ?_ ?_
  · rintro i E H2 hi ⟨s2, has, k0, k2, k4, k113, k114, k115, k7, hR2, hf2⟩
    repeat' (first
       | (apply Rx.nl ?_; clear hK K) | apply Rx.o ?_ | apply Rx.on ?_ | apply Rx.gu ?_ | (apply Rx.gd (fun hg hgp => ?_) (fun hg hgp => ?_) <;> try (cases hg; done)) | (apply Rx.cd (fun hb hbp => ?_) (fun hb hbp => ?_) <;> try (cases hb; done)) | apply Wp.seq ?_ | (apply Wp.ops' fun K hK => ?_) | (apply Rx.dT 3 [(2, 7), (2, 8), (5, 7)] fun K hK => ?_) | (apply Rx.dT 5 [(4, 12), (4, 17), (4, 18), (6, 12), (6, 17), (6, 18), (7, 12), (7, 17), (7, 18), (10, 12), (15, 12), (15, 17)] fun K hK => ?_) | (apply Rx.dT 28 [(2, 12), (2, 13), (7, 12), (9, 12), (10, 12)] fun K hK => ?_) | (apply Rx.nq ?_; try intro _) | (apply Rx.nt ?_ ?_ <;> clear hK K) | apply WpT.step ?_ | apply WpT.step0 rfl ?_ | apply Rx.gv ?_ | (apply Rx.gt (fun hg hgp => ?_) (fun hg hgp => ?_) <;> try (cases hg; done)) | apply Wp.block ?_ | apply Rx.sk ?_ | apply Rx.xt ?_)
    · have hlt : i < x.args.length := by simpa using hb
      have hgx : x.args[i]? = some x.args[i] := List.getElem?_eq_getElem hlt
      have hxm := exprsSz_mem (List.getElem_mem hlt)
      rw [List.drop_eq_getElem_cons hlt] at has
      simp only [argsM, Option.bind_eq_some_iff, Option.some.injEq, Prod.mk.injEq] at has
      obtain ⟨r1, he, r2, has, hd, h22⟩ := has
      repeat' (first
         | (apply Rx.nl ?_; clear hK K) | apply Rx.o ?_ | apply Rx.on ?_ | apply Rx.gu ?_ | (apply Rx.gd (fun hg hgp => ?_) (fun hg hgp => ?_) <;> try (cases hg; done)) | (apply Rx.cd (fun hb hbp => ?_) (fun hb hbp => ?_) <;> try (cases hb; done)) | apply Wp.seq ?_ | (apply Wp.ops' fun K hK => ?_) | (apply Rx.dT 3 [(2, 7), (2, 8), (5, 7)] fun K hK => ?_) | (apply Rx.dT 5 [(4, 12), (4, 17), (4, 18), (6, 12), (6, 17), (6, 18), (7, 12), (7, 17), (7, 18), (10, 12), (15, 12), (15, 17)] fun K hK => ?_) | (apply Rx.dT 28 [(2, 12), (2, 13), (7, 12), (9, 12), (10, 12)] fun K hK => ?_) | (apply Rx.nq ?_; try intro _) | (apply Rx.nt ?_ ?_ <;> clear hK K) | apply WpT.step ?_ | apply WpT.step0 rfl ?_ | apply Rx.gv ?_ | (apply Rx.gt (fun hg hgp => ?_) (fun hg hgp => ?_) <;> try (cases hg; done)) | apply Wp.block ?_ | apply Rx.sk ?_ | apply Rx.xt ?_)
      generalize hH3 : Hp.set _ H2.next _ = H3
      have hn3 : H3.next = H2.next + 1 := by rw [← hH3]; rfl
      have hg3 : ∀ k, k < H2.next → H3.get k = H2.get k := fun k hk => by rw [← hH3, Hp.get_set, if_neg (by omega), Hp.get_alloc, if_neg (by omega)]
      have hb3 : H3.get H2.next = some (.cells x.args[i].cells 0 true) := by rw [← hH3, Hp.get_set, if_pos rfl]
      have hR3 : RepM X H3 s2 ov := hR2.same (by omega) hg3
      have hf3 : FrE X (H.alloc (.cells x.cells 0 true)) H3 := hf2.trans ⟨by omega, fun k h1 _ => hg3 k h1⟩
      have hv3 := b1.v.frE hf3
      have k73 := k7.mono (H' := H3) (by omega) fun k _ h => hg3 k h
      repeat' (first
         | (apply Rx.nl ?_; clear hK K) | apply Rx.o ?_ | apply Rx.on ?_ | apply Rx.gu ?_ | (apply Rx.gd (fun hg hgp => ?_) (fun hg hgp => ?_) <;> try (cases hg; done)) | (apply Rx.cd (fun hb hbp => ?_) (fun hb hbp => ?_) <;> try (cases hb; done)) | apply Wp.seq ?_ | (apply Wp.ops' fun K hK => ?_) | (apply Rx.dT 3 [(2, 7), (2, 8), (5, 7)] fun K hK => ?_) | (apply Rx.dT 5 [(4, 12), (4, 17), (4, 18), (6, 12), (6, 17), (6, 18), (7, 12), (7, 17), (7, 18), (10, 12), (15, 12), (15, 17)] fun K hK => ?_) | (apply Rx.dT 28 [(2, 12), (2, 13), (7, 12), (9, 12), (10, 12)] fun K hK => ?_) | (apply Rx.nq ?_; try intro _) | (apply Rx.nt ?_ ?_ <;> clear hK K) | apply WpT.step ?_ | apply WpT.step0 rfl ?_ | apply Rx.gv ?_ | (apply Rx.gt (fun hg hgp => ?_) (fun hg hgp => ?_) <;> try (cases hg; done)) | apply Wp.block ?_ | apply Rx.sk ?_ | apply Rx.xt ?_)
      refine WpL.call rfl eVk eAk ?_; simp only [List.cons_append, List.nil_append, List.append_nil]
      refine WpCall.mono ?_ (expr_wp hS X n x.args[i] vs s2 r1 he rv ov _ hR3 hv3.get hv3.lt hv3.nm)
      rintro v H4 ⟨rfl, hR4, hf4⟩
      have hn4 := hf4.next
      have hlm := hR.lm
      have k74 := k73.mono (H' := H4) hf4.next fun k h1 h2 => hf4.get k h2 (by omega)
      have k75 := k74.mono (H' := H4.alloc (.cells [.int .i64 r1.1] 0 true)) (Nat.le_succ _) fun k h1 h2 => by rw [Hp.get_alloc, if_neg (by omega)]
      obtain ⟨H6, happ, hn6, hg6, hk6⟩ := intsR_append (P := Try.prog) (t := 52) Try.underlying52 sz2 bt2 zr2 k75.ints (r' := H4.next) (x := r1.1) (by rw [Hp.get_alloc, if_pos rfl]) (by rw [List.length_take]; omega)
      have hlt2 : i < ra.1.length := by omega
      have htl : (ra.1.take i).length = i := by rw [List.length_take]; omega
      rw [htl] at happ
      have happ2 : appendA Try.prog false (H4.alloc (.cells [.int .i64 r1.1] 0 true)) 52 52 (E.at 7) (.sl H4.next 0 1 1) = some (.sl (H4.next + 1) 0 (i + 1) 1, H6) := happ
      have hk6' : ∀ k, k < H.next + 1 → H6.get k = H4.get k := fun k hk => by
        rw [hk6 k (by simp only [Hp.next_alloc]; have := hf3.next; simp only [Hp.next_alloc] at this; omega) (fun e => by have := (k75.lt k e).1; omega), Hp.get_alloc, if_neg (by have := hf3.next; simp only [Hp.next_alloc] at this; omega)]
      have hn6' : H6.next = H4.next + 2 := hn6
      have hR6 : RepM X H6 r1.2 ov := by
        refine hR4.other (by omega) fun k h1 h2 => hk6' k ?_
        rcases h2 with h2 | h2 | h2 | h2
        · have := hR.own_lt h2; omega
        · have := hR.lc; omega
        · have := hR.lf; omega
        · have := hR.out_lt h2; omega
      have hdrop : ra.1.drop (i + 1) = r2.1 := by
        rw [← List.tail_drop, ← hd, List.tail_cons]
      have hget : ra.1[i]? = some r1.1 := by
        rw [← List.head?_drop, ← hd]; rfl
      dsimp only [setO]
      repeat' (first
         | (apply Rx.nl ?_; clear hK K) | apply Rx.o ?_ | apply Rx.on ?_ | apply Rx.gu ?_ | (apply Rx.gd (fun hg hgp => ?_) (fun hg hgp => ?_) <;> try (cases hg; done)) | (apply Rx.cd (fun hb hbp => ?_) (fun hb hbp => ?_) <;> try (cases hb; done)) | apply Wp.seq ?_ | (apply Wp.ops' fun K hK => ?_) | (apply Rx.dT 3 [(2, 7), (2, 8), (5, 7)] fun K hK => ?_) | (apply Rx.dT 5 [(4, 12), (4, 17), (4, 18), (6, 12), (6, 17), (6, 18), (7, 12), (7, 17), (7, 18), (10, 12), (15, 12), (15, 17)] fun K hK => ?_) | (apply Rx.dT 28 [(2, 12), (2, 13), (7, 12), (9, 12), (10, 12)] fun K hK => ?_) | (apply Rx.nq ?_; try intro _) | (apply Rx.nt ?_ ?_ <;> clear hK K) | apply WpT.step ?_ | apply WpT.step0 rfl ?_ | apply Rx.gv ?_ | (apply Rx.gt (fun hg hgp => ?_) (fun hg hgp => ?_) <;> try (cases hg; done)) | apply Wp.block ?_ | apply Rx.sk ?_ | apply Rx.xt ?_)
      refine ⟨hlt, r1.2, ?_, eE, eE, eE, eE, eE, ?_, ?_, hR6, ⟨by have := hf3.next; omega, fun k h1 h2 => ?_⟩⟩
      · rw [hdrop, has, ← h22]
      · simp only [at_set, Nat.reduceBEq, cond_true, wrap_succ (show i < 2 ^ 62 by omega)]
      · refine .inr ⟨H4.next + 1, ?_, ?_, by have := hf3.next; simp only [Hp.next_alloc] at this; omega, by omega⟩
        · simp only [at_set, Nat.reduceBEq, cond_true, cond_false, List.length_take]
          rw [Nat.min_eq_left (by omega)]
        · rw [show ra.1.take (i + 1) = ra.1.take i ++ [r1.1] by rw [List.take_add_one, hget]; rfl]
          exact hg6
      · have h1' : k < H.next + 1 := h1
        have h3' := hf3.next
        rw [hk6' k h1', hf4.get k (by omega) h2]
        exact hf3.get k h1 h2
    · have hia : i = x.args.length := by simp at hb; omega
      subst hia
      have hd0 : ra.1.drop x.args.length = [] := List.drop_of_length_le (by omega)
      rw [List.drop_of_length_le (Nat.le_refl _)] at has
      simp only [argsM, Option.some.injEq, Prod.mk.injEq] at has
      obtain ⟨_, rfl⟩ := has
      rw [List.take_of_length_le (by omega)] at k7
      clear hb hbp
      have hf2' : FrS X (· = rv) ov H ov H2 := b1.fr.trans (hf2.toS _ _)
      have hv2 := b1.v.frE hf2
      have kb2 : H2.get H.next = some (.cells x.cells 0 true) := by rw [hf2.get _ (Nat.lt_succ_self _) (by have := hR.lm; omega)]; exact b1.box
      have hn2 := hf2.next
      simp only [Hp.next_alloc] at hn2
      refine WpL.call rfl eVk eAk ?_; simp only [List.cons_append, List.nil_append, List.append_nil]
      refine WpCall.mono ?_ (tick_wp hS X ra.2 ov H2 hR2)
      rintro v H3 ⟨hR3, hf3⟩
      have hn3 := hf3.next
      have hv3 := hv2.frE hf3
      have hf3' := hf2'.trans (hf3.toS _ _)
      have kb3 : H3.get H.next = some (.cells x.cells 0 true) := by rw [hf3.get _ (by omega) (by have := hR.lm; omega)]; exact kb2
      have hlm := hR.lm
      have k73 := k7.mono (H' := H3) hf3.next fun k h1 h2 => hf3.get k h2 (by omega)
      have m3 := hR3.m
      unfold mc at m3
      dsimp only [setO]
      by_cases ht : (tickM ra.2).fin = 0
      · rw [if_pos ht] at h2
        simp only [Option.bind_eq_some_iff, Option.some.injEq] at h2
        obtain ⟨r2, hc, rfl⟩ := h2
        have hlf := look_vEs (P := Try.prog) Try.underlying84 keyS (show zeroV Try.prog 3 = some (.int .i64 0) by kernel_rfl) hR3.f x.to
        repeat' (first
           | (apply Rx.nl ?_; clear hK K) | apply Ry.o ?_ | apply Ry.on ?_ | apply Ry.gu ?_ | (apply Ry.gd (fun hg hgp => ?_) (fun hg hgp => ?_) <;> try (cases hg; done)) | (apply Ry.cd (fun hb hbp => ?_) (fun hb hbp => ?_) <;> try (cases hb; done)) | apply Wp.seq ?_ | (apply Wp.ops' fun K hK => ?_) | (apply Rx.dT 3 [(2, 7), (2, 8), (5, 7)] fun K hK => ?_) | (apply Rx.dT 5 [(4, 12), (4, 17), (4, 18), (6, 12), (6, 17), (6, 18), (7, 12), (7, 17), (7, 18), (10, 12), (15, 12), (15, 17)] fun K hK => ?_) | (apply Rx.dT 28 [(2, 12), (2, 13), (7, 12), (9, 12), (10, 12)] fun K hK => ?_) | (apply Rx.nq ?_; try intro _) | (apply Rx.nt ?_ ?_ <;> clear hK K) | apply WpT.step ?_ | apply WpT.step0 rfl ?_ | apply Ry.gv ?_ | (apply Ry.gt (fun hg hgp => ?_) (fun hg hgp => ?_) <;> try (cases hg; done)) | apply Wp.block ?_ | apply Rx.sk ?_ | apply Rx.xt ?_)
        refine WpL.call rfl eVk eAk ?_; simp only [List.cons_append, List.nil_append, List.append_nil]
        refine WpCall.mono ?_ (IH _ _ _ r2 hc ho (by omega) (E.at 7) ov H3 hR3 k73.ints.argsV (fun b hb => k73.slb b hb))
        rintro v H4 ⟨rfl, ov4, hR4, hf4⟩
        have hn4 := hf4.next
        have hv4 := hv3.frS hf4 (fun e => e)
        have m4 := hR4.m
        unfold mc at m4
        have kb4 : H4.get H.next = some (.cells x.cells 0 true) := by
          rw [hf4.keep hR (Nat.le_refl _) (by omega) (fun e => e)]; exact kb3
        have hlf4 := look_vEs (P := Try.prog) Try.underlying84 keyS (show zeroV Try.prog 3 = some (.int .i64 0) by kernel_rfl) hR4.f x.to
        have hu := upd_vEs (P := Try.prog) Try.underlying121 keyS hv4.get x.name r2.1
        dsimp only [setO]
        repeat' (first
           | (apply Rx.nl ?_; clear hK K) | apply Rx.o ?_ | apply Rx.on ?_ | apply Rx.gu ?_ | (apply Rx.gd (fun hg hgp => ?_) (fun hg hgp => ?_) <;> try (cases hg; done)) | (apply Rx.cd (fun hb hbp => ?_) (fun hb hbp => ?_) <;> try (cases hb; done)) | apply Wp.seq ?_ | (apply Wp.ops' fun K hK => ?_) | (apply Rx.dT 3 [(2, 7), (2, 8), (5, 7)] fun K hK => ?_) | (apply Rx.dT 5 [(4, 12), (4, 17), (4, 18), (6, 12), (6, 17), (6, 18), (7, 12), (7, 17), (7, 18), (10, 12), (15, 12), (15, 17)] fun K hK => ?_) | (apply Rx.dT 28 [(2, 12), (2, 13), (7, 12), (9, 12), (10, 12)] fun K hK => ?_) | (apply Rx.nq ?_; try intro _) | (apply Rx.nt ?_ ?_ <;> clear hK K) | apply WpT.step ?_ | apply WpT.step0 rfl ?_ | apply Rx.gv ?_ | (apply Rx.gt (fun hg hgp => ?_) (fun hg hgp => ?_) <;> try (cases hg; done)) | apply Wp.block ?_ | apply Rx.sk ?_ | apply Rx.xt ?_)
        · exact eK
        · all_goals (refine ⟨eI, _, eR, ?_⟩; try simp only [oneOr])
          obtain ⟨q1, q2, q3⟩ := hR4.setV hv4 (setV vs x.name r2.1)
          exact ⟨ov4, q1, q2, (hf3'.trans (hf4.weak fun r _ e => e.elim)).trans q3⟩
      · rw [if_neg ht, Option.some.injEq] at h2
        subst h2
        repeat' (first
           | (apply Rx.nl ?_; clear hK K) | apply Ry.o ?_ | apply Ry.on ?_ | apply Ry.gu ?_ | (apply Ry.gd (fun hg hgp => ?_) (fun hg hgp => ?_) <;> try (cases hg; done)) | (apply Ry.cd (fun hb hbp => ?_) (fun hb hbp => ?_) <;> try (cases hb; done)) | apply Wp.seq ?_ | (apply Wp.ops' fun K hK => ?_) | (apply Rx.dT 3 [(2, 7), (2, 8), (5, 7)] fun K hK => ?_) | (apply Rx.dT 5 [(4, 12), (4, 17), (4, 18), (6, 12), (6, 17), (6, 18), (7, 12), (7, 17), (7, 18), (10, 12), (15, 12), (15, 17)] fun K hK => ?_) | (apply Rx.dT 28 [(2, 12), (2, 13), (7, 12), (9, 12), (10, 12)] fun K hK => ?_) | (apply Rx.nq ?_; try intro _) | (apply Rx.nt ?_ ?_ <;> clear hK K) | apply WpT.step ?_ | apply WpT.step0 rfl ?_ | apply Ry.gv ?_ | (apply Ry.gt (fun hg hgp => ?_) (fun hg hgp => ?_) <;> try (cases hg; done)) | apply Wp.block ?_ | apply Rx.sk ?_ | apply Rx.xt ?_)
        all_goals (refine ⟨eI, _, eR, ?_⟩; try simp only [oneOr])
        exact ⟨ov, hR3, hv3, hf3'⟩
  · refine ⟨s, ha, eE, eE, eE, eE, eE, eE, .inl ⟨eE, rfl⟩, b1.R, FrE.refl _ _⟩
set_option maxRecDepth 100000 in
set_option maxHeartbeats 4000000 in
include hS in
theorem stmts_step {N : Nat} (IH : ∀ m, m < N → PStmt cfg X m) : PStmts cfg X N := by
  intro l vs s r h hz ho rv ov H hR hv
  have hlen := stmtsSz_len l
  refine WpCall.slim (M := 27) (rs := []) ((hS.plain _ rfl).call _) (hS.plain _ rfl).ice (hS.plain _ rfl).froz Try.func76 rfl rfl code76.2 rfl ?_; dsimp only [code76, envOf, Nat.reduceAdd]
  repeat' (first
     | (apply Rx.nl ?_; clear hK K) | apply Rx.o ?_ | apply Rx.gu ?_ | (apply Rx.gd (fun hg hgp => ?_) (fun hg hgp => ?_) <;> try (cases hg; done)) | (apply Rx.cd (fun hb hbp => ?_) (fun hb hbp => ?_) <;> try (cases hb; done)) | apply Wp.seq ?_ | (apply Wp.ops' fun K hK => ?_) | apply Wp.block ?_ | apply Rx.sk ?_ | apply Rx.xt ?_)
  refine Wp.loopN (fun i E H2 => ∃ m vs2 s2 ov2, m ≤ N ∧ stmtsM X.p X.fi m (l.drop i) vs2 s2 = some r ∧ E.at 0 = .ptr X.rm 0 ∧ E.at 1 = .lst (l.map St.cells) ∧ E.at 2 = .map rv ∧ E.at 6 = .int .i64 i ∧ RepM X H2 s2 ov2 ∧ VarOk X H2 rv vs2 ov2 ∧ FrS X (· = rv) ov H ov2 H2) l.length ?_ ?_
  · rintro i E H2 hi ⟨m, vs2, s2, ov2, hmN, hw, k0, k1, k2, k6, hR2, hv2, hf2⟩
    have m2 := hR2.m
    unfold mc at m2
    cases m with
    | zero => simp [stmtsM] at hw
    | succ m =>
      by_cases hlt : i < l.length
      · have hgx : l[i]? = some l[i] := List.getElem?_eq_getElem hlt
        have hxm := stmtsSz_mem (List.getElem_mem hlt)
        rw [List.drop_eq_getElem_cons hlt] at hw
        unfold stmtsM at hw
        simp only [] at hw
        by_cases h0 : s2.fin = 0
        · rw [if_neg (by simp [h0])] at hw
          simp only [Option.bind_eq_some_iff] at hw
          obtain ⟨r1, hs1, hw⟩ := hw
          have hlt' : (i : Int) < (l.length : Int) := by omega
          repeat' (first
             | (apply Rx.nl ?_; clear hK K) | apply Ry.o ?_ | apply Ry.gu ?_ | (apply Ry.gd (fun hg hgp => ?_) (fun hg hgp => ?_) <;> try (cases hg; done)) | (apply Ry.cd (fun hb hbp => ?_) (fun hb hbp => ?_) <;> try (cases hb; done)) | apply Wp.seq ?_ | (apply Wp.ops' fun K hK => ?_) | apply Wp.block ?_ | apply Rx.sk ?_ | apply Rx.xt ?_)
          refine WpL.call rfl eVk eAk ?_; simp only [List.cons_append, List.nil_append, List.append_nil]
          refine WpCall.mono ?_ (IH m (by omega) l[i] vs2 s2 r1 hs1 (by omega) (Nat.lt_of_le_of_lt ((stepM_out _ _ _).2.1 _ _ _ _ hw) ho) rv ov2 H2 hR2 hv2)
          rintro v H3 ⟨ov3, hR3, hv3, hf3⟩
          dsimp only [setO]
          repeat' (first
             | (apply Rx.nl ?_; clear hK K) | apply Rx.o ?_ | apply Rx.gu ?_ | (apply Rx.gd (fun hg hgp => ?_) (fun hg hgp => ?_) <;> try (cases hg; done)) | (apply Rx.cd (fun hb hbp => ?_) (fun hb hbp => ?_) <;> try (cases hb; done)) | apply Wp.seq ?_ | (apply Wp.ops' fun K hK => ?_) | apply Wp.block ?_ | apply Rx.sk ?_ | apply Rx.xt ?_)
          refine ⟨hlt, m, r1.1, r1.2, ov3, by omega, hw, eE, eE, eE, ?_, hR3, hv3, hf2.trans hf3⟩
          simp only [at_set, Nat.reduceBEq, cond_true, wrap_succ (show i < 2 ^ 62 by omega)]
        · rw [if_pos h0, Option.some.injEq] at hw
          subst hw
          have hlt' : (i : Int) < (l.length : Int) := by omega
          repeat' (first
             | (apply Rx.nl ?_; clear hK K) | apply Ry.o ?_ | apply Ry.gu ?_ | (apply Ry.gd (fun hg hgp => ?_) (fun hg hgp => ?_) <;> try (cases hg; done)) | (apply Ry.cd (fun hb hbp => ?_) (fun hb hbp => ?_) <;> try (cases hb; done)) | apply Wp.seq ?_ | (apply Wp.ops' fun K hK => ?_) | apply Wp.block ?_ | apply Rx.sk ?_ | apply Rx.xt ?_)
          all_goals (refine ⟨eI, _, eR, ?_⟩; try simp only [oneOr])
          exact ⟨ov2, hR2, hv2, hf2⟩
      · rw [List.drop_of_length_le (by omega)] at hw
        simp only [stmtsM, Option.some.injEq] at hw
        subst hw
        have hlt' : ¬ (i : Int) < (l.length : Int) := by omega
        repeat' (first
           | (apply Rx.nl ?_; clear hK K) | apply Ry.o ?_ | apply Ry.gu ?_ | (apply Ry.gd (fun hg hgp => ?_) (fun hg hgp => ?_) <;> try (cases hg; done)) | (apply Ry.cd (fun hb hbp => ?_) (fun hb hbp => ?_) <;> try (cases hb; done)) | apply Wp.seq ?_ | (apply Wp.ops' fun K hK => ?_) | apply Wp.block ?_ | apply Rx.sk ?_ | apply Rx.xt ?_)
        all_goals (refine ⟨eI, _, eR, ?_⟩; try simp only [oneOr])
        exact ⟨ov2, hR2, hv2, hf2⟩
  · exact ⟨N, vs, s, ov, Nat.le_refl _, by simpa using h, eE, eE, eE, eE, hR, hv, FrS.refl _ _ _ _⟩
end
end Go.Proofs.Ytjkmbpieknaekaa
namespace Go.Proofs.Ytjkmbpieknaekaa
set_option maxRecDepth 20000
set_option linter.unusedSimpArgs false
set_option linter.unusedVariables false
set_option linter.unusedSectionVars false
set_option linter.defProp false
set_option maxRecDepth 20000
open Go Go.Ab
namespace tyW6g
def tyF := And.intro @tq2 (And.intro @tq3 (And.intro @tq9 (And.intro @tq22 (And.intro @tq23 (And.intro @tq25 (And.intro @tq35 (And.intro @tq36 (And.intro @tq37 (And.intro @tq39 (And.intro @tq41 (And.intro @tq46 (And.intro @tq52 (And.intro @tq83 (And.intro @tq84 (And.intro @tq86 (@tq121))))))))))))))))
end tyW6g
open tyW6g
theorem bindV_drop : ∀ {ps : List Nm} {al : List Int} {vs r : List (Nm × Int)}, bindV ps al vs = some r → ps.length ≤ al.length
  | [], _, _, _, _ => Nat.zero_le _
  | _ :: _, [], _, _, h => by simp [bindV] at h
  | p :: ps, a :: al, vs, r, h => by
    simp only [bindV] at h
    have := bindV_drop h
    simp; omega
section
variable {cfg : Cfg} (hS : Std cfg) (X : Mx)
set_option maxRecDepth 100000 in
set_option maxHeartbeats 8000000 in
include hS in
theorem call_step {N : Nat} (hpz : X.p.sz < 2 ^ 40) (IH : PStmts cfg X N) : PCall cfg X (N + 1) := by
  intro k al s r h ho hal av ov H hR hav halt
  unfold callM at h
  by_cases hk0 : k < 0
  · rw [if_pos hk0] at h; simp at h
  rw [if_neg hk0] at h
  simp only [Option.bind_eq_some_iff] at h
  obtain ⟨f, hf, vs, hv, r1, hs, he⟩ := h
  have hk0' : 0 ≤ k := by omega
  have hm := hR.m
  unfold mc at hm
  have hpsz : X.p.sz = 1 + arrsSz X.p.arrays + fnsSz X.p.funcs := rfl
  have hfm := fnsSz_mem (List.mem_of_getElem? hf)
  have hfsz : f.sz = 1 + f.name.length + strsSz f.params + strsSz f.locals + stmtsSz f.body + f.value.sz := rfl
  have hpl := strsSz_len f.params
  have hpal := bindV_drop hv
  refine WpCall.slim (M := 45) (rs := [.tmp 6]) ((hS.plain _ rfl).call _) (hS.plain _ rfl).ice (hS.plain _ rfl).froz Try.func41 rfl rfl code41.2 rfl ?_; dsimp only [code41, envOf, Nat.reduceAdd]
  repeat' (first
     | (apply Rx.nl ?_; clear hK K) | apply Rx.o ?_ | apply Rx.on ?_ | (apply Rx.cd (fun hb hbp => ?_) (fun hb hbp => ?_) <;> try (cases hb; done)) | apply Wp.seq ?_ | (apply Wp.ops' fun K hK => ?_) | apply Wp.block ?_ | apply Rx.sk ?_ | apply Rx.rt ?_ | apply Rx.xt ?_)
  generalize hH1 : Hp.alloc _ (HB.map []) = H1
  have hn1 : H1.next = H.next + 2 := by rw [← hH1]; rfl
  have hg1 : ∀ r, r < H.next → H1.get r = H.get r := fun r hr => by rw [← hH1, Hp.get_alloc, if_neg (by simp only [Hp.next_set, Hp.next_alloc]; omega), Hp.get_set, if_neg (by omega), Hp.get_alloc, if_neg (by omega)]
  have hbox1 : H1.get H.next = some (.cells f.cells 0 true) := by rw [← hH1, Hp.get_alloc, if_neg (by simp only [Hp.next_set, Hp.next_alloc]; omega), Hp.get_set, if_pos rfl]
  have hmap1 : H1.get (H.next + 1) = some (.map (vEs [])) := by rw [← hH1, Hp.get_alloc, if_pos (by rfl)]; rfl
  have hR1 : RepM X H1 s ov := hR.same (by omega) hg1
  have hvo : ∀ H2 vs2, H2.get (H.next + 1) = some (.map (vEs vs2)) → H1.next ≤ H2.next → VarOk X H2 (H.next + 1) vs2 ov := fun H2 vs2 h1 h2 =>
    ⟨h1, by omega, fun e => by have := hR.own_lt e; omega, by have := hR.lc; omega, by have := hR.lf; omega, fun e => by have := hR.out_lt e; omega⟩
  repeat' (first
     | (apply Rx.nl ?_; clear hK K) | apply Rx.o ?_ | apply Rx.on ?_ | (apply Rx.cd (fun hb hbp => ?_) (fun hb hbp => ?_) <;> try (cases hb; done)) | apply Wp.seq ?_ | (apply Wp.ops' fun K hK => ?_) | apply Wp.block ?_ | apply Rx.sk ?_ | apply Rx.rt ?_ | apply Rx.xt ?_)
  refine Wp.loopN (fun i E H2 => ∃ vs2, bindV (f.params.drop i) (al.drop i) vs2 = some vs ∧ E.at 0 = .ptr X.rm 0 ∧ E.at 2 = av ∧ E.at 7 = .ptr H.next 0 ∧ E.at 8 = .map (H.next + 1) ∧ E.at 21 = lstS f.params ∧ E.at 22 = .int .i64 f.params.length ∧ E.at 23 = .int .i64 i ∧
    H2.get (H.next + 1) = some (.map (vEs vs2)) ∧ H1.next ≤ H2.next ∧ ∀ r, r < H1.next → r ≠ H.next + 1 → H2.get r = H1.get r) f.params.length ?_ ?_
  · rintro i E H2 hi ⟨vs2, hb2, k0, k2, k7, k8, k21, k22, k23, hmap2, hn2, hg2⟩
    repeat' (first
       | (apply Rx.nl ?_; clear hK K) | apply Rx.o ?_ | apply Rx.on ?_ | (apply Rx.cd (fun hb hbp => ?_) (fun hb hbp => ?_) <;> try (cases hb; done)) | apply Wp.seq ?_ | (apply Wp.ops' fun K hK => ?_) | apply Wp.block ?_ | apply Rx.sk ?_ | apply Rx.rt ?_ | apply Rx.xt ?_)
    · have hlt : i < f.params.length := by simpa using hb
      have hlt2 : i < al.length := by omega
      have hgx : f.params[i]? = some f.params[i] := List.getElem?_eq_getElem hlt
      rw [List.drop_eq_getElem_cons hlt, List.drop_eq_getElem_cons hlt2] at hb2
      simp only [bindV] at hb2
      obtain ⟨a, hia, hld⟩ := hav.at (P := Try.prog) (t := 52) Try.underlying52 Try.underlying2 sz2 hlt2
      have hld2 := hld H2 fun r hr => by
        have := halt r hr
        rw [hg2 r (by omega) (by omega)]; exact hg1 r this
      have hu := upd_vEs (P := Try.prog) Try.underlying121 keyS hmap2 f.params[i] (al.getD i 0)
      have hgd : al[i] = al.getD i 0 := by rw [List.getD_eq_getElem?_getD, List.getElem?_eq_getElem hlt2, Option.getD_some]
      rw [hgd] at hb2
      repeat' (first
         | (apply Rx.nl ?_; clear hK K) | apply Rx.o ?_ | apply Rx.on ?_ | (apply Rx.cd (fun hb hbp => ?_) (fun hb hbp => ?_) <;> try (cases hb; done)) | apply Wp.seq ?_ | (apply Wp.ops' fun K hK => ?_) | apply Wp.block ?_ | apply Rx.sk ?_ | apply Rx.rt ?_ | apply Rx.xt ?_)
      refine ⟨hlt, _, hb2, eE, eE, eE, eE, eE, eE, ?_, by rw [Hp.get_set, if_pos rfl], hn2, fun r h1 h2 => ?_⟩
      · simp only [at_set, Nat.reduceBEq, cond_true, wrap_succ (show i < 2 ^ 62 by omega)]
      · rw [Hp.get_set, if_neg h2]; exact hg2 r h1 h2
    · have hie : f.params.length ≤ i := by simp at hb; omega
      rw [List.drop_of_length_le hie] at hb2
      simp only [bindV, Option.some.injEq] at hb2
      subst hb2
      clear hie hb hbp
      have hbox2 : H2.get H.next = some (.cells f.cells 0 true) := by rw [hg2 _ (by omega) (by omega)]; exact hbox1
      have hR2 : RepM X H2 s ov := hR1.other hn2 fun r h1 h2 => hg2 r h1 (by
        rcases h2 with h2 | h2 | h2 | h2
        · have := hR.own_lt h2; omega
        · have := hR.lc; omega
        · have := hR.lf; omega
        · have := hR.out_lt h2; omega)
      have hv2 := hvo H2 vs2 hmap2 hn2
      have f02 : FrS X (fun _ => False) ov H ov H2 := ⟨by omega, fun r h1 h2 h3 h4 => by rw [hg2 r (by omega) (by omega)]; exact hg1 r h1, fun r h => .inl h⟩
      repeat' (first
         | (apply Rx.nl ?_; clear hK K) | apply Rx.o ?_ | apply Rx.on ?_ | (apply Rx.cd (fun hb hbp => ?_) (fun hb hbp => ?_) <;> try (cases hb; done)) | apply Wp.seq ?_ | (apply Wp.ops' fun K hK => ?_) | apply Wp.block ?_ | apply Rx.sk ?_ | apply Rx.rt ?_ | apply Rx.xt ?_)
      refine WpL.call rfl eVk eAk ?_; simp only [List.cons_append, List.nil_append, List.append_nil]
      refine WpCall.mono ?_ (IH f.body vs2 s r1 hs (by omega) (by rw [← (exprM_keep _ _ _ _ _ he).1]; exact ho) (H.next + 1) ov H2 hR2 hv2)
      rintro v H3 ⟨ov3, hR3, hv3, hf3⟩
      have hn3 := hf3.next
      have hbox3 : H3.get H.next = some (.cells f.cells 0 true) := by rw [hf3.keep hR (Nat.le_refl _) (by omega) (by omega)]; exact hbox2
      dsimp only [setO]
      repeat' (first
         | (apply Rx.nl ?_; clear hK K) | apply Rx.o ?_ | apply Rx.on ?_ | (apply Rx.cd (fun hb hbp => ?_) (fun hb hbp => ?_) <;> try (cases hb; done)) | apply Wp.seq ?_ | (apply Wp.ops' fun K hK => ?_) | apply Wp.block ?_ | apply Rx.sk ?_ | apply Rx.rt ?_ | apply Rx.xt ?_)
      refine WpL.call rfl eVk eAk ?_; simp only [List.cons_append, List.nil_append, List.append_nil]
      refine WpCall.mono ?_ (expr_wp hS X N f.value r1.1 r1.2 r he (H.next + 1) ov3 H3 hR3 hv3.get hv3.lt hv3.nm)
      rintro v H4 ⟨rfl, hR4, hf4⟩
      have hn4 := hf4.next
      dsimp only [setO]
      repeat' (first
         | (apply Rx.nl ?_; clear hK K) | apply Rx.o ?_ | apply Rx.on ?_ | (apply Rx.cd (fun hb hbp => ?_) (fun hb hbp => ?_) <;> try (cases hb; done)) | apply Wp.seq ?_ | (apply Wp.ops' fun K hK => ?_) | apply Wp.block ?_ | apply Rx.sk ?_ | apply Rx.rt ?_ | apply Rx.xt ?_)
      all_goals (refine ⟨eI, _, eR, ?_⟩; try simp only [oneOr])
      refine ⟨by first | rfl | trivial, ov3, hR4, by omega, fun r h1 h2 h3 h4 => ?_, fun r h1 => ?_⟩
      · rw [hf4.get r (by omega) (fun e => h2 (.inl e)), hf3.get r (by omega) h2 h3 (by omega)]
        exact f02.get r h1 h2 h3 h4
      · rcases hf3.out r h1 with e | e
        · exact .inl e
        · exact .inr (by omega)
  · refine ⟨[], by simpa using hv, eE, eE, eE, eE, eE, eE, eE, hmap1, Nat.le_refl _, fun _ _ _ => rfl⟩
include hS in
theorem stmt_step {N : Nat} (IHs : ∀ m, m < N → PStmts cfg X m) (IHc : ∀ m, m < N → PCall cfg X m) : PStmt cfg X N := by
  intro x vs s r h hz ho rv ov H hR hv
  cases N with
  | zero => simp [stmtM] at h
  | succ n =>
    unfold stmtM at h
    by_cases h1 : x.kind = 1
    · rw [if_pos h1] at h
      simp only [Option.bind_eq_some_iff, Option.some.injEq] at h
      obtain ⟨r1, he, rfl⟩ := h
      exact stmt1 hS X h1 he hR hv
    rw [if_neg h1] at h
    by_cases h2 : x.kind = 2
    · rw [if_pos h2] at h
      simp only [Option.bind_eq_some_iff, Option.some.injEq] at h
      obtain ⟨r1, he, r2, he2, rfl⟩ := h
      exact stmt2 hS X h2 he he2 hR hv
    rw [if_neg h2] at h
    by_cases h3 : x.kind = 3
    · rw [if_pos h3] at h
      simp only [Option.bind_eq_some_iff] at h
      obtain ⟨r1, he, h⟩ := h
      exact stmt3 hS X h3 he h (IHs n (Nat.lt_succ_self n)) hz ho hR hv
    rw [if_neg h3] at h
    by_cases h4 : x.kind = 4
    · rw [if_pos h4] at h
      exact stmt4 hS X h4 h (fun m hm => IHs m (by omega)) hz ho hR hv
    rw [if_neg h4] at h
    by_cases h5 : x.kind = 5
    · rw [if_pos h5] at h
      simp only [Option.bind_eq_some_iff, Option.some.injEq] at h
      obtain ⟨r1, he, rfl⟩ := h
      exact stmt5 hS X h5 he ho hR hv
    rw [if_neg h5] at h
    by_cases h6 : x.kind = 6
    · rw [if_pos h6] at h
      simp only [Option.bind_eq_some_iff] at h
      obtain ⟨ra, ha, h⟩ := h
      exact stmt6 hS X h6 ha h (IHc n (Nat.lt_succ_self n)) hz ho hR hv
    rw [if_neg h6] at h
    by_cases h7 : x.kind = 7
    · rw [if_pos h7, Option.some.injEq] at h
      subst h
      exact stmt7 hS X h7 hR hv
    rw [if_neg h7, Option.some.injEq] at h
    subst h
    exact stmt0 hS X h1 h2 h3 h4 h5 h6 h7 hR hv
include hS in
theorem all_wp (hpz : X.p.sz < 2 ^ 40) (N : Nat) : PStmt cfg X N ∧ PStmts cfg X N ∧ PCall cfg X N := by
  induction N using Nat.strongRecOn with
  | _ N IH =>
    refine ⟨stmt_step hS X (fun m hm => (IH m hm).2.1) (fun m hm => (IH m hm).2.2), stmts_step hS X (fun m hm => (IH m hm).1), ?_⟩
    cases N with
    | zero => intro k al s r h; simp [callM] at h
    | succ n => exact call_step hS X hpz (IH n (Nat.lt_succ_self n)).2.1
end
end Go.Proofs.Ytjkmbpieknaekaa
namespace Go.Proofs.Ytjkmbpieknaekaa
set_option maxRecDepth 20000
set_option linter.unusedSimpArgs false
set_option linter.unusedVariables false
set_option linter.unusedSectionVars false
set_option linter.defProp false
set_option maxRecDepth 20000
open Go Go.Ab
namespace tyW6h
def tyF := And.intro @tq2 (And.intro @tq3 (And.intro @tq9 (And.intro @tq22 (And.intro @tq23 (And.intro @tq25 (And.intro @tq30 (And.intro @tq35 (And.intro @tq36 (And.intro @tq39 (And.intro @tq41 (And.intro @tq44 (And.intro @tq52 (And.intro @tq56 (And.intro @tq83 (And.intro @tq84 (@tq86))))))))))))))))
end tyW6h
open tyW6h
noncomputable def code21 : { c : SC // slim 124 (Try.f21.body.getD .skip) = c } := by
  refine ⟨?_, ?_⟩
  rotate_left
  · simp only [Try.f21, Option.getD_some, slim, slimR, slimL, slimD, slimG, Nat.blt, Nat.ble]
    rfl
theorem bldM (p : Pr) (f : Int) (rc rf : Nat) : buildA Try.prog 86 [(0, .agg p.cells), (3, .int .i64 f), (1, .map rc), (2, .map rf)] = some (.agg [.lst (p.arrays.map Ar.cells), .lst (p.funcs.map Fu.cells), .map rc, .map rf, .int .i64 f, .int .i64 0, .int .i64 0, .nilS]) := by
  rw [Pr.cells_eq]; kernel_rfl
theorem bldT (c : Int) : buildA Try.prog 56 [(0, .int .i64 2), (1, .int .i64 c), (2, .nilS)] = some (.agg [.int .i64 2, .int .i64 c, .nilS, .int .i64 0]) := by kernel_rfl
theorem bldT' (c : Int) (r o n z : Nat) : buildA Try.prog 56 [(0, .int .i64 2), (1, .int .i64 c), (2, .sl r o n z)] = some (.agg [.int .i64 2, .int .i64 c, .sl r o n z, .int .i64 0]) := by kernel_rfl
theorem bldF : buildA Try.prog 56 [(0, .int .i64 3), (2, .nilS)] = some (.agg [.int .i64 3, .int .i64 0, .nilS, .int .i64 0]) := by kernel_rfl
theorem bldF' (r o n z : Nat) : buildA Try.prog 56 [(0, .int .i64 3), (2, .sl r o n z)] = some (.agg [.int .i64 3, .int .i64 0, .sl r o n z, .int .i64 0]) := by kernel_rfl
theorem bldR (v : Int) : buildA Try.prog 56 [(0, .int .i64 1), (3, .int .i64 v), (2, .nilS)] = some (.agg [.int .i64 1, .int .i64 0, .nilS, .int .i64 v]) := by kernel_rfl
theorem bldR' (v : Int) (r o n z : Nat) : buildA Try.prog 56 [(0, .int .i64 1), (3, .int .i64 v), (2, .sl r o n z)] = some (.agg [.int .i64 1, .int .i64 0, .sl r o n z, .int .i64 v]) := by kernel_rfl
theorem agg4 (a b c d : AV) : aggA 4 [a, b, c, d] = some (.agg [a, b, c, d]) := rfl
set_option maxRecDepth 100000 in
set_option maxHeartbeats 16000000 in
theorem run_ok {cfg : Cfg} (hS : Std cfg) (p : Pr) (hz : p.sz < 2 ^ 40) (hnd : (p.arrays.map (·.name)).Nodup) (har : ∀ a ∈ p.arrays, 0 ≤ a.len ∧ a.len ≤ 16)
    (hchk : ∀ H, WpCall Try.prog cfg 14 [.agg p.cells] H fun v H' => v = .int .i64 0 ∧ FrB 0 H H') (nm : Nm) (al : List Int) (fuel : Int) (hf0 : 0 ≤ fuel) (hf1 : fuel ≤ 1000)
    (hhas : hasV (fnIx p.funcs 0 []) nm = true) {f : Fu} (hk0 : 0 ≤ lkV (fnIx p.funcs 0 []) nm) (hk : p.funcs[(lkV (fnIx p.funcs 0 []) nm).toNat]? = some f) (hpl : f.params.length = al.length) {n : Nat} {r : Int × MS}
    (hc : callM p (fnIx p.funcs 0 []) n (lkV (fnIx p.funcs 0 []) nm) al (startM p fuel) = some r) (ho : r.2.out.length < 2 ^ 40) (hal : al.length < 2 ^ 40) (av : AV) (H : Hp) (hav : ArgsV H av al) (halt : ∀ b, slB av b → b < H.next) :
    WpCall Try.prog cfg 21 [.agg p.cells, .str nm, av, .int .i64 fuel] H fun v H' => OcV H' v (endM r) ∧ FrB 0 H H' := by
  have hla := arrsSz_len p.arrays
  have hlf := fnsSz_len p.funcs
  have hpsz : p.sz = 1 + arrsSz p.arrays + fnsSz p.funcs := rfl
  refine WpCall.slim (M := 124) (rs := [.cell 8 56]) ((hS.plain _ rfl).call _) (hS.plain _ rfl).ice (hS.plain _ rfl).froz Try.func21 rfl rfl code21.2 rfl ?_; dsimp only [code21, envOf, Nat.reduceAdd]
  repeat' (first
     | (apply Rx.nl ?_; clear hK K) | apply Rx.o ?_ | apply Rx.on ?_ | apply Rx.gu ?_ | (apply Rx.gd (fun hg hgp => ?_) (fun hg hgp => ?_) <;> try (cases hg; done)) | (apply Rx.cd (fun hb hbp => ?_) (fun hb hbp => ?_) <;> try (cases hb; done)) | apply Wp.seq ?_ | (apply Wp.ops' fun K hK => ?_) | (apply Rx.dT 7 [(3, 9), (5, 9), (7, 9), (8, 9)] fun K hK => ?_) | (apply Rx.dr 12 fun K hK => ?_) | (apply Rx.dr 20 fun K hK => ?_) | (apply Rx.nq ?_; try intro _) | (apply Rx.nt ?_ ?_ <;> clear hK K) | apply WpT.step ?_ | apply WpT.step0 rfl ?_ | apply Rx.gv ?_ | (apply Rx.gt (fun hg hgp => ?_) (fun hg hgp => ?_) <;> try (cases hg; done)) | apply Wp.block ?_ | apply Rx.sk ?_ | apply Rx.rt ?_ | apply Rx.xt ?_)
  refine WpL.call rfl eVk eAk ?_; simp only [List.cons_append, List.nil_append, List.append_nil]
  refine WpCall.mono ?_ (hchk _)
  rintro v H2 ⟨rfl, hf2⟩
  have hn2 := hf2.next
  simp only [Hp.next_alloc] at hn2
  have hb0 : H2.get H.next = some (.cells p.cells 0 true) := by
    rw [hf2.get _ (Nat.zero_le _) (by simp only [Hp.next_alloc]; omega), Hp.get_alloc, if_neg (by simp only [Hp.next_alloc]; omega), Hp.get_alloc, if_pos rfl]
  have hb1 : H2.get (H.next + 1) = some (.cells [.int .i64 0, .int .i64 0, .nilS, .int .i64 0] 0 true) := by
    rw [hf2.get _ (Nat.zero_le _) (by simp only [Hp.next_alloc]; omega), Hp.get_alloc, if_pos (by rfl)]
  have hg2 : ∀ r, r < H.next → H2.get r = H.get r := fun r hr => by
    rw [hf2.get _ (Nat.zero_le _) (by simp only [Hp.next_alloc]; omega), Hp.get_alloc, if_neg (by simp only [Hp.next_alloc]; omega), Hp.get_alloc, if_neg (by omega)]
  have hf0' : ¬ fuel < 0 := by omega
  have hf1' : ¬ 1000 < fuel := by omega
  have e1 : (H.next == H2.next) = false := beq_ne (by omega)
  have e2 : (H.next == H2.next + 1) = false := beq_ne (by omega)
  have e3 : (H.next == H2.next + 2) = false := beq_ne (by omega)
  dsimp only [setO]
  have gh0 := @bldM
  repeat' (first
     | (apply Rx.nl ?_; clear hK K) | apply Ry.o ?_ | apply Ry.on ?_ | apply Ry.gu ?_ | (apply Ry.gd (fun hg hgp => ?_) (fun hg hgp => ?_) <;> try (cases hg; done)) | (apply Ry.cd (fun hb hbp => ?_) (fun hb hbp => ?_) <;> try (cases hb; done)) | apply Wp.seq ?_ | (apply Wp.ops' fun K hK => ?_) | (apply Rx.dT 7 [(3, 9), (5, 9), (7, 9), (8, 9)] fun K hK => ?_) | (apply Rx.dr 12 fun K hK => ?_) | (apply Rx.dr 20 fun K hK => ?_) | (apply Rx.nq ?_; try intro _) | (apply Rx.nt ?_ ?_ <;> clear hK K) | apply WpT.step ?_ | apply WpT.step0 rfl ?_ | apply Ry.gv ?_ | (apply Ry.gt (fun hg hgp => ?_) (fun hg hgp => ?_) <;> try (cases hg; done)) | apply Wp.block ?_ | apply Rx.sk ?_ | apply Rx.rt ?_ | apply Rx.xt ?_)
  generalize hH3 : Hp.alloc _ (HB.cells [_, _, _, _, _, _, _, _] 0 true) = H3
  have hn3 : H3.next = H2.next + 3 := by rw [← hH3]; rfl
  have hg3 : ∀ r, r < H2.next → H3.get r = H2.get r := fun r hr => by
    rw [← hH3, Hp.get_alloc, if_neg (by simp only [Hp.next_alloc]; omega), Hp.get_alloc, if_neg (by simp only [Hp.next_alloc]; omega), Hp.get_alloc, if_neg (by omega)]
  have hc3 : H3.get H2.next = some (.map (cEs [] [])) := by
    rw [← hH3, Hp.get_alloc, if_neg (by simp only [Hp.next_alloc]; omega), Hp.get_alloc, if_neg (by simp only [Hp.next_alloc]; omega), Hp.get_alloc, if_pos rfl]; rfl
  have hF3 : H3.get (H2.next + 1) = some (.map (vEs [])) := by
    rw [← hH3, Hp.get_alloc, if_neg (by simp only [Hp.next_alloc]; omega), Hp.get_alloc, if_pos (by rfl)]; rfl
  have hm3 : H3.get (H2.next + 2) = some (.cells [.lst (p.arrays.map Ar.cells), .lst (p.funcs.map Fu.cells), .map H2.next, .map (H2.next + 1), .int .i64 fuel, .int .i64 0, .int .i64 0, .nilS] 0 true) := by
    rw [← hH3, Hp.get_alloc, if_pos (by rfl)]
  have hb03 : H3.get H.next = some (.cells p.cells 0 true) := by rw [hg3 _ (by omega)]; exact hb0
  have hb13 : H3.get (H.next + 1) = some (.cells [.int .i64 0, .int .i64 0, .nilS, .int .i64 0] 0 true) := by rw [hg3 _ (by omega)]; exact hb1
  clear hH3
  refine Wp.loopN (fun i E H4 => ∃ rs : List Nat, rs.length = i ∧ rs.Nodup ∧ (∀ r ∈ rs, H3.next ≤ r ∧ r < H4.next) ∧ H4.get H2.next = some (.map (cEs (zeroC (p.arrays.take i)) rs)) ∧
    (∀ (j r : Nat) (nm : Nm) (l : List Int), rs[j]? = some r → (zeroC (p.arrays.take i))[j]? = some (nm, l) → H4.get r = some (.cells (ints l) 0 true)) ∧ H3.next ≤ H4.next ∧ (∀ r, r < H3.next → r ≠ H2.next → H4.get r = H3.get r) ∧
    E.at 1 = .str nm ∧ E.at 2 = av ∧ E.at 4 = .ptr H.next 0 ∧ E.at 8 = .ptr (H.next + 1) 0 ∧ E.at 9 = .ptr (H2.next + 2) 0 ∧ E.at 36 = .lst (p.arrays.map Ar.cells) ∧ E.at 37 = .int .i64 p.arrays.length ∧ E.at 38 = .int .i64 i) p.arrays.length ?_ ?_
  · rintro i E H4 hi ⟨rs, hrl, hrn, hrb, hrc, hrg, hn4, hg4, k1, k2, k4, k8, k9, k36, k37, k38⟩
    repeat' (first
       | (apply Rx.nl ?_; clear hK K) | apply Rx.o ?_ | apply Rx.on ?_ | apply Rx.gu ?_ | (apply Rx.gd (fun hg hgp => ?_) (fun hg hgp => ?_) <;> try (cases hg; done)) | (apply Rx.cd (fun hb hbp => ?_) (fun hb hbp => ?_) <;> try (cases hb; done)) | apply Wp.seq ?_ | (apply Wp.ops' fun K hK => ?_) | (apply Rx.dT 7 [(3, 9), (5, 9), (7, 9), (8, 9)] fun K hK => ?_) | (apply Rx.dr 12 fun K hK => ?_) | (apply Rx.dr 20 fun K hK => ?_) | (apply Rx.nq ?_; try intro _) | (apply Rx.nt ?_ ?_ <;> clear hK K) | apply WpT.step ?_ | apply WpT.step0 rfl ?_ | apply Rx.gv ?_ | (apply Rx.gt (fun hg hgp => ?_) (fun hg hgp => ?_) <;> try (cases hg; done)) | apply Wp.block ?_ | apply Rx.sk ?_ | apply Rx.rt ?_ | apply Rx.xt ?_)
    · have hlt : i < p.arrays.length := by simpa using hb
      have hgx : p.arrays[i]? = some p.arrays[i] := List.getElem?_eq_getElem hlt
      obtain ⟨ha0, ha1⟩ := har p.arrays[i] (List.getElem_mem hlt)
      repeat' (first
         | (apply Rx.nl ?_; clear hK K) | apply Rx.o ?_ | apply Rx.on ?_ | apply Rx.gu ?_ | (apply Rx.gd (fun hg hgp => ?_) (fun hg hgp => ?_) <;> try (cases hg; done)) | (apply Rx.cd (fun hb hbp => ?_) (fun hb hbp => ?_) <;> try (cases hb; done)) | apply Wp.seq ?_ | (apply Wp.ops' fun K hK => ?_) | (apply Rx.dT 7 [(3, 9), (5, 9), (7, 9), (8, 9)] fun K hK => ?_) | (apply Rx.dr 12 fun K hK => ?_) | (apply Rx.dr 20 fun K hK => ?_) | (apply Rx.nq ?_; try intro _) | (apply Rx.nt ?_ ?_ <;> clear hK K) | apply WpT.step ?_ | apply WpT.step0 rfl ?_ | apply Rx.gv ?_ | (apply Rx.gt (fun hg hgp => ?_) (fun hg hgp => ?_) <;> try (cases hg; done)) | apply Wp.block ?_ | apply Rx.sk ?_ | apply Rx.rt ?_ | apply Rx.xt ?_)
      generalize hH5 : Hp.set _ H4.next _ = H5
      have hn5 : H5.next = H4.next + 1 := by rw [← hH5]; rfl
      have hg5 : ∀ r, r < H4.next → H5.get r = H4.get r := fun r hr => by rw [← hH5, Hp.get_set, if_neg (by omega), Hp.get_alloc, if_neg (by omega)]
      have hb5 : H5.get H4.next = some (.cells p.arrays[i].cells 0 true) := by rw [← hH5, Hp.get_set, if_pos rfl]
      have hm5 : H5.get (H2.next + 2) = some (.cells [.lst (p.arrays.map Ar.cells), .lst (p.funcs.map Fu.cells), .map H2.next, .map (H2.next + 1), .int .i64 fuel, .int .i64 0, .int .i64 0, .nilS] 0 true) := by
        rw [hg5 _ (by omega), hg4 _ (by omega) (by omega)]; exact hm3
      clear hH5
      have hn5' : H4.next + 1 ≤ H5.next := by omega
      clear hn5
      have hms := make_ints (P := Try.prog) (H := H5) (t := 52) Try.underlying52 sz2 bt2 zr2 ha0 (n := p.arrays[i].len) (by omega)
      have hc6 : (H5.alloc (.cells (ints (List.replicate p.arrays[i].len.toNat 0)) 0 true)).get H2.next = some (.map (cEs (zeroC (p.arrays.take i)) rs)) := by
        rw [Hp.get_alloc, if_neg (by omega), hg5 _ (by omega)]; exact hrc
      have hnew : p.arrays[i].name ∉ (zeroC (p.arrays.take i)).map (·.1) := by
        have h1 : (zeroC (p.arrays.take i)).map (·.1) = (p.arrays.map (·.name)).take i := by simp [zeroC, List.map_take]; rfl
        rw [h1]
        have h2 := List.drop_eq_getElem_cons (l := p.arrays.map (·.name)) (i := i) (by simpa using hlt)
        have h3 : ((p.arrays.map (·.name)).take i ++ (p.arrays.map (·.name)).drop i).Nodup := by rw [List.take_append_drop]; exact hnd
        rw [h2, List.getElem_map] at h3
        intro h4
        exact (List.nodup_append.1 h3).2.2 _ h4 _ List.mem_cons_self rfl
      have hu := (update_map (P := Try.prog) (nm := p.arrays[i].name) (x := .sl H5.next 0 p.arrays[i].len.toNat 1) Try.underlying83 keyS hc6).1 (find_new _ _ _ _ hnew)
      have e5 : (H2.next + 2 == H5.next) = false := beq_ne (by omega)
      have e6 : (H4.next == H2.next) = false := beq_ne (by omega)
      have e7 : (H4.next == H5.next) = false := beq_ne (by omega)
      have e8 : (H5.next == H2.next) = false := beq_ne (by omega)
      repeat' (first
         | (apply Rx.nl ?_; clear hK K) | apply Rx.o ?_ | apply Rx.on ?_ | apply Rx.gu ?_ | (apply Rx.gd (fun hg hgp => ?_) (fun hg hgp => ?_) <;> try (cases hg; done)) | (apply Rx.cd (fun hb hbp => ?_) (fun hb hbp => ?_) <;> try (cases hb; done)) | apply Wp.seq ?_ | (apply Wp.ops' fun K hK => ?_) | (apply Rx.dT 7 [(3, 9), (5, 9), (7, 9), (8, 9)] fun K hK => ?_) | (apply Rx.dr 12 fun K hK => ?_) | (apply Rx.dr 20 fun K hK => ?_) | (apply Rx.nq ?_; try intro _) | (apply Rx.nt ?_ ?_ <;> clear hK K) | apply WpT.step ?_ | apply WpT.step0 rfl ?_ | apply Rx.gv ?_ | (apply Rx.gt (fun hg hgp => ?_) (fun hg hgp => ?_) <;> try (cases hg; done)) | apply Wp.block ?_ | apply Rx.sk ?_ | apply Rx.rt ?_ | apply Rx.xt ?_)
      · exact eK
      · refine ⟨hlt, rs ++ [H5.next], by simp [hrl], ?_, ?_, ?_, ?_, by simp only [Hp.next_set, Hp.next_alloc]; omega, ?_, eE, eE, eE, eE, eE, eE, eE, ?_⟩
        · rw [List.nodup_append]
          refine ⟨hrn, by simp, fun a ha b hb => ?_⟩
          simp only [List.mem_singleton] at hb
          have := (hrb a ha).2
          omega
        · intro r hr
          simp only [Hp.next_set, Hp.next_alloc]
          rcases List.mem_append.1 hr with hr | hr
          · have := hrb r hr; omega
          · simp only [List.mem_singleton] at hr; omega
        · rw [Hp.get_set, if_pos rfl]
          have h1 : zeroC (p.arrays.take (i + 1)) = zeroC (p.arrays.take i) ++ [(p.arrays[i].name, List.replicate p.arrays[i].len.toNat 0)] := by
            unfold zeroC; rw [List.take_add_one, hgx, List.map_append]; rfl
          rw [h1, cEs_snoc _ _ _ _ (by simp [zeroC, hrl]; omega)]
          simp
        · intro j r nm' l h1 h2
          have h3 : zeroC (p.arrays.take (i + 1)) = zeroC (p.arrays.take i) ++ [(p.arrays[i].name, List.replicate p.arrays[i].len.toNat 0)] := by
            unfold zeroC; rw [List.take_add_one, hgx, List.map_append]; rfl
          have hzl : (zeroC (p.arrays.take i)).length = i := by simp [zeroC]; omega
          rw [h3] at h2
          by_cases hj : j < i
          · rw [List.getElem?_append_left (by omega)] at h1 h2
            have hrm := hrb r (List.mem_of_getElem? h1)
            rw [Hp.get_set, if_neg (by omega), Hp.get_alloc, if_neg (by omega), hg5 _ (by omega)]
            exact hrg j r nm' l h1 h2
          · rw [List.getElem?_append_right (by omega)] at h1 h2
            have hj0 : j = i := by
              have := (List.getElem?_eq_some_iff.1 h1).1
              simp at this; omega
            subst hj0
            simp only [hrl, hzl, Nat.sub_self, List.getElem?_cons_zero, Option.some.injEq, Prod.mk.injEq] at h1 h2
            rw [← h1, Hp.get_set, if_neg (by omega), Hp.get_alloc, if_pos rfl, h2.2]
        · intro r h1 h2
          rw [Hp.get_set, if_neg h2, Hp.get_alloc, if_neg (by omega), hg5 _ (by omega)]
          exact hg4 r h1 h2
        · simp only [at_set, Nat.reduceBEq, cond_true, wrap_succ (show i < 2 ^ 62 by omega)]
    · have hia : p.arrays.length ≤ i := by simp at hb; omega
      rw [List.take_of_length_le hia] at hrc hrg
      have hrl2 : rs.length = p.arrays.length := by omega
      clear hb hbp hia hi k38 hrl k36 k37
      have hm4 : H4.get (H2.next + 2) = some (.cells [.lst (p.arrays.map Ar.cells), .lst (p.funcs.map Fu.cells), .map H2.next, .map (H2.next + 1), .int .i64 fuel, .int .i64 0, .int .i64 0, .nilS] 0 true) := by
        rw [hg4 _ (by omega) (by omega)]; exact hm3
      have hb04 : H4.get H.next = some (.cells p.cells 0 true) := by rw [hg4 _ (by omega) (by omega)]; exact hb03
      repeat' (first
         | (apply Rx.nl ?_; clear hK K) | apply Rx.o ?_ | apply Rx.on ?_ | apply Rx.gu ?_ | (apply Rx.gd (fun hg hgp => ?_) (fun hg hgp => ?_) <;> try (cases hg; done)) | (apply Rx.cd (fun hb hbp => ?_) (fun hb hbp => ?_) <;> try (cases hb; done)) | apply Wp.seq ?_ | (apply Wp.ops' fun K hK => ?_) | (apply Rx.dT 7 [(3, 9), (5, 9), (7, 9), (8, 9)] fun K hK => ?_) | (apply Rx.dr 12 fun K hK => ?_) | (apply Rx.dr 20 fun K hK => ?_) | (apply Rx.nq ?_; try intro _) | (apply Rx.nt ?_ ?_ <;> clear hK K) | apply WpT.step ?_ | apply WpT.step0 rfl ?_ | apply Rx.gv ?_ | (apply Rx.gt (fun hg hgp => ?_) (fun hg hgp => ?_) <;> try (cases hg; done)) | apply Wp.block ?_ | apply Rx.sk ?_ | apply Rx.rt ?_ | apply Rx.xt ?_)
      have hF4 : H4.get (H2.next + 1) = some (.map (vEs [])) := by rw [hg4 _ (by omega) (by omega)]; exact hF3
      have hb14 : H4.get (H.next + 1) = some (.cells [.int .i64 0, .int .i64 0, .nilS, .int .i64 0] 0 true) := by rw [hg4 _ (by omega) (by omega)]; exact hb13
      refine Wp.loopN (fun i E H5 => ∃ m5, fnIx (p.funcs.drop i) i m5 = fnIx p.funcs 0 [] ∧ H5.get (H2.next + 1) = some (.map (vEs m5)) ∧ H4.next ≤ H5.next ∧ (∀ r, r < H4.next → r ≠ H2.next + 1 → H5.get r = H4.get r) ∧
        E.at 1 = .str nm ∧ E.at 2 = av ∧ E.at 4 = .ptr H.next 0 ∧ E.at 8 = .ptr (H.next + 1) 0 ∧ E.at 9 = .ptr (H2.next + 2) 0 ∧ E.at 53 = .lst (p.funcs.map Fu.cells) ∧ E.at 54 = .int .i64 p.funcs.length ∧ E.at 55 = .int .i64 i) p.funcs.length ?_ ?_
      · rintro i E H5 hi ⟨m5, hm5, hF5, hn5, hg5, k1, k2, k4, k8, k9, k53, k54, k55⟩
        repeat' (first
           | (apply Rx.nl ?_; clear hK K) | apply Rx.o ?_ | apply Rx.on ?_ | apply Rx.gu ?_ | (apply Rx.gd (fun hg hgp => ?_) (fun hg hgp => ?_) <;> try (cases hg; done)) | (apply Rx.cd (fun hb hbp => ?_) (fun hb hbp => ?_) <;> try (cases hb; done)) | apply Wp.seq ?_ | (apply Wp.ops' fun K hK => ?_) | (apply Rx.dT 7 [(3, 9), (5, 9), (7, 9), (8, 9)] fun K hK => ?_) | (apply Rx.dr 12 fun K hK => ?_) | (apply Rx.dr 20 fun K hK => ?_) | (apply Rx.nq ?_; try intro _) | (apply Rx.nt ?_ ?_ <;> clear hK K) | apply WpT.step ?_ | apply WpT.step0 rfl ?_ | apply Rx.gv ?_ | (apply Rx.gt (fun hg hgp => ?_) (fun hg hgp => ?_) <;> try (cases hg; done)) | apply Wp.block ?_ | apply Rx.sk ?_ | apply Rx.rt ?_ | apply Rx.xt ?_)
        · have hlt : i < p.funcs.length := by simpa using hb
          have hgx : p.funcs[i]? = some p.funcs[i] := List.getElem?_eq_getElem hlt
          rw [List.drop_eq_getElem_cons hlt] at hm5
          simp only [fnIx] at hm5
          repeat' (first
             | (apply Rx.nl ?_; clear hK K) | apply Rx.o ?_ | apply Rx.on ?_ | apply Rx.gu ?_ | (apply Rx.gd (fun hg hgp => ?_) (fun hg hgp => ?_) <;> try (cases hg; done)) | (apply Rx.cd (fun hb hbp => ?_) (fun hb hbp => ?_) <;> try (cases hb; done)) | apply Wp.seq ?_ | (apply Wp.ops' fun K hK => ?_) | (apply Rx.dT 7 [(3, 9), (5, 9), (7, 9), (8, 9)] fun K hK => ?_) | (apply Rx.dr 12 fun K hK => ?_) | (apply Rx.dr 20 fun K hK => ?_) | (apply Rx.nq ?_; try intro _) | (apply Rx.nt ?_ ?_ <;> clear hK K) | apply WpT.step ?_ | apply WpT.step0 rfl ?_ | apply Rx.gv ?_ | (apply Rx.gt (fun hg hgp => ?_) (fun hg hgp => ?_) <;> try (cases hg; done)) | apply Wp.block ?_ | apply Rx.sk ?_ | apply Rx.rt ?_ | apply Rx.xt ?_)
          generalize hH6 : Hp.set _ H5.next _ = H6
          have hn6 : H6.next = H5.next + 1 := by rw [← hH6]; rfl
          have hg6 : ∀ r, r < H5.next → H6.get r = H5.get r := fun r hr => by rw [← hH6, Hp.get_set, if_neg (by omega), Hp.get_alloc, if_neg (by omega)]
          have hb6 : H6.get H5.next = some (.cells p.funcs[i].cells 0 true) := by rw [← hH6, Hp.get_set, if_pos rfl]
          have hF6 : H6.get (H2.next + 1) = some (.map (vEs m5)) := by rw [hg6 _ (by omega)]; exact hF5
          have hm6 : H6.get (H2.next + 2) = some (.cells [.lst (p.arrays.map Ar.cells), .lst (p.funcs.map Fu.cells), .map H2.next, .map (H2.next + 1), .int .i64 fuel, .int .i64 0, .int .i64 0, .nilS] 0 true) := by
            rw [hg6 _ (by omega), hg5 _ (by omega) (by omega)]; exact hm4
          clear hH6
          have hu := upd_vEs (P := Try.prog) Try.underlying84 keyS hF6 p.funcs[i].name i
          repeat' (first
             | (apply Rx.nl ?_; clear hK K) | apply Rx.o ?_ | apply Rx.on ?_ | apply Rx.gu ?_ | (apply Rx.gd (fun hg hgp => ?_) (fun hg hgp => ?_) <;> try (cases hg; done)) | (apply Rx.cd (fun hb hbp => ?_) (fun hb hbp => ?_) <;> try (cases hb; done)) | apply Wp.seq ?_ | (apply Wp.ops' fun K hK => ?_) | (apply Rx.dT 7 [(3, 9), (5, 9), (7, 9), (8, 9)] fun K hK => ?_) | (apply Rx.dr 12 fun K hK => ?_) | (apply Rx.dr 20 fun K hK => ?_) | (apply Rx.nq ?_; try intro _) | (apply Rx.nt ?_ ?_ <;> clear hK K) | apply WpT.step ?_ | apply WpT.step0 rfl ?_ | apply Rx.gv ?_ | (apply Rx.gt (fun hg hgp => ?_) (fun hg hgp => ?_) <;> try (cases hg; done)) | apply Wp.block ?_ | apply Rx.sk ?_ | apply Rx.rt ?_ | apply Rx.xt ?_)
          refine ⟨hlt, _, hm5, by rw [Hp.get_set, if_pos rfl], by simp only [Hp.next_set]; omega, fun r h1 h2 => ?_, eE, eE, eE, eE, eE, eE, eE, ?_⟩
          · rw [Hp.get_set, if_neg h2, hg6 _ (by omega)]; exact hg5 r h1 h2
          · simp only [at_set, Nat.reduceBEq, cond_true, wrap_succ (show i < 2 ^ 62 by omega)]
        · have hia : p.funcs.length ≤ i := by simp at hb; omega
          rw [List.drop_of_length_le hia] at hm5
          simp only [fnIx] at hm5
          subst hm5
          clear hb hbp hia hi k55 k53 k54
          have hm5 : H5.get (H2.next + 2) = some (.cells [.lst (p.arrays.map Ar.cells), .lst (p.funcs.map Fu.cells), .map H2.next, .map (H2.next + 1), .int .i64 fuel, .int .i64 0, .int .i64 0, .nilS] 0 true) := by
            rw [hg5 _ (by omega) (by omega)]; exact hm4
          have hb05 : H5.get H.next = some (.cells p.cells 0 true) := by rw [hg5 _ (by omega) (by omega)]; exact hb04
          have hb15 : H5.get (H.next + 1) = some (.cells [.int .i64 0, .int .i64 0, .nilS, .int .i64 0] 0 true) := by rw [hg5 _ (by omega) (by omega)]; exact hb14
          have hrange : ∀ r ∈ rs, H3.next ≤ r ∧ r < H4.next := hrb
          have hR5 : RepM ⟨p, H2.next + 2, H2.next, H2.next + 1, rs, fnIx p.funcs 0 []⟩ H5 (startM p fuel) .nilS := {
            m := hm5
            c := by show H5.get H2.next = _; rw [hg5 _ (by omega) (by omega)]; exact hrc
            f := hF5
            len := by simp [startM, zeroC, hrl2]
            cell := fun j r nm l h1 h2 => by
              have hrm := hrange r (List.mem_of_getElem? h1)
              rw [hg5 _ (by omega) (by omega)]; exact hrg j r nm l h1 h2
            out := .inl ⟨rfl, rfl⟩
            lm := by show H2.next + 2 < H5.next; omega
            lc := by show H2.next < H5.next; omega
            lf := by show H2.next + 1 < H5.next; omega
            ls := fun r hr => by have := hrange r hr; omega
            mc' := by show H2.next + 2 ≠ H2.next; omega
            mf := by show H2.next + 2 ≠ H2.next + 1; omega
            ms := fun hr => by have := hrange _ hr; simp only [] at this; omega
            cf := by show H2.next ≠ H2.next + 1; omega
            cs := fun hr => by have := hrange _ hr; simp only [] at this; omega
            fs := fun hr => by have := hrange _ hr; simp only [] at this; omega
            nd := hrn }
          have hlk := look_ok (P := Try.prog) Try.underlying84 keyS (show zeroV Try.prog 3 = some (.int .i64 0) by kernel_rfl) hF5 nm
          rw [hhas] at hlk
          have hx0 : Ab.extract (.tup [.int .i64 (lkV (fnIx p.funcs 0 []) nm), .bool true]) 0 = some (.int .i64 (lkV (fnIx p.funcs 0 []) nm)) := rfl
          have hx1 : Ab.extract (.tup [.int .i64 (lkV (fnIx p.funcs 0 []) nm), .bool true]) 1 = some (.bool true) := rfl
          have hlen : ∀ H', lenAt Try.prog H' 52 av = _ := fun H' => hav.len Try.underlying52
          have hold : ∀ r, r < H.next → H5.get r = H.get r := fun r hr => by
            rw [hg5 _ (by omega) (by omega), hg4 _ (by omega) (by omega), hg3 _ (by omega), hg2 _ hr]
          repeat' (first
             | (apply Rx.nl ?_; clear hK K) | apply Ry.o ?_ | apply Ry.on ?_ | apply Ry.gu ?_ | (apply Ry.gd (fun hg hgp => ?_) (fun hg hgp => ?_) <;> try (cases hg; done)) | (apply Ry.cd (fun hb hbp => ?_) (fun hb hbp => ?_) <;> try (cases hb; done)) | apply Wp.seq ?_ | (apply Wp.ops' fun K hK => ?_) | (apply Rx.dT 7 [(3, 9), (5, 9), (7, 9), (8, 9)] fun K hK => ?_) | (apply Rx.dr 12 fun K hK => ?_) | (apply Rx.dr 20 fun K hK => ?_) | (apply Rx.nq ?_; try intro _) | (apply Rx.nt ?_ ?_ <;> clear hK K) | apply WpT.step ?_ | apply WpT.step0 rfl ?_ | apply Ry.gv ?_ | (apply Ry.gt (fun hg hgp => ?_) (fun hg hgp => ?_) <;> try (cases hg; done)) | apply Wp.block ?_ | apply Rx.sk ?_ | apply Rx.rt ?_ | apply Rx.xt ?_)
          refine WpL.call rfl eVk eAk ?_; simp only [List.cons_append, List.nil_append, List.append_nil]
          have hav5 : ArgsV H5 av al := hav.mono fun r hr => hold r (halt r hr)
          refine WpCall.mono ?_ ((all_wp hS ⟨p, H2.next + 2, H2.next, H2.next + 1, rs, fnIx p.funcs 0 []⟩ hz n).2.2 _ al _ r hc ho hal av .nilS H5 hR5 hav5 (fun b hb => by have := halt b hb; omega))
          rintro v H6 ⟨rfl, ov6, hR6, hf6⟩
          have hn6 := hf6.next
          have nown : ∀ r, r < H2.next → ¬ Mx.own ⟨p, H2.next + 2, H2.next, H2.next + 1, rs, fnIx p.funcs 0 []⟩ r := fun r hr e => by
            rcases e with e | e
            · simp only [] at e; omega
            · have := hrange r e; omega
          have nout : ∀ r, ¬ outB .nilS r := fun r ⟨k, e⟩ => by simp at e
          have hg6 : ∀ r, r < H2.next → H6.get r = H5.get r := fun r hr => hf6.get r (by omega) (nown r hr) (nout r) (fun e => e)
          have hb16 : H6.get (H.next + 1) = some (.cells [.int .i64 0, .int .i64 0, .nilS, .int .i64 0] 0 true) := by rw [hg6 _ (by omega)]; exact hb15
          have m6 := hR6.m
          unfold mc at m6
          simp only [] at m6
          have hbox : ∀ (b : HB), FrB 0 H (H6.set (H.next + 1) b) := fun b => ⟨by show H.next ≤ H6.next; omega, fun r _ hr => by
            rw [Hp.get_set, if_neg (by omega), hg6 _ (by omega)]; exact hold r hr⟩
          have hints : ∀ (b : HB), IntsR (H6.set (H.next + 1) b) ov6 r.2.out := fun b => by
            rcases hR6.out with ⟨h1, h2⟩ | ⟨ro, h1, h2, h3, h4, h5, h6⟩
            · exact .inl ⟨h1, h2⟩
            · refine .inr ⟨ro, h1, ?_⟩
              rcases hf6.out ro ⟨_, h1⟩ with e | e
              · exact (nout _ e).elim
              · rw [Hp.get_set, if_neg (by omega)]; exact h2
          have hblt : ∀ k, slB ov6 k → k < H6.next := fun k ⟨o, n, z, e⟩ => by
            rcases hR6.out with ⟨h1, _⟩ | ⟨ro, h1, h2, h3, _⟩
            · rw [h1] at e; simp at e
            · rw [h1] at e; simp only [AV.sl.injEq] at e; omega
          have hov : ov6 = .nilS ∨ ∃ r o n z, ov6 = .sl r o n z := by
            rcases hR6.out with ⟨h1, h2⟩ | ⟨ro, h1, _⟩
            · exact .inl h1
            · exact .inr ⟨_, _, _, _, h1⟩
          dsimp only [setO]
          by_cases h2f : r.2.fin = 2
          · have he : endM r = ⟨2, r.2.code, r.2.out, 0⟩ := by simp only [endM, h2f, if_true]
            rcases hov with rfl | ⟨ro, oo, no, zo, rfl⟩
            · have gh0 := @bldT
              repeat' (first
                 | (apply Rx.nl ?_; clear hK K) | apply Ry.o ?_ | apply Ry.on ?_ | apply Ry.gu ?_ | (apply Ry.gd (fun hg hgp => ?_) (fun hg hgp => ?_) <;> try (cases hg; done)) | (apply Ry.cd (fun hb hbp => ?_) (fun hb hbp => ?_) <;> try (cases hb; done)) | apply Wp.seq ?_ | (apply Wp.ops' fun K hK => ?_) | (apply Rx.dT 7 [(3, 9), (5, 9), (7, 9), (8, 9)] fun K hK => ?_) | (apply Rx.dr 12 fun K hK => ?_) | (apply Rx.dr 20 fun K hK => ?_) | (apply Rx.nq ?_; try intro _) | (apply Rx.nt ?_ ?_ <;> clear hK K) | apply WpT.step ?_ | apply WpT.step0 rfl ?_ | apply Ry.gv ?_ | (apply Ry.gt (fun hg hgp => ?_) (fun hg hgp => ?_) <;> try (cases hg; done)) | apply Wp.block ?_ | apply Rx.sk ?_ | apply Rx.rt ?_ | apply Rx.xt ?_)
              refine ⟨eI, _, (by (try simp only [sB, sO, Nat.reduceBEq, Nat.reduceAdd, Nat.reduceLeDiff, tyF, resultsA, resultA, agg4, *]); first | done | with_reducible rfl), ?_⟩; try simp only [oneOr]
              exact ⟨by rw [he]; exact ⟨_, rfl, hints _, hblt⟩, hbox _⟩
            · have gh0 := @bldT'
              repeat' (first
                 | (apply Rx.nl ?_; clear hK K) | apply Ry.o ?_ | apply Ry.on ?_ | apply Ry.gu ?_ | (apply Ry.gd (fun hg hgp => ?_) (fun hg hgp => ?_) <;> try (cases hg; done)) | (apply Ry.cd (fun hb hbp => ?_) (fun hb hbp => ?_) <;> try (cases hb; done)) | apply Wp.seq ?_ | (apply Wp.ops' fun K hK => ?_) | (apply Rx.dT 7 [(3, 9), (5, 9), (7, 9), (8, 9)] fun K hK => ?_) | (apply Rx.dr 12 fun K hK => ?_) | (apply Rx.dr 20 fun K hK => ?_) | (apply Rx.nq ?_; try intro _) | (apply Rx.nt ?_ ?_ <;> clear hK K) | apply WpT.step ?_ | apply WpT.step0 rfl ?_ | apply Ry.gv ?_ | (apply Ry.gt (fun hg hgp => ?_) (fun hg hgp => ?_) <;> try (cases hg; done)) | apply Wp.block ?_ | apply Rx.sk ?_ | apply Rx.rt ?_ | apply Rx.xt ?_)
              refine ⟨eI, _, (by (try simp only [sB, sO, Nat.reduceBEq, Nat.reduceAdd, Nat.reduceLeDiff, tyF, resultsA, resultA, agg4, *]); first | done | with_reducible rfl), ?_⟩; try simp only [oneOr]
              exact ⟨by rw [he]; exact ⟨_, rfl, hints _, hblt⟩, hbox _⟩
          · by_cases h3f : r.2.fin = 3
            · have he : endM r = ⟨3, 0, r.2.out, 0⟩ := by simp only [endM, h3f]; rfl
              rcases hov with rfl | ⟨ro, oo, no, zo, rfl⟩
              · have gh0 := @bldF
                repeat' (first
                   | (apply Rx.nl ?_; clear hK K) | apply Ry.o ?_ | apply Ry.on ?_ | apply Ry.gu ?_ | (apply Ry.gd (fun hg hgp => ?_) (fun hg hgp => ?_) <;> try (cases hg; done)) | (apply Ry.cd (fun hb hbp => ?_) (fun hb hbp => ?_) <;> try (cases hb; done)) | apply Wp.seq ?_ | (apply Wp.ops' fun K hK => ?_) | (apply Rx.dT 7 [(3, 9), (5, 9), (7, 9), (8, 9)] fun K hK => ?_) | (apply Rx.dr 12 fun K hK => ?_) | (apply Rx.dr 20 fun K hK => ?_) | (apply Rx.nq ?_; try intro _) | (apply Rx.nt ?_ ?_ <;> clear hK K) | apply WpT.step ?_ | apply WpT.step0 rfl ?_ | apply Ry.gv ?_ | (apply Ry.gt (fun hg hgp => ?_) (fun hg hgp => ?_) <;> try (cases hg; done)) | apply Wp.block ?_ | apply Rx.sk ?_ | apply Rx.rt ?_ | apply Rx.xt ?_)
                refine ⟨eI, _, (by (try simp only [sB, sO, Nat.reduceBEq, Nat.reduceAdd, Nat.reduceLeDiff, tyF, resultsA, resultA, agg4, *]); first | done | with_reducible rfl), ?_⟩; try simp only [oneOr]
                exact ⟨by rw [he]; exact ⟨_, rfl, hints _, hblt⟩, hbox _⟩
              · have gh0 := @bldF'
                repeat' (first
                   | (apply Rx.nl ?_; clear hK K) | apply Ry.o ?_ | apply Ry.on ?_ | apply Ry.gu ?_ | (apply Ry.gd (fun hg hgp => ?_) (fun hg hgp => ?_) <;> try (cases hg; done)) | (apply Ry.cd (fun hb hbp => ?_) (fun hb hbp => ?_) <;> try (cases hb; done)) | apply Wp.seq ?_ | (apply Wp.ops' fun K hK => ?_) | (apply Rx.dT 7 [(3, 9), (5, 9), (7, 9), (8, 9)] fun K hK => ?_) | (apply Rx.dr 12 fun K hK => ?_) | (apply Rx.dr 20 fun K hK => ?_) | (apply Rx.nq ?_; try intro _) | (apply Rx.nt ?_ ?_ <;> clear hK K) | apply WpT.step ?_ | apply WpT.step0 rfl ?_ | apply Ry.gv ?_ | (apply Ry.gt (fun hg hgp => ?_) (fun hg hgp => ?_) <;> try (cases hg; done)) | apply Wp.block ?_ | apply Rx.sk ?_ | apply Rx.rt ?_ | apply Rx.xt ?_)
                refine ⟨eI, _, (by (try simp only [sB, sO, Nat.reduceBEq, Nat.reduceAdd, Nat.reduceLeDiff, tyF, resultsA, resultA, agg4, *]); first | done | with_reducible rfl), ?_⟩; try simp only [oneOr]
                exact ⟨by rw [he]; exact ⟨_, rfl, hints _, hblt⟩, hbox _⟩
            · have he : endM r = ⟨1, 0, r.2.out, r.1⟩ := by simp only [endM, h2f, h3f, if_false]
              rcases hov with rfl | ⟨ro, oo, no, zo, rfl⟩
              · have gh0 := @bldR
                repeat' (first
                   | (apply Rx.nl ?_; clear hK K) | apply Ry.o ?_ | apply Ry.on ?_ | apply Ry.gu ?_ | (apply Ry.gd (fun hg hgp => ?_) (fun hg hgp => ?_) <;> try (cases hg; done)) | (apply Ry.cd (fun hb hbp => ?_) (fun hb hbp => ?_) <;> try (cases hb; done)) | apply Wp.seq ?_ | (apply Wp.ops' fun K hK => ?_) | (apply Rx.dT 7 [(3, 9), (5, 9), (7, 9), (8, 9)] fun K hK => ?_) | (apply Rx.dr 12 fun K hK => ?_) | (apply Rx.dr 20 fun K hK => ?_) | (apply Rx.nq ?_; try intro _) | (apply Rx.nt ?_ ?_ <;> clear hK K) | apply WpT.step ?_ | apply WpT.step0 rfl ?_ | apply Ry.gv ?_ | (apply Ry.gt (fun hg hgp => ?_) (fun hg hgp => ?_) <;> try (cases hg; done)) | apply Wp.block ?_ | apply Rx.sk ?_ | apply Rx.rt ?_ | apply Rx.xt ?_)
                refine ⟨eI, _, (by (try simp only [sB, sO, Nat.reduceBEq, Nat.reduceAdd, Nat.reduceLeDiff, tyF, resultsA, resultA, agg4, *]); first | done | with_reducible rfl), ?_⟩; try simp only [oneOr]
                exact ⟨by rw [he]; exact ⟨_, rfl, hints _, hblt⟩, hbox _⟩
              · have gh0 := @bldR'
                repeat' (first
                   | (apply Rx.nl ?_; clear hK K) | apply Ry.o ?_ | apply Ry.on ?_ | apply Ry.gu ?_ | (apply Ry.gd (fun hg hgp => ?_) (fun hg hgp => ?_) <;> try (cases hg; done)) | (apply Ry.cd (fun hb hbp => ?_) (fun hb hbp => ?_) <;> try (cases hb; done)) | apply Wp.seq ?_ | (apply Wp.ops' fun K hK => ?_) | (apply Rx.dT 7 [(3, 9), (5, 9), (7, 9), (8, 9)] fun K hK => ?_) | (apply Rx.dr 12 fun K hK => ?_) | (apply Rx.dr 20 fun K hK => ?_) | (apply Rx.nq ?_; try intro _) | (apply Rx.nt ?_ ?_ <;> clear hK K) | apply WpT.step ?_ | apply WpT.step0 rfl ?_ | apply Ry.gv ?_ | (apply Ry.gt (fun hg hgp => ?_) (fun hg hgp => ?_) <;> try (cases hg; done)) | apply Wp.block ?_ | apply Rx.sk ?_ | apply Rx.rt ?_ | apply Rx.xt ?_)
                refine ⟨eI, _, (by (try simp only [sB, sO, Nat.reduceBEq, Nat.reduceAdd, Nat.reduceLeDiff, tyF, resultsA, resultA, agg4, *]); first | done | with_reducible rfl), ?_⟩; try simp only [oneOr]
                exact ⟨by rw [he]; exact ⟨_, rfl, hints _, hblt⟩, hbox _⟩
      · exact ⟨[], rfl, hF4, Nat.le_refl _, fun _ _ _ => rfl, eE, eE, eE, eE, eE, eE, eE, eE⟩
  · refine ⟨[], rfl, List.nodup_nil, fun r hr => by simp at hr, hc3, fun j r nm l h1 h2 => by simp at h1, Nat.le_refl _, fun _ _ _ => rfl, eE, eE, eE, eE, eE, eE, eE, eE⟩
end Go.Proofs.Ytjkmbpieknaekaa
namespace Go.Proofs.Ytjkmbpieknaekaa
set_option maxRecDepth 20000
set_option linter.unusedSimpArgs false
set_option linter.unusedVariables false
set_option linter.unusedSectionVars false
set_option linter.defProp false
set_option maxRecDepth 20000
open Go Go.Ab
namespace tyP4e
def tyF := And.intro @tq3 (And.intro @tq9 (And.intro @tq22 (And.intro @tq23 (And.intro @tq25 (And.intro @tq35 (And.intro @tq36 (And.intro @tq39 (And.intro @tq41 (And.intro @tq142 (And.intro @tq44 (And.intro @tq112 (@bsS1))))))))))))
end tyP4e
open tyP4e
noncomputable def code63 : { c : SC // slim 28 (Try.f63.body.getD .skip) = c } := by
  refine ⟨?_, ?_⟩
  rotate_left
  · simp only [Try.f63, Option.getD_some, slim, slimR, slimL, slimD, slimG, Nat.blt, Nat.ble]
    rfl
noncomputable def code62 : { c : SC // slim 38 (Try.f62.body.getD .skip) = c } := by
  refine ⟨?_, ?_⟩
  rotate_left
  · simp only [Try.f62, Option.getD_some, slim, slimR, slimL, slimD, slimG, Nat.blt, Nat.ble]
    rfl
noncomputable def code33 : { c : SC // slim 35 (Try.f33.body.getD .skip) = c } := by
  refine ⟨?_, ?_⟩
  rotate_left
  · simp only [Try.f33, Option.getD_some, slim, slimR, slimL, slimD, slimG, Nat.blt, Nat.ble]
    rfl
def bEs (l : List (List UInt8)) : List (AV × AV) := l.map fun s => (.str s, .bool true)
def addS (l : List (List UInt8)) (s : List UInt8) : List (List UInt8) := if hasS l s = true then l else l ++ [s]
theorem find_bEs (s : List UInt8) : ∀ (l : List (List UInt8)) (i : Nat), (hasS l s = false → findA .string (.str s) (bEs l) i = some none) ∧ (hasS l s = true → ∃ j, findA .string (.str s) (bEs l) i = some (some (i + j, .bool true)) ∧ (bEs l).set j (.str s, .bool true) = bEs l)
  | [], i => ⟨fun _ => rfl, fun h => by simp [hasS] at h⟩
  | a :: l, i => by
    have hh : hasS (a :: l) s = (decide (s = a) || hasS l s) := by rw [show a :: l = [a] ++ l from rfl, hasS_append, hasS_one]
    by_cases h : s = a
    · subst h
      rw [hh, decide_eq_true rfl, Bool.true_or]
      refine ⟨fun h => by simp at h, fun _ => ⟨0, ?_, ?_⟩⟩
      · simp [bEs, findA, keyA]
      · simp [bEs]
    · have hf : findA .string (.str s) (bEs (a :: l)) i = findA .string (.str s) (bEs l) (i + 1) := by
        show findA .string (.str s) ((.str a, .bool true) :: bEs l) i = _
        have : (s == a) = false := by simpa using h
        simp [findA, keyA, this]
      rw [hh, decide_eq_false h, Bool.false_or, hf]
      obtain ⟨g1, g2⟩ := find_bEs s l (i + 1)
      refine ⟨g1, fun q => ?_⟩
      obtain ⟨j, g3, g4⟩ := g2 q
      exact ⟨j + 1, by rw [g3, show i + 1 + j = i + (j + 1) by omega], by show (AV.str a, AV.bool true) :: (bEs l).set j _ = _; rw [g4]; rfl⟩
theorem look_bEs {H : Hp} {r : Nat} {l : List (List UInt8)} (hg : H.get r = some (.map (bEs l))) (s : List UInt8) : lookupA Try.prog H 112 (.map r) (.str s) false = some (.bool (hasS l s)) := by
  obtain ⟨l1, l2⟩ := lookup_map (P := Try.prog) (H := H) (t := 112) (nm := s) (z := .bool false) Try.underlying112 (by kernel_rfl) (by kernel_rfl) hg
  cases h : hasS l s with
  | false => rw [l1 ((find_bEs s l 0).1 h)]
  | true => obtain ⟨j, h1, h2⟩ := (find_bEs s l 0).2 h; rw [l2 _ _ h1]
theorem upd_bEs {H : Hp} {r : Nat} {l : List (List UInt8)} (hg : H.get r = some (.map (bEs l))) (s : List UInt8) : mapUpdateA Try.prog H 112 (.map r) (.str s) (.bool true) = some (H.set r (.map (bEs (addS l s)))) := by
  obtain ⟨l1, l2⟩ := update_map (P := Try.prog) (H := H) (t := 112) (nm := s) (x := .bool true) Try.underlying112 (by kernel_rfl) hg
  cases h : hasS l s with
  | false => rw [l1 ((find_bEs s l 0).1 h), addS, h]; simp [bEs]
  | true => obtain ⟨j, h1, h2⟩ := (find_bEs s l 0).2 h; rw [l2 _ _ h1, Nat.zero_add, h2, addS, if_pos h]
def rwE (x : List (List (List UInt8))) : List AV := [.lst (x.map fun l => [lstS l])]
theorem rwE_inj (x y : List (List (List UInt8))) (h : rwE x = rwE y) : x = y := by
  simp only [rwE, List.cons.injEq, AV.lst.injEq, and_true] at h
  exact map_inj (fun a _ b e => by simp only [List.cons.injEq, AV.lst.injEq, and_true] at e; exact strs_inj e) h
def rwOk (x : List (List (List UInt8))) : Prop := x.length < 2 ^ 60 ∧ ∀ l ∈ x, l.length < 2 ^ 60
theorem rw_pure (x : List (List (List UInt8))) : PureA (.lst (x.map fun l => [lstS l])) := .map fun l _ => .cons (strs_pure l) .nil
set_option maxHeartbeats 8000000 in
theorem hasDup_con (ρ : Nat → Int) (x : List (List (List UInt8))) (hx : rwOk x) : Con Try.prog ρ 63 (rwE x) (.bool (dupFrom [] x.flatten)) := Con.lev fit (pls := pls) (l := []) trivial (.cons (rw_pure x) .nil) (.bool _) (by
  have hw := plain0 63
  obtain ⟨hx1, hx2⟩ := hx
  rw [rwE]
  refine WpCall.slim (M := 28) (rs := [.tmp 2]) (hw.call _) hw.ice hw.froz Try.func63 rfl rfl code63.2 rfl ?_; dsimp only [code63, envOf, Nat.reduceAdd]
  repeat' (first
     | (apply Rx.nl ?_; clear hK K) | apply Rx.o ?_ | apply Rx.on ?_ | (apply Rx.cd (fun hb hbp => ?_) (fun hb hbp => ?_) <;> try (cases hb; done)) | apply Wp.seq ?_ | (apply Wp.ops' fun K hK => ?_) | apply Wp.block ?_ | apply Rx.sk ?_ | apply Rx.rt ?_ | apply Rx.xt ?_)
  refine Wp.forI [3, 9, 10] [] 11 x.length (fun i E H => ∃ seen, H.get 0 = some (.map (bEs seen)) ∧ dupFrom [] x.flatten = dupFrom seen (x.drop i).flatten) eE ⟨[], by rw [Hp.get_alloc, if_pos (by rfl)]; rfl, rfl⟩ ?_
  rintro i E H2 hi hcE hrH hnH hsI ⟨seen, hm, hJ⟩
  (try simp only [forall_cons, forall_nil, and_true, sB, sO, Nat.reduceBEq, Nat.reduceAdd, Nat.reduceLeDiff, tyF, *] at hcE)
  (try simp only [forall_cons, forall_nil, and_true, sB, sO, Nat.reduceBEq, Nat.reduceAdd, Nat.reduceLeDiff, tyF, *] at hrH)
  (try simp only [Hp.next_alloc, Hp.next_set, H0_next, Nat.zero_add, Nat.reduceAdd] at hnH)
  repeat' (first
     | (apply Rx.nl ?_; clear hK K) | apply Rx.o ?_ | apply Rx.on ?_ | (apply Rx.cd (fun hb hbp => ?_) (fun hb hbp => ?_) <;> try (cases hb; done)) | apply Wp.seq ?_ | (apply Wp.ops' fun K hK => ?_) | apply Wp.block ?_ | apply Rx.sk ?_ | apply Rx.rt ?_ | apply Rx.xt ?_)
  · have hlt : i < x.length := by simpa using hb
    have hgx : x[i]? = some x[i] := List.getElem?_eq_getElem hlt
    have hsm := hx2 _ (List.getElem_mem hlt)
    have hdr : (x.drop i).flatten = x[i] ++ (x.drop (i + 1)).flatten := by rw [List.drop_eq_getElem_cons hlt, List.flatten_cons]
    rw [hdr] at hJ
    clear hdr
    generalize x[i] = row at *
    repeat' (first
       | (apply Rx.nl ?_; clear hK K) | apply Rx.o ?_ | apply Rx.on ?_ | (apply Rx.cd (fun hb hbp => ?_) (fun hb hbp => ?_) <;> try (cases hb; done)) | apply Wp.seq ?_ | (apply Wp.ops' fun K hK => ?_) | apply Wp.block ?_ | apply Rx.sk ?_ | apply Rx.rt ?_ | apply Rx.xt ?_)
    refine Wp.forI [3, 9, 10, 11, 15, 16] [] 17 row.length (fun j E H => ∃ seen, H.get 0 = some (.map (bEs seen)) ∧ dupFrom [] x.flatten = dupFrom seen (row.drop j ++ (x.drop (i + 1)).flatten)) eE ⟨seen, hm, hJ⟩ ?_
    clear hm hJ seen
    rintro j E3 H3 hj hcE hrH hnH hsI ⟨seen, hm, hJ⟩
    (try simp only [forall_cons, forall_nil, and_true, sB, sO, Nat.reduceBEq, Nat.reduceAdd, Nat.reduceLeDiff, tyF, *] at hcE)
    (try simp only [forall_cons, forall_nil, and_true, sB, sO, Nat.reduceBEq, Nat.reduceAdd, Nat.reduceLeDiff, tyF, *] at hrH)
    (try simp only [Hp.next_alloc, Hp.next_set, H0_next, Nat.zero_add, Nat.reduceAdd] at hnH)
    repeat' (first
       | (apply Rx.nl ?_; clear hK K) | apply Rx.o ?_ | apply Rx.on ?_ | (apply Rx.cd (fun hb hbp => ?_) (fun hb hbp => ?_) <;> try (cases hb; done)) | apply Wp.seq ?_ | (apply Wp.ops' fun K hK => ?_) | apply Wp.block ?_ | apply Rx.sk ?_ | apply Rx.rt ?_ | apply Rx.xt ?_)
    · have hlt2 : j < row.length := by simpa using hb
      have hgx2 : row[j]? = some row[j] := List.getElem?_eq_getElem hlt2
      have hdr : dupFrom seen (row.drop j ++ (x.drop (i + 1)).flatten) = (hasS seen row[j] || dupFrom (seen ++ [row[j]]) (row.drop (j + 1) ++ (x.drop (i + 1)).flatten)) := by rw [List.drop_eq_getElem_cons hlt2]; rfl
      have hlk := look_bEs hm row[j]
      have hup := upd_bEs hm row[j]
      repeat' (first
         | (apply Rx.nl ?_; clear hK K) | apply Rx.o ?_ | apply Rx.on ?_ | (apply Rx.cd (fun hb hbp => ?_) (fun hb hbp => ?_) <;> try (cases hb; done)) | apply Wp.seq ?_ | (apply Wp.ops' fun K hK => ?_) | apply Wp.block ?_ | apply Rx.sk ?_ | apply Rx.rt ?_ | apply Rx.xt ?_)
      · all_goals (refine ⟨eI, _, eR, ?_⟩; try simp only [oneOr])
        rw [hJ, hdr]; (try simp only [Bool.not_eq_true', Bool.not_eq_false'] at *); simp only [*, decide_true, decide_false, Bool.false_or, Bool.or_false, Bool.true_or, Bool.or_true, Bool.false_and, Bool.and_false, Bool.true_and, Bool.and_true, Bool.not_true, Bool.not_false, if_true, if_false, Int.reduceEq]
      · refine ⟨by omega, eL, eL, eN, (by simp only [sB, Nat.reduceBEq, *]; exact i64_succ (n := row.length) (by omega) (by omega)), ?_⟩
        refine ⟨addS seen row[j], by rw [Hp.get_set, if_pos (by rfl)], ?_⟩
        rw [hJ, hdr, addS]; (try simp only [Bool.not_eq_true', Bool.not_eq_false'] at *); simp only [*, decide_true, decide_false, Bool.false_or, Bool.or_false, Bool.true_or, Bool.or_true, Bool.false_and, Bool.and_false, Bool.true_and, Bool.and_true, Bool.not_true, Bool.not_false, if_true, if_false, Int.reduceEq]; rfl
    · have hje : j = row.length := by simp at hb; omega
      repeat' (first
         | (apply Rx.nl ?_; clear hK K) | apply Rx.o ?_ | apply Rx.on ?_ | (apply Rx.cd (fun hb hbp => ?_) (fun hb hbp => ?_) <;> try (cases hb; done)) | apply Wp.seq ?_ | (apply Wp.ops' fun K hK => ?_) | apply Wp.block ?_ | apply Rx.sk ?_ | apply Rx.rt ?_ | apply Rx.xt ?_)
      refine ⟨by omega, eL, eL, eN, (by simp only [sB, Nat.reduceBEq, *]; exact i64_succ (n := x.length) (by omega) (by omega)), ?_⟩
      exact ⟨seen, hm, by rw [hJ, hje, List.drop_length, List.nil_append]⟩
  · all_goals (refine ⟨eI, _, eR, ?_⟩; try simp only [oneOr])
    have hie : i = x.length := by simp at hb; omega
    rw [hJ, hie, List.drop_length]; rfl)
def nlS (l : List (List UInt8)) : AV := if l = [] then .nilS else lstS l
def StrX (H : Hp) (v : AV) (l : List (List UInt8)) (lo : Nat) : Prop := (v = .nilS ∧ l = []) ∨ (l ≠ [] ∧ StrB H v l lo)
theorem StrX.n {H : Hp} {v : AV} {l : List (List UInt8)} {lo : Nat} (h : StrX H v l lo) : StrN H v l lo := h.imp id fun h => h.2
theorem StrX.keep {H H' : Hp} {v : AV} {l : List (List UInt8)} {lo : Nat} (h : StrX H v l lo) (hn : H.next ≤ H'.next) (hg : ∀ k, ownS v k → H'.get k = H.get k) : StrX H' v l lo := h.imp id fun h => ⟨h.1, h.2.keep hn hg⟩
theorem iceL_strs (H : Hp) (n : Nat) : ∀ l : List (List UInt8), iceL (iceV H (n + 1)) (l.map .str) = some (l.map .str)
  | [] => rfl
  | a :: l => by
    have := iceL_strs H n l
    have e : iceV H (n + 1) (.str a) = some (.str a) := rfl
    simp only [List.map_cons, iceL, e, this]
theorem StrX.iceV {H : Hp} {v : AV} {l : List (List UInt8)} {lo : Nat} (h : StrX H v l lo) (n : Nat) : iceV H (n + 2) v = some (nlS l) := by
  rcases h with ⟨rfl, rfl⟩ | ⟨h0, r, imm, rfl, h2, _⟩
  · rfl
  · have e : Ab.iceV H (n + 2) (.sl r 0 l.length 1) = match H.get r with
      | some (.cells cs _ _) => match iceL (Ab.iceV H (n + 1)) ((cs.drop 0).take (l.length * 1)) with
        | some l' => if l'.length = l.length * 1 then some (.lst (chunk 1 l.length l')) else none
        | none => none
      | _ => none := rfl
    rw [e, h2]
    simp only [List.drop_zero, Nat.mul_one]
    rw [List.take_of_length_le (by simp), iceL_strs]
    simp only [List.length_map, if_true, chunk_one]
    rw [nlS, if_neg h0]
theorem wk_nlS (n : Nat) (l : List (List UInt8)) : wkN (n + 2) (nlS l) = lstS l := by
  unfold nlS
  split
  · rename_i h; subst h; rfl
  · show AV.lst ((l.map fun s => [AV.str s]).map fun row => row.map (wkN (n + 1))) = _
    rw [List.map_map]; rfl
set_option maxRecDepth 100000 in
set_option maxHeartbeats 8000000 in
theorem declared_con (ρ : Nat → Int) (p : Pr) (hz : p.sz < 2 ^ 36) : Con Try.prog ρ 62 (prE p) (.tup [lstS (arNames p), lstS (fnNms p)]) := Con.wk' (n := 3) (Con.of_made (r := .tup [nlS (arNames p), nlS (fnNms p)]) (m := 3) (cfg := cfgN pls []) fit (noDec ρ) (fun f args r h => by simp [cfgN, lookN] at h) (.cons (.agg p.pure) .nil) (by
  have hw := plain0 62
  have hkeep : (cfgN pls []).keep 62 = false := rfl
  have hpz : p.sz = 1 + arrsSz p.arrays + fnsSz p.funcs := rfl
  have hla := arrsSz_len p.arrays
  have hlf := fnsSz_len p.funcs
  rw [prE]
  refine WpCall.slim (M := 38) (rs := [.tmp 2, .tmp 3]) (hw.call _) hw.ice hw.froz Try.func62 rfl rfl code62.2 rfl ?_; dsimp only [code62, envOf, Nat.reduceAdd]
  repeat' (first
     | (apply Rx.nl ?_; clear hK K) | apply Rx.o ?_ | apply Rx.on ?_ | (apply Rx.cd (fun hb hbp => ?_) (fun hb hbp => ?_) <;> try (cases hb; done)) | apply Wp.seq ?_ | (apply Wp.ops' fun K hK => ?_) | apply Wp.block ?_ | apply Rx.sk ?_ | apply Rx.rt ?_ | apply Rx.xt ?_)
  refine Wp.forI [1, 2, 3, 5, 11, 12] [0] 13 p.arrays.length (fun i E H => ∃ v, E.at 4 = v ∧ StrX H v ((arNames p).take i) 1) eE ⟨.nilS, eE, .inl ⟨rfl, rfl⟩⟩ ?_
  rintro i E H2 hi hcE hrH hnH hsI ⟨v, k4, hv⟩
  (try simp only [forall_cons, forall_nil, and_true, sB, sO, Nat.reduceBEq, Nat.reduceAdd, Nat.reduceLeDiff, tyF, *] at hcE)
  (try simp only [forall_cons, forall_nil, and_true, sB, sO, Nat.reduceBEq, Nat.reduceAdd, Nat.reduceLeDiff, tyF, *] at hrH)
  (try simp only [Hp.next_alloc, Hp.next_set, H0_next, Nat.zero_add, Nat.reduceAdd] at hnH)
  have hB0 : (0 == H2.next) = false := ne_beq (by omega)
  have hC0 : (H2.next == 0) = false := ne_beq (by omega)
  repeat' (first
     | (apply Rx.nl ?_; clear hK K) | apply Rx.o ?_ | apply Rx.on ?_ | (apply Rx.cd (fun hb hbp => ?_) (fun hb hbp => ?_) <;> try (cases hb; done)) | apply Wp.seq ?_ | (apply Wp.ops' fun K hK => ?_) | apply Wp.block ?_ | apply Rx.sk ?_ | apply Rx.rt ?_ | apply Rx.xt ?_)
  · have hlt : i < p.arrays.length := by simpa using hb
    have hgx : p.arrays[i]? = some p.arrays[i] := List.getElem?_eq_getElem hlt
    have htk : (arNames p).take (i + 1) = (arNames p).take i ++ [p.arrays[i].name] := by rw [arNames, List.take_add_one, List.getElem?_map, hgx]; rfl
    repeat' (first
       | (apply Rx.nl ?_; clear hK K) | apply Rx.o ?_ | apply Rx.on ?_ | (apply Rx.cd (fun hb hbp => ?_) (fun hb hbp => ?_) <;> try (cases hb; done)) | apply Wp.seq ?_ | (apply Wp.ops' fun K hK => ?_) | apply Wp.block ?_ | apply Rx.sk ?_ | apply Rx.rt ?_ | apply Rx.xt ?_)
    generalize hHb : Hp.alloc (Hp.set _ _ _) _ = Hb
    have nb : Hb.next = H2.next + 2 := by rw [← hHb]; rfl
    have oldb : ∀ k, k < H2.next → Hb.get k = H2.get k := fun k hk => by rw [← hHb, Hp.get_alloc, if_neg (by simp only [Hp.next_set, Hp.next_alloc]; omega), Hp.get_set, if_neg (by omega), Hp.get_alloc, if_neg (by omega)]
    have gb : Hb.get (H2.next + 1) = some (.cells [.str p.arrays[i].name] 0 true) := by rw [← hHb, Hp.get_alloc, if_pos (by rfl)]
    clear hHb
    have hvb : StrN Hb v ((arNames p).take i) 1 := hv.n.keep (by omega) fun k hk => oldb k (hv.n.lt hk).2
    obtain ⟨v5, H5, a5, s5, n5, f5, o5⟩ := app_one (r := H2.next + 1) (imm := 0) p.arrays[i].name hvb (by omega) gb (by simp; omega)
    have n5' : Hb.next ≤ H5.next := by omega
    clear n5
    have g50 : H5.get 0 = some (.cells p.cells 0 true) := by rw [f5 0 (by omega), oldb 0 (by omega)]; exact hrH
    refine WpL.append eV eV (by rw [hkeep]; exact a5) ?_
    repeat' (first
       | (apply Rx.nl ?_; clear hK K) | apply Rx.o ?_ | apply Rx.on ?_ | (apply Rx.cd (fun hb hbp => ?_) (fun hb hbp => ?_) <;> try (cases hb; done)) | apply Wp.seq ?_ | (apply Wp.ops' fun K hK => ?_) | apply Wp.block ?_ | apply Rx.sk ?_ | apply Rx.rt ?_ | apply Rx.xt ?_)
    refine ⟨by omega, eL, eL, eN, (by simp only [sB, Nat.reduceBEq, *]; exact i64_succ (n := p.arrays.length) (by omega) (by omega)), ?_⟩
    exact ⟨v5, eE, .inr ⟨by rw [htk]; simp, by rw [htk]; exact s5⟩⟩
  · have hie : i = p.arrays.length := by simp at hb; omega
    have hte : (arNames p).take i = arNames p := List.take_of_length_le (by simp [arNames]; omega)
    rw [hte] at hv
    clear hte hie hsI hi
    repeat' (first
       | (apply Rx.nl ?_; clear hK K) | apply Rx.o ?_ | apply Rx.on ?_ | (apply Rx.cd (fun hb hbp => ?_) (fun hb hbp => ?_) <;> try (cases hb; done)) | apply Wp.seq ?_ | (apply Wp.ops' fun K hK => ?_) | apply Wp.block ?_ | apply Rx.sk ?_ | apply Rx.rt ?_ | apply Rx.xt ?_)
    have c3 : ∀ k, ownS v k → k < H2.next := fun k hk => (hv.n.lt hk).2
    refine Wp.forI [2, 3, 4, 24, 25] [0] 26 p.funcs.length (fun i E H => ∃ u, E.at 5 = u ∧ StrX H u ((fnNms p).take i) H2.next ∧ StrX H v (arNames p) 1) eE ⟨.nilS, eE, .inl ⟨rfl, rfl⟩, hv⟩ ?_
    rintro i E H3 hi hcE hrH hnH hsI ⟨u, k5, hu, hv3⟩
    (try simp only [forall_cons, forall_nil, and_true, sB, sO, Nat.reduceBEq, Nat.reduceAdd, Nat.reduceLeDiff, tyF, *] at hcE)
    (try simp only [forall_cons, forall_nil, and_true, sB, sO, Nat.reduceBEq, Nat.reduceAdd, Nat.reduceLeDiff, tyF, *] at hrH)
    (try simp only [Hp.next_alloc, Hp.next_set, H0_next, Nat.zero_add, Nat.reduceAdd] at hnH)
    have hB0 : (0 == H3.next) = false := ne_beq (by omega)
    have hC0 : (H3.next == 0) = false := ne_beq (by omega)
    repeat' (first
       | (apply Rx.nl ?_; clear hK K) | apply Rx.o ?_ | apply Rx.on ?_ | (apply Rx.cd (fun hb hbp => ?_) (fun hb hbp => ?_) <;> try (cases hb; done)) | apply Wp.seq ?_ | (apply Wp.ops' fun K hK => ?_) | apply Wp.block ?_ | apply Rx.sk ?_ | apply Rx.rt ?_ | apply Rx.xt ?_)
    · have hlt : i < p.funcs.length := by simpa using hb
      have hgx : p.funcs[i]? = some p.funcs[i] := List.getElem?_eq_getElem hlt
      have htk : (fnNms p).take (i + 1) = (fnNms p).take i ++ [p.funcs[i].name] := by rw [fnNms, List.take_add_one, List.getElem?_map, hgx]; rfl
      repeat' (first
         | (apply Rx.nl ?_; clear hK K) | apply Rx.o ?_ | apply Rx.on ?_ | (apply Rx.cd (fun hb hbp => ?_) (fun hb hbp => ?_) <;> try (cases hb; done)) | apply Wp.seq ?_ | (apply Wp.ops' fun K hK => ?_) | apply Wp.block ?_ | apply Rx.sk ?_ | apply Rx.rt ?_ | apply Rx.xt ?_)
      generalize hHb : Hp.alloc (Hp.set _ _ _) _ = Hb
      have nb : Hb.next = H3.next + 2 := by rw [← hHb]; rfl
      have oldb : ∀ k, k < H3.next → Hb.get k = H3.get k := fun k hk => by rw [← hHb, Hp.get_alloc, if_neg (by simp only [Hp.next_set, Hp.next_alloc]; omega), Hp.get_set, if_neg (by omega), Hp.get_alloc, if_neg (by omega)]
      have gb : Hb.get (H3.next + 1) = some (.cells [.str p.funcs[i].name] 0 true) := by rw [← hHb, Hp.get_alloc, if_pos (by rfl)]
      clear hHb
      have hub : StrN Hb u ((fnNms p).take i) H2.next := hu.n.keep (by omega) fun k hk => oldb k (hu.n.lt hk).2
      obtain ⟨v5, H5, a5, s5, n5, f5, o5⟩ := app_one (r := H3.next + 1) (imm := 0) p.funcs[i].name hub (by omega) gb (by simp; omega)
      have n5' : Hb.next ≤ H5.next := by omega
      clear n5
      have g50 : H5.get 0 = some (.cells p.cells 0 true) := by rw [f5 0 (by omega), oldb 0 (by omega)]; exact hrH
      refine WpL.append eV eV (by rw [hkeep]; exact a5) ?_
      repeat' (first
         | (apply Rx.nl ?_; clear hK K) | apply Rx.o ?_ | apply Rx.on ?_ | (apply Rx.cd (fun hb hbp => ?_) (fun hb hbp => ?_) <;> try (cases hb; done)) | apply Wp.seq ?_ | (apply Wp.ops' fun K hK => ?_) | apply Wp.block ?_ | apply Rx.sk ?_ | apply Rx.rt ?_ | apply Rx.xt ?_)
      refine ⟨by omega, eL, eL, eN, (by simp only [sB, Nat.reduceBEq, *]; exact i64_succ (n := p.funcs.length) (by omega) (by omega)), ?_⟩
      exact ⟨v5, eE, .inr ⟨by rw [htk]; simp, by rw [htk]; exact s5⟩, hv3.keep (by omega) fun k hk => by rw [f5 k (c3 k hk), oldb k (by have := c3 k hk; omega)]⟩
    · have hie : i = p.funcs.length := by simp at hb; omega
      have hte : (fnNms p).take i = fnNms p := List.take_of_length_le (by simp [fnNms]; omega)
      rw [hte] at hu
      repeat' (first
         | (apply Rx.nl ?_; clear hK K) | apply Rx.o ?_ | apply Rx.on ?_ | (apply Rx.cd (fun hb hbp => ?_) (fun hb hbp => ?_) <;> try (cases hb; done)) | apply Wp.seq ?_ | (apply Wp.ops' fun K hK => ?_) | apply Wp.block ?_ | apply Rx.sk ?_ | apply Rx.rt ?_ | apply Rx.xt ?_)
      all_goals (refine ⟨eI, _, eR, ?_⟩; try simp only [oneOr])
      have e1 := hv3.iceV (n := 0)
      have e2 := hu.iceV (n := 0)
      show (match iceL (iceV H3 2) [v, u] with | some ds => some (AV.tup ds) | none => none) = _
      simp only [iceL, e1, e2])) (by
  show AV.tup [wkN 2 (nlS (arNames p)), wkN 2 (nlS (fnNms p))] = _
  rw [wk_nlS, wk_nlS])
noncomputable def enDecl : En := ⟨62, false, spP (fun p => p.sz < 2 ^ 36) prE fun p => .tup [lstS (arNames p), lstS (fnNms p)]⟩
theorem enDecl_ok (ρ : Nat → Int) : EnOk Try.prog ρ enDecl := spP_ok fun p hp => declared_con ρ p hp
noncomputable def enHasD : En := ⟨63, true, spP rwOk rwE fun x => .bool (dupFrom [] x.flatten)⟩
theorem enHasD_ok (ρ : Nat → Int) : EnOk Try.prog ρ enHasD := spP_ok fun x hx => hasDup_con ρ x hx
theorem flat1 (x : List (List (List UInt8))) : (x.map fun l => [lstS l]).flatten = x.map lstS := by
  induction x with
  | nil => rfl
  | cons a l ih => simp [ih]
/-- Rows in memory, made unchangeable. -/
theorem rows_ice {H : Hp} {r imm : Nat} {x : List (List (List UInt8))} (hg : H.get r = some (.cells (x.map lstS) imm true)) (hr : r < H.next) (hi : imm ≤ x.length) :
    ∃ H', iceHL (iceH 100) [.sl r 0 x.length 1] H = some (rwE x, H') ∧ Icy (fun k => k = r) H H' := by
  refine Ic.iceL (S := fun k => k = r) (n := 100) (m := rwE x) ⟨?_, trivial⟩
  have h := Ic.rows (S := fun k => k = r) (n := 99) (H := H) (r := r) (z := 1) (imm := imm) (tip := true) (a := x.map fun l => [lstS l]) (b := x.map fun l => [lstS l]) rfl hr (by rw [flat1]; exact hg) (by rw [flat1]; simpa using hi) (by simp) (All2.refl fun a ha => All2.refl fun c hc => by
    obtain ⟨l, _, rfl⟩ := List.mem_map.1 ha
    rw [List.mem_singleton] at hc
    subst hc
    exact Ic.flat ⟨strs_pure l, trivial⟩)
  rw [List.length_map] at h
  exact h
theorem hasDupM {l : List En} (hl : ∀ ar, lookN l 63 ar = enHasD.sp ar) (hi : iceN l 63 = true) {H : Hp} {r imm : Nat} {x : List (List (List UInt8))} (hg : H.get r = some (.cells (x.map lstS) imm true)) (hr : r < H.next) (him : imm ≤ x.length) (hx : rwOk x) :
    WpCall Try.prog (cfgN pls l) 63 [.sl r 0 x.length 1] H fun v H' => v = .bool (dupFrom [] x.flatten) ∧ Icy (fun k => k = r) H H' := by
  obtain ⟨H', h1, h2⟩ := rows_ice hg hr him
  refine WpCall.mono ?_ (WpCall.enI (enc := rwE) (out := fun x => .bool (dupFrom [] x.flatten)) rwE_inj (x := x) hl hi hx (H' := H') (fun y _ e => by simp [rwE] at e) h1)
  rintro v _ ⟨rfl, rfl⟩
  exact ⟨rfl, h2⟩
theorem bsR1 (H : Hp) (a : List (List AV)) : buildSliceA Try.prog H 142 1 [(0, .lst a)] = some (.sl H.next 0 1 1, H.alloc (.cells [.lst a] 0 true)) := by kernel_rfl
theorem bsR2 (H : Hp) (a b : List (List AV)) : buildSliceA Try.prog H 142 2 [(0, .lst a), (1, .lst b)] = some (.sl H.next 0 2 1, H.alloc (.cells [.lst a, .lst b] 0 true)) := by kernel_rfl
theorem bsR3 (H : Hp) (a b c : List (List AV)) : buildSliceA Try.prog H 142 3 [(0, .lst a), (1, .lst b), (2, .lst c)] = some (.sl H.next 0 3 1, H.alloc (.cells [.lst a, .lst b, .lst c] 0 true)) := by kernel_rfl
noncomputable def levDup : List En := [enDecl, enHasD]
theorem levDup_ok (ρ : Nat → Int) : EnsOk Try.prog ρ levDup := ⟨enDecl_ok ρ, enHasD_ok ρ, trivial⟩
set_option maxRecDepth 100000 in
set_option maxHeartbeats 8000000 in
theorem duplicates_con (ρ : Nat → Int) (p : Pr) (hz : p.sz < 2 ^ 36) : Con Try.prog ρ 33 (prE p) (.bool (dupB p)) := Con.lev fit (pls := pls) (levDup_ok ρ) (.cons (.agg p.pure) .nil) (.bool _) (by
  have hw : Plain (cfgN pls levDup) 33 := plainN (fun _ => rfl) rfl
  have kd : ∀ H, WpCall Try.prog (cfgN pls levDup) 62 [.agg p.cells] H fun v H' => v = .tup [lstS (arNames p), lstS (fnNms p)] ∧ H' = H := fun H => WpCall.en (enc := prE) (out := fun p => .tup [lstS (arNames p), lstS (fnNms p)]) prE_inj (x := p) rfl hz
  have hpz : p.sz = 1 + arrsSz p.arrays + fnsSz p.funcs := rfl
  have hla := arrsSz_len p.arrays
  have hlf := fnsSz_len p.funcs
  have hal : (arNames p).length = p.arrays.length := by simp [arNames]
  have hfl : (fnNms p).length = p.funcs.length := by simp [fnNms]
  have hx0 : ∀ a b, Ab.extract (.tup [a, b]) 0 = some a := fun _ _ => rfl
  have hx1 : ∀ a b, Ab.extract (.tup [a, b]) 1 = some b := fun _ _ => rfl
  rw [prE]
  refine WpCall.slim (M := 35) (rs := [.tmp 2]) (hw.call _) hw.ice hw.froz Try.func33 rfl rfl code33.2 rfl ?_; dsimp only [code33, envOf, Nat.reduceAdd]
  have gh0 := @bsR1
  repeat' (first
     | (apply Rx.nl ?_; clear hK K) | apply Rx.o ?_ | apply Rx.on ?_ | (apply Rx.call ?_; first | refine Rx.k (kd _) ?_) | apply Rx.gu ?_ | (apply Rx.gd (fun hg hgp => ?_) (fun hg hgp => ?_) <;> try (cases hg; done)) | (apply Rx.cd (fun hb hbp => ?_) (fun hb hbp => ?_) <;> try (cases hb; done)) | apply Wp.seq ?_ | (apply Wp.ops' fun K hK => ?_) | apply Wp.block ?_ | apply Rx.sk ?_ | apply Rx.rt ?_ | apply Rx.xt ?_)
  refine WpL.call rfl eVk eAk ?_; simp only [List.cons_append, List.nil_append, List.append_nil]
  refine WpCall.mono ?_ (hasDupM (x := [arNames p]) (imm := 0) (fun _ => rfl) rfl (by rw [Hp.get_alloc, if_pos (by rfl)]; rfl) (Nat.lt_succ_self _) (by simp) ⟨by simp, by simp; omega⟩)
  rintro v H2 ⟨rfl, hy⟩
  have n2 := hy.next
  simp only [Hp.next_alloc, H0_next] at n2
  have g20 : H2.get 0 = some (.cells p.cells 0 true) := by rw [hy.out 0 (by simp), Hp.get_alloc, if_neg (by simp), Hp.get_alloc, if_pos (by rfl)]
  have n2' : 2 ≤ H2.next := by omega
  clear hy n2
  rw [show ([arNames p] : List (List (List UInt8))).flatten = arNames p by simp]
  dsimp only [setO]
  have gh0 := @bsR1
  repeat' (first
     | (apply Rx.nl ?_; clear hK K) | apply Rx.o ?_ | apply Rx.on ?_ | apply Rx.gu ?_ | (apply Rx.gd (fun hg hgp => ?_) (fun hg hgp => ?_) <;> try (cases hg; done)) | (apply Rx.cd (fun hb hbp => ?_) (fun hb hbp => ?_) <;> try (cases hb; done)) | apply Wp.seq ?_ | (apply Wp.ops' fun K hK => ?_) | apply Wp.block ?_ | apply Rx.sk ?_ | apply Rx.rt ?_ | apply Rx.xt ?_)
  · refine WpL.call rfl eVk eAk ?_; simp only [List.cons_append, List.nil_append, List.append_nil]
    refine WpCall.mono ?_ (hasDupM (x := [fnNms p]) (imm := 0) (fun _ => rfl) rfl (by rw [Hp.get_alloc, if_pos (by rfl)]; rfl) (Nat.lt_succ_self _) (by simp) ⟨by simp, by simp; omega⟩)
    rintro v H3 ⟨rfl, hy⟩
    have n3 := hy.next
    simp only [Hp.next_alloc] at n3
    have g30 : H3.get 0 = some (.cells p.cells 0 true) := by rw [hy.out 0 (by omega), Hp.get_alloc, if_neg (by omega)]; exact g20
    have n3' : 2 ≤ H3.next := by omega
    clear hy n3
    rw [show ([fnNms p] : List (List (List UInt8))).flatten = fnNms p by simp]
    dsimp only [setO]
    repeat' (first
       | (apply Rx.nl ?_; clear hK K) | apply Rx.o ?_ | apply Rx.on ?_ | apply Rx.gu ?_ | (apply Rx.gd (fun hg hgp => ?_) (fun hg hgp => ?_) <;> try (cases hg; done)) | (apply Rx.cd (fun hb hbp => ?_) (fun hb hbp => ?_) <;> try (cases hb; done)) | apply Wp.seq ?_ | (apply Wp.ops' fun K hK => ?_) | apply Wp.block ?_ | apply Rx.sk ?_ | apply Rx.rt ?_ | apply Rx.xt ?_)
    · all_goals (refine ⟨eI, _, eR, ?_⟩; try simp only [oneOr])
      rw [dupB]; (try simp only [Bool.not_eq_true', Bool.not_eq_false'] at *); simp only [*, decide_true, decide_false, Bool.false_or, Bool.or_false, Bool.true_or, Bool.or_true, Bool.false_and, Bool.and_false, Bool.true_and, Bool.and_true, Bool.not_true, Bool.not_false, if_true, if_false, Int.reduceEq]
    · refine Wp.forI [3, 21, 22] [0] 23 p.funcs.length (fun i E H => (p.funcs.any fun f => dupFrom [] (arNames p ++ (f.params ++ f.locals))) = ((p.funcs.drop i).any fun f => dupFrom [] (arNames p ++ (f.params ++ f.locals)))) eE (by simp) ?_
      rintro i E H4 hi hcE hrH hnH hsI hJ
      (try simp only [forall_cons, forall_nil, and_true, sB, sO, Nat.reduceBEq, Nat.reduceAdd, Nat.reduceLeDiff, tyF, *] at hcE)
      (try simp only [forall_cons, forall_nil, and_true, sB, sO, Nat.reduceBEq, Nat.reduceAdd, Nat.reduceLeDiff, tyF, *] at hrH)
      (try simp only [Hp.next_alloc, Hp.next_set, H0_next, Nat.zero_add, Nat.reduceAdd] at hnH)
      have hB0 : (0 == H4.next) = false := ne_beq (by omega)
      have hC0 : (H4.next == 0) = false := ne_beq (by omega)
      repeat' (first
         | (apply Rx.nl ?_; clear hK K) | apply Rx.o ?_ | apply Rx.on ?_ | apply Rx.gu ?_ | (apply Rx.gd (fun hg hgp => ?_) (fun hg hgp => ?_) <;> try (cases hg; done)) | (apply Rx.cd (fun hb hbp => ?_) (fun hb hbp => ?_) <;> try (cases hb; done)) | apply Wp.seq ?_ | (apply Wp.ops' fun K hK => ?_) | apply Wp.block ?_ | apply Rx.sk ?_ | apply Rx.rt ?_ | apply Rx.xt ?_)
      · have hlt : i < p.funcs.length := by simpa using hb
        have hgx : p.funcs[i]? = some p.funcs[i] := List.getElem?_eq_getElem hlt
        have hsm := fnsSz_mem (List.getElem_mem hlt)
        have hsz : p.funcs[i].sz = 1 + p.funcs[i].name.length + strsSz p.funcs[i].params + strsSz p.funcs[i].locals + stmtsSz p.funcs[i].body + p.funcs[i].value.sz := rfl
        have hpl := strsSz_len p.funcs[i].params
        have hll := strsSz_len p.funcs[i].locals
        have hdr : ((p.funcs.drop i).any fun f => dupFrom [] (arNames p ++ (f.params ++ f.locals))) = (dupFrom [] (arNames p ++ (p.funcs[i].params ++ p.funcs[i].locals)) || ((p.funcs.drop (i + 1)).any fun f => dupFrom [] (arNames p ++ (f.params ++ f.locals)))) := by rw [List.drop_eq_getElem_cons hlt, List.any_cons]
        have gh0 := @bsR3
        repeat' (first
           | (apply Rx.nl ?_; clear hK K) | apply Rx.o ?_ | apply Rx.on ?_ | apply Rx.gu ?_ | (apply Rx.gd (fun hg hgp => ?_) (fun hg hgp => ?_) <;> try (cases hg; done)) | (apply Rx.cd (fun hb hbp => ?_) (fun hb hbp => ?_) <;> try (cases hb; done)) | apply Wp.seq ?_ | (apply Wp.ops' fun K hK => ?_) | apply Wp.block ?_ | apply Rx.sk ?_ | apply Rx.rt ?_ | apply Rx.xt ?_)
        refine WpL.call rfl eVk eAk ?_; simp only [List.cons_append, List.nil_append, List.append_nil]
        refine WpCall.mono ?_ (hasDupM (x := [arNames p, p.funcs[i].params, p.funcs[i].locals]) (imm := 0) (fun _ => rfl) rfl (by rw [Hp.get_alloc, if_pos (by rfl)]; rfl) (Nat.lt_succ_self _) (by simp) ⟨by simp, by simp; omega⟩)
        rintro v H5 ⟨rfl, hy⟩
        have n5 := hy.next
        simp only [Hp.next_alloc, Hp.next_set] at n5
        have g50 : H5.get 0 = some (.cells p.cells 0 true) := by rw [hy.out 0 (by intro e; change (0 : Nat) = _ at e; (try simp only [Hp.next_set, Hp.next_alloc] at e); omega), Hp.get_alloc, if_neg (by (try simp only [Hp.next_set, Hp.next_alloc]); omega), Hp.get_set, if_neg (by omega), Hp.get_alloc, if_neg (by omega)]; exact hrH
        have n5' : H4.next ≤ H5.next := by omega
        clear hy n5
        rw [show ([arNames p, p.funcs[i].params, p.funcs[i].locals] : List (List (List UInt8))).flatten = arNames p ++ (p.funcs[i].params ++ p.funcs[i].locals) by simp]
        dsimp only [setO]
        repeat' (first
           | (apply Rx.nl ?_; clear hK K) | apply Rx.o ?_ | apply Rx.on ?_ | apply Rx.gu ?_ | (apply Rx.gd (fun hg hgp => ?_) (fun hg hgp => ?_) <;> try (cases hg; done)) | (apply Rx.cd (fun hb hbp => ?_) (fun hb hbp => ?_) <;> try (cases hb; done)) | apply Wp.seq ?_ | (apply Wp.ops' fun K hK => ?_) | apply Wp.block ?_ | apply Rx.sk ?_ | apply Rx.rt ?_ | apply Rx.xt ?_)
        · all_goals (refine ⟨eI, _, eR, ?_⟩; try simp only [oneOr])
          rw [dupB, hJ, hdr]; (try simp only [Bool.not_eq_true', Bool.not_eq_false'] at *); simp only [*, decide_true, decide_false, Bool.false_or, Bool.or_false, Bool.true_or, Bool.or_true, Bool.false_and, Bool.and_false, Bool.true_and, Bool.and_true, Bool.not_true, Bool.not_false, if_true, if_false, Int.reduceEq]
        · refine ⟨by omega, eL, eL, eN, (by simp only [sB, Nat.reduceBEq, *]; exact i64_succ (n := p.funcs.length) (by omega) (by omega)), ?_⟩
          rw [hJ, hdr]; (try simp only [Bool.not_eq_true', Bool.not_eq_false'] at *); simp only [*, decide_true, decide_false, Bool.false_or, Bool.or_false, Bool.true_or, Bool.or_true, Bool.false_and, Bool.and_false, Bool.true_and, Bool.and_true, Bool.not_true, Bool.not_false, if_true, if_false, Int.reduceEq]
      · all_goals (refine ⟨eI, _, eR, ?_⟩; try simp only [oneOr])
        have hie : i = p.funcs.length := by simp at hb; omega
        rw [hie, List.drop_length] at hJ
        have hJ2 : (p.funcs.any fun f => dupFrom [] (arNames p ++ (f.params ++ f.locals))) = false := hJ
        rw [dupB, hJ2]; (try simp only [Bool.not_eq_true', Bool.not_eq_false'] at *); simp only [*, decide_true, decide_false, Bool.false_or, Bool.or_false, Bool.true_or, Bool.or_true, Bool.false_and, Bool.and_false, Bool.true_and, Bool.and_true, Bool.not_true, Bool.not_false, if_true, if_false, Int.reduceEq]
  · repeat' (first
       | (apply Rx.nl ?_; clear hK K) | apply Rx.o ?_ | apply Rx.on ?_ | apply Rx.gu ?_ | (apply Rx.gd (fun hg hgp => ?_) (fun hg hgp => ?_) <;> try (cases hg; done)) | (apply Rx.cd (fun hb hbp => ?_) (fun hb hbp => ?_) <;> try (cases hb; done)) | apply Wp.seq ?_ | (apply Wp.ops' fun K hK => ?_) | apply Wp.block ?_ | apply Rx.sk ?_ | apply Rx.rt ?_ | apply Rx.xt ?_)
    all_goals (refine ⟨eI, _, eR, ?_⟩; try simp only [oneOr])
    rw [dupB]; (try simp only [Bool.not_eq_true', Bool.not_eq_false'] at *); simp only [*, decide_true, decide_false, Bool.false_or, Bool.or_false, Bool.true_or, Bool.or_true, Bool.false_and, Bool.and_false, Bool.true_and, Bool.and_true, Bool.not_true, Bool.not_false, if_true, if_false, Int.reduceEq])
end Go.Proofs.Ytjkmbpieknaekaa
namespace Go.Proofs.Ytjkmbpieknaekaa
set_option maxRecDepth 20000
set_option linter.unusedSimpArgs false
set_option linter.unusedVariables false
set_option linter.unusedSectionVars false
set_option linter.defProp false
set_option maxRecDepth 20000
open Go Go.Ab
namespace tyW4a
def tyF := And.intro @tq3 (And.intro @tq9 (And.intro @tq36 (And.intro @tq37 (And.intro @tq39 (And.intro @tq46 (@tq2))))))
end tyW4a
open tyW4a
noncomputable def code59 : { c : SC // slim 28 (Try.f59.body.getD .skip) = c } := by
  refine ⟨?_, ?_⟩
  rotate_left
  · simp only [Try.f59, Option.getD_some, slim, slimR, slimL, slimD, slimG, Nat.blt, Nat.ble]
    rfl
noncomputable def code53 : { c : SC // slim 39 (Try.f53.body.getD .skip) = c } := by
  refine ⟨?_, ?_⟩
  rotate_left
  · simp only [Try.f53, Option.getD_some, slim, slimR, slimL, slimD, slimG, Nat.blt, Nat.ble]
    rfl
/-- A visitor without a state. -/
def VisitE (cfg : Cfg) (base : Nat) (I : Hp → Prop) (g : FuncId) (cap : List AV) (q : Ex → Int → Bool) : Prop :=
  ∀ (x : Ex) (d : Int) (H : Hp), x.sz < 2 ^ 60 → base ≤ H.next → I H → WpCall Try.prog cfg g (.agg x.cells :: .int .i64 d :: cap) H fun v H' => v = .bool (q x d) ∧ FrB base H H' ∧ I H'
/-- What is said of the heap is said of the blocks below 'base'. -/
def OfLow (base : Nat) (I : Hp → Prop) : Prop := ∀ H H', I H → Low base H H' → I H'
theorem walkExpr_wp {cfg : Cfg} (hw : Plain cfg 59) {base : Nat} {I : Hp → Prop} (hI : OfLow base I) {g : FuncId} {cap : List AV} {q : Ex → Int → Bool} (hq : VisitE cfg base I g cap q) :
    ∀ (n : Nat) (x : Ex), x.sz < n → ∀ (d : Int) (H : Hp), x.sz < 2 ^ 60 → base ≤ H.next → I H → WpCall Try.prog cfg 59 [.agg x.cells, .int .i64 d, .clo g cap] H fun v H' => v = .bool (walkE q x d) ∧ FrB base H H' ∧ I H'
  | 0, x, hx, _, _, _, _, _ => by omega
  | n + 1, x, hx, d, H, hz, hbase, hi => by
    refine WpCall.slim (M := 28) (rs := [.tmp 6]) (hw.call _) hw.ice hw.froz Try.func59 rfl rfl code59.2 rfl ?_; dsimp only [code59, envOf, Nat.reduceAdd]
    repeat' (first
       | (apply Rx.nl ?_; clear hK K) | apply Rx.o ?_ | apply Rx.on ?_ | (apply Rx.cd (fun hb hbp => ?_) (fun hb hbp => ?_) <;> try (cases hb; done)) | apply Wp.seq ?_ | (apply Wp.ops' fun K hK => ?_) | apply Wp.block ?_ | apply Rx.sk ?_ | apply Rx.rt ?_ | apply Rx.xt ?_)
    refine WpL.call rfl eVk eAk ?_; simp only [List.cons_append, List.nil_append, List.append_nil]
    have hH1 : FrB base H (H.alloc (.cells x.cells 0 true)) := (FrB.refl _ _).alloc _
    refine WpCall.mono ?_ (hq x d (H.alloc (.cells x.cells 0 true)) hz (by simp only [Hp.next_alloc]; omega) (hI _ _ hi ((Low.refl _ _).alloc hbase _)))
    rintro v H1 ⟨rfl, hf1, hi1⟩
    have hg1 : H1.get H.next = some (.cells x.cells 0 true) := by
      rw [hf1.get _ hbase (by simp [Hp.next_alloc]), Hp.get_alloc, if_pos rfl]
    have hn1 : H.next < H1.next := by have := hf1.next; simp only [Hp.next_alloc] at this; omega
    dsimp only [setO]
    repeat' (first
       | (apply Rx.nl ?_; clear hK K) | apply Rx.o ?_ | apply Rx.on ?_ | (apply Rx.cd (fun hb hbp => ?_) (fun hb hbp => ?_) <;> try (cases hb; done)) | apply Wp.seq ?_ | (apply Wp.ops' fun K hK => ?_) | apply Wp.block ?_ | apply Rx.sk ?_ | apply Rx.rt ?_ | apply Rx.xt ?_)
    · all_goals (refine ⟨eI, _, eR, ?_⟩; try simp only [oneOr])
      refine ⟨?_, hH1.trans hf1, hi1⟩
      rw [walkE_eq]
      simp_all
    have hl : x.kids.length < 2 ^ 60 := by have := exprsSz_len x.kids; have := x.sz_eq; omega
    refine Wp.loopN (fun i E H2 => walkEs q x.kids (w64 (d + 1)) = walkEs q (x.kids.drop i) (w64 (d + 1)) ∧ E.at 1 = .int .i64 d ∧ E.at 2 = .clo g cap ∧ E.at 15 = .lst (x.kids.map Ex.cells) ∧ E.at 16 = .int .i64 x.kids.length ∧ E.at 17 = .int .i64 i ∧ FrB base H H2 ∧ I H2) x.kids.length ?_ ?_
    · rintro i E H2 hi2 ⟨hc, h1, h2, h15, h16, h17, hf2, hI2⟩
      repeat' (first
         | (apply Rx.nl ?_; clear hK K) | apply Rx.o ?_ | apply Rx.on ?_ | (apply Rx.cd (fun hb hbp => ?_) (fun hb hbp => ?_) <;> try (cases hb; done)) | apply Wp.seq ?_ | (apply Wp.ops' fun K hK => ?_) | apply Wp.block ?_ | apply Rx.sk ?_ | apply Rx.rt ?_ | apply Rx.xt ?_)
      · have hlt : i < x.kids.length := by simpa using hb
        have hgx : x.kids[i]? = some x.kids[i] := List.getElem?_eq_getElem hlt
        repeat' (first
           | (apply Rx.nl ?_; clear hK K) | apply Rx.o ?_ | apply Rx.on ?_ | (apply Rx.cd (fun hb hbp => ?_) (fun hb hbp => ?_) <;> try (cases hb; done)) | apply Wp.seq ?_ | (apply Wp.ops' fun K hK => ?_) | apply Wp.block ?_ | apply Rx.sk ?_ | apply Rx.rt ?_ | apply Rx.xt ?_)
        have hxm : x.kids[i] ∈ x.kids := List.getElem_mem hlt
        have hsm := exprsSz_mem hxm
        have hsx := x.sz_eq
        have hf3 : FrB base H2 ((H2.alloc (.cells [.int .i64 0, .int .i64 0, .str [], .int .i64 0, .nilS] 0 true)).set H2.next (.cells x.kids[i].cells 0 true)) := ((FrB.refl _ _).alloc _).set (.inl (Nat.le_refl _)) _
        have hb2 : base ≤ H2.next := Nat.le_trans hbase (hf2.next)
        have hlow : Low base H2 ((H2.alloc (.cells [.int .i64 0, .int .i64 0, .str [], .int .i64 0, .nilS] 0 true)).set H2.next (.cells x.kids[i].cells 0 true)) := ((Low.refl _ _).alloc hb2 _).set hb2 _
        refine WpL.call rfl eVk eAk ?_; simp only [List.cons_append, List.nil_append, List.append_nil]
        refine WpCall.mono ?_ (walkExpr_wp hw hI hq n x.kids[i] (by omega) _ _ (by omega) (by simp only [Hp.next_alloc, Hp.next_set]; omega) (hI _ _ hI2 hlow))
        rintro v H3 ⟨rfl, hf4, hI3⟩
        dsimp only [setO]
        repeat' (first
           | (apply Rx.nl ?_; clear hK K) | apply Rx.o ?_ | apply Rx.on ?_ | (apply Rx.cd (fun hb hbp => ?_) (fun hb hbp => ?_) <;> try (cases hb; done)) | apply Wp.seq ?_ | (apply Wp.ops' fun K hK => ?_) | apply Wp.block ?_ | apply Rx.sk ?_ | apply Rx.rt ?_ | apply Rx.xt ?_)
        · all_goals (refine ⟨eI, _, eR, ?_⟩; try simp only [oneOr])
          refine ⟨?_, (hf2.trans hf3).trans hf4, hI3⟩
          rw [walkE_eq, hc, walkEs_drop q hlt]
          simp_all
        · refine ⟨hlt, ?_, eE, eE, eE, eE, ?_, (hf2.trans hf3).trans hf4, hI3⟩
          · rw [hc, walkEs_drop q hlt]; simp_all
          · simp only [at_set, Nat.reduceBEq, cond_true, wrap_succ (show i < 2 ^ 62 by omega)]
      · have hi3 : i = x.kids.length := by simp at hb; omega
        all_goals (refine ⟨eI, _, eR, ?_⟩; try simp only [oneOr])
        refine ⟨?_, hf2, hI2⟩
        rw [walkE_eq, hc, hi3]
        simp_all [walkEs]
    · exact ⟨rfl, eE, eE, eE, eE, eE, hH1.trans hf1, hi1⟩
end Go.Proofs.Ytjkmbpieknaekaa
namespace Go.Proofs.Ytjkmbpieknaekaa
set_option maxRecDepth 20000
set_option linter.unusedSimpArgs false
set_option linter.unusedVariables false
set_option linter.unusedSectionVars false
set_option linter.defProp false
set_option maxRecDepth 20000
open Go Go.Ab
namespace tyW4b
def tyF := And.intro @tq3 (And.intro @tq9 (And.intro @tq36 (And.intro @tq37 (And.intro @tq39 (@tq46)))))
end tyW4b
open tyW4b
/-- A visitor with a state. -/
def VisitS {σ : Type} (cfg : Cfg) (base : Nat) (I : σ → Hp → Prop) (g : FuncId) (cap : List AV) (q : St → Int → σ → Bool × σ) : Prop :=
  ∀ (x : St) (d : Int) (s : σ) (H : Hp), x.sz < 2 ^ 60 → base ≤ H.next → I s H → WpCall Try.prog cfg g (.agg x.cells :: .int .i64 d :: cap) H fun v H' => v = .bool (q x d s).1 ∧ FrB base H H' ∧ I (q x d s).2 H'
theorem walkStmts_wp {cfg : Cfg} (hw : Plain cfg 53) {σ : Type} {base : Nat} {I : σ → Hp → Prop} (hI : ∀ s, OfLow base (I s)) {g : FuncId} {cap : List AV} {q : St → Int → σ → Bool × σ} (hq : VisitS cfg base I g cap q) :
    ∀ (n : Nat) (l : List St), stmtsSz l < n → ∀ (d : Int) (s : σ) (H : Hp), stmtsSz l < 2 ^ 60 → base ≤ H.next → I s H → WpCall Try.prog cfg 53 [.lst (l.map St.cells), .int .i64 d, .clo g cap] H fun v H' => v = .bool (walkS q l d s).1 ∧ FrB base H H' ∧ I (walkS q l d s).2 H'
  | 0, l, hx, _, _, _, _, _, _ => by omega
  | n + 1, l, hx, d, s, H, hz, hbase, hi => by
    refine WpCall.slim (M := 39) (rs := [.tmp 6]) (hw.call _) hw.ice hw.froz Try.func53 rfl rfl code53.2 rfl ?_; dsimp only [code53, envOf, Nat.reduceAdd]
    repeat' (first
       | (apply Rx.nl ?_; clear hK K) | apply Rx.o ?_ | apply Rx.on ?_ | apply Rx.gu ?_ | (apply Rx.gd (fun hg hgp => ?_) (fun hg hgp => ?_) <;> try (cases hg; done)) | (apply Rx.cd (fun hb hbp => ?_) (fun hb hbp => ?_) <;> try (cases hb; done)) | apply Wp.seq ?_ | (apply Wp.ops' fun K hK => ?_) | apply Wp.block ?_ | apply Rx.sk ?_ | apply Rx.rt ?_ | apply Rx.xt ?_)
    have hl : l.length < 2 ^ 60 := by have := stmtsSz_len l; omega
    refine Wp.loopN (fun i E H2 => ∃ s2, walkS q l d s = walkS q (l.drop i) d s2 ∧ E.at 1 = .int .i64 d ∧ E.at 2 = .clo g cap ∧ E.at 9 = .lst (l.map St.cells) ∧ E.at 10 = .int .i64 l.length ∧ E.at 11 = .int .i64 i ∧ FrB base H H2 ∧ I s2 H2) l.length ?_ ?_
    · rintro i E H2 hi2 ⟨s2, hc, h1, h2, h9, h10, h11, hf2, hI2⟩
      repeat' (first
         | (apply Rx.nl ?_; clear hK K) | apply Rx.o ?_ | apply Rx.on ?_ | apply Rx.gu ?_ | (apply Rx.gd (fun hg hgp => ?_) (fun hg hgp => ?_) <;> try (cases hg; done)) | (apply Rx.cd (fun hb hbp => ?_) (fun hb hbp => ?_) <;> try (cases hb; done)) | apply Wp.seq ?_ | (apply Wp.ops' fun K hK => ?_) | apply Wp.block ?_ | apply Rx.sk ?_ | apply Rx.rt ?_ | apply Rx.xt ?_)
      · have hlt : i < l.length := by simpa using hb
        have hgx : l[i]? = some l[i] := List.getElem?_eq_getElem hlt
        repeat' (first
           | (apply Rx.nl ?_; clear hK K) | apply Rx.o ?_ | apply Rx.on ?_ | apply Rx.gu ?_ | (apply Rx.gd (fun hg hgp => ?_) (fun hg hgp => ?_) <;> try (cases hg; done)) | (apply Rx.cd (fun hb hbp => ?_) (fun hb hbp => ?_) <;> try (cases hb; done)) | apply Wp.seq ?_ | (apply Wp.ops' fun K hK => ?_) | apply Wp.block ?_ | apply Rx.sk ?_ | apply Rx.rt ?_ | apply Rx.xt ?_)
        have hxm : l[i] ∈ l := List.getElem_mem hlt
        have hsm := stmtsSz_mem hxm
        have hsx := l[i].sz_eq
        generalize hx0 : l[i] = x at *
        have hb2 : base ≤ H2.next := Nat.le_trans hbase hf2.next
        generalize hH3 : (H2.alloc _).set H2.next _ = H3
        have hf3 : FrB base H2 H3 := by rw [← hH3]; exact ((FrB.refl _ _).alloc _).set (.inl (Nat.le_refl _)) _
        have hlow : Low base H2 H3 := by rw [← hH3]; exact ((Low.refl _ _).alloc hb2 _).set hb2 _
        have hn3 : H2.next < H3.next := by rw [← hH3]; simp only [Hp.next_alloc, Hp.next_set]; omega
        have hg3 : H3.get H2.next = some (.cells x.cells 0 true) := by rw [← hH3, Hp.get_set, if_pos rfl]
        have hI3 := hI _ _ _ hI2 hlow
        have hwd := walkS_drop q hlt d s2
        rw [hx0, walk1_eq] at hwd
        rw [hwd] at hc
        refine WpL.call rfl eVk eAk ?_; simp only [List.cons_append, List.nil_append, List.append_nil]
        refine WpCall.mono ?_ (hq x d s2 H3 (by omega) (by omega) hI3)
        rintro v H4 ⟨rfl, hf4, hI4⟩
        generalize hq1 : q x d s2 = r1 at *
        obtain ⟨ok1, s3⟩ := r1
        have hg4 : H4.get H2.next = some (.cells x.cells 0 true) := by rw [hf4.get _ hb2 hn3]; exact hg3
        have hn4 : H2.next < H4.next := Nat.lt_of_lt_of_le hn3 hf4.next
        dsimp only [setO]
        cases ok1 with
        | false =>
          repeat' (first
             | (apply Rx.nl ?_; clear hK K) | apply Rx.o ?_ | apply Rx.on ?_ | apply Rx.gu ?_ | (apply Rx.gd (fun hg hgp => ?_) (fun hg hgp => ?_) <;> try (cases hg; done)) | (apply Rx.cd (fun hb hbp => ?_) (fun hb hbp => ?_) <;> try (cases hb; done)) | apply Wp.seq ?_ | (apply Wp.ops' fun K hK => ?_) | apply Wp.block ?_ | apply Rx.sk ?_ | apply Rx.rt ?_ | apply Rx.xt ?_)
          all_goals (refine ⟨eI, _, eR, ?_⟩; try simp only [oneOr])
          dsimp only at hc
          rw [hc]
          exact ⟨rfl, (hf2.trans hf3).trans hf4, hI4⟩
        | true =>
          repeat' (first
             | (apply Rx.nl ?_; clear hK K) | apply Rx.o ?_ | apply Rx.on ?_ | apply Rx.gu ?_ | (apply Rx.gd (fun hg hgp => ?_) (fun hg hgp => ?_) <;> try (cases hg; done)) | (apply Rx.cd (fun hb hbp => ?_) (fun hb hbp => ?_) <;> try (cases hb; done)) | apply Wp.seq ?_ | (apply Wp.ops' fun K hK => ?_) | apply Wp.block ?_ | apply Rx.sk ?_ | apply Rx.rt ?_ | apply Rx.xt ?_)
          refine WpL.call rfl eVk eAk ?_; simp only [List.cons_append, List.nil_append, List.append_nil]
          have hrec := walkStmts_wp hw hI hq n x.thn (by omega) (w64 (d + 1)) s3 H4 (by omega) (by omega) hI4
          refine WpCall.mono ?_ hrec
          rintro v H5 ⟨rfl, hf5, hI5⟩
          generalize hq2 : walkS q x.thn (w64 (d + 1)) s3 = r2 at *
          obtain ⟨ok2, s4⟩ := r2
          have hg5 : H5.get H2.next = some (.cells x.cells 0 true) := by rw [hf5.get _ hb2 hn4]; exact hg4
          have hn5 : H2.next < H5.next := Nat.lt_of_lt_of_le hn4 hf5.next
          dsimp only [setO]
          cases ok2 with
          | false =>
            repeat' (first
               | (apply Rx.nl ?_; clear hK K) | apply Rx.o ?_ | apply Rx.on ?_ | apply Rx.gu ?_ | (apply Rx.gd (fun hg hgp => ?_) (fun hg hgp => ?_) <;> try (cases hg; done)) | (apply Rx.cd (fun hb hbp => ?_) (fun hb hbp => ?_) <;> try (cases hb; done)) | apply Wp.seq ?_ | (apply Wp.ops' fun K hK => ?_) | apply Wp.block ?_ | apply Rx.sk ?_ | apply Rx.rt ?_ | apply Rx.xt ?_)
            all_goals (refine ⟨eI, _, eR, ?_⟩; try simp only [oneOr])
            simp only [hq2] at hc
            rw [hc]
            exact ⟨rfl, ((hf2.trans hf3).trans hf4).trans hf5, hI5⟩
          | true =>
            repeat' (first
               | (apply Rx.nl ?_; clear hK K) | apply Rx.o ?_ | apply Rx.on ?_ | apply Rx.gu ?_ | (apply Rx.gd (fun hg hgp => ?_) (fun hg hgp => ?_) <;> try (cases hg; done)) | (apply Rx.cd (fun hb hbp => ?_) (fun hb hbp => ?_) <;> try (cases hb; done)) | apply Wp.seq ?_ | (apply Wp.ops' fun K hK => ?_) | apply Wp.block ?_ | apply Rx.sk ?_ | apply Rx.rt ?_ | apply Rx.xt ?_)
            refine WpL.call rfl eVk eAk ?_; simp only [List.cons_append, List.nil_append, List.append_nil]
            have hrec2 := walkStmts_wp hw hI hq n x.els (by omega) (w64 (d + 1)) s4 H5 (by omega) (by omega) hI5
            refine WpCall.mono ?_ hrec2
            rintro v H6 ⟨rfl, hf6, hI6⟩
            generalize hq3 : walkS q x.els (w64 (d + 1)) s4 = r3 at *
            obtain ⟨ok3, s5⟩ := r3
            dsimp only [setO]
            have hf7 : FrB base H H6 := (((hf2.trans hf3).trans hf4).trans hf5).trans hf6
            cases ok3 with
            | false =>
              repeat' (first
                 | (apply Rx.nl ?_; clear hK K) | apply Rx.o ?_ | apply Rx.on ?_ | apply Rx.gu ?_ | (apply Rx.gd (fun hg hgp => ?_) (fun hg hgp => ?_) <;> try (cases hg; done)) | (apply Rx.cd (fun hb hbp => ?_) (fun hb hbp => ?_) <;> try (cases hb; done)) | apply Wp.seq ?_ | (apply Wp.ops' fun K hK => ?_) | apply Wp.block ?_ | apply Rx.sk ?_ | apply Rx.rt ?_ | apply Rx.xt ?_)
              all_goals (refine ⟨eI, _, eR, ?_⟩; try simp only [oneOr])
              simp only [hq2, hq3] at hc
              rw [hc]
              exact ⟨rfl, hf7, hI6⟩
            | true =>
              repeat' (first
                 | (apply Rx.nl ?_; clear hK K) | apply Rx.o ?_ | apply Rx.on ?_ | apply Rx.gu ?_ | (apply Rx.gd (fun hg hgp => ?_) (fun hg hgp => ?_) <;> try (cases hg; done)) | (apply Rx.cd (fun hb hbp => ?_) (fun hb hbp => ?_) <;> try (cases hb; done)) | apply Wp.seq ?_ | (apply Wp.ops' fun K hK => ?_) | apply Wp.block ?_ | apply Rx.sk ?_ | apply Rx.rt ?_ | apply Rx.xt ?_)
              refine ⟨hlt, s5, ?_, eE, eE, eE, eE, ?_, hf7, hI6⟩
              · simp only [hq2, hq3] at hc; exact hc
              · simp only [at_set, Nat.reduceBEq, cond_true, wrap_succ (show i < 2 ^ 62 by omega)]
      · have hi3 : i = l.length := by simp at hb; omega
        all_goals (refine ⟨eI, _, eR, ?_⟩; try simp only [oneOr])
        rw [hc, hi3]
        simp only [List.drop_length, walkS]
        exact ⟨trivial, hf2, hI2⟩
    · exact ⟨s, rfl, eE, eE, eE, eE, eE, FrB.refl _ _, hi⟩
end Go.Proofs.Ytjkmbpieknaekaa
