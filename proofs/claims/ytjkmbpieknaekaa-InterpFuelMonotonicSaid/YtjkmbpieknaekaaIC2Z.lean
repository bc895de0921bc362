/-
  The Go function fullinglaw6.InterpFuelMonotonic returns true whatever its six arguments are, and leaves all memory that was there as it was. Conditions: none.
-/
import Derived.OpenShut
import Derived.ProofKit
import Derived.Test.YtjkmbpieknaekaaIC2A
import Derived.WalkKit
set_option linter.unusedSimpArgs false
set_option linter.unusedVariables false
set_option linter.unusedSectionVars false
set_option linter.defProp false
namespace Go.Proofs.Ytjkmbpieknaekaa.interpFuelMonotonic
set_option maxRecDepth 20000
set_option linter.unusedVariables false
set_option linter.unusedSimpArgs false
set_option linter.unusedSectionVars false
set_option linter.defProp false
set_option maxRecDepth 20000
open Go Go.Ab
namespace tyInterpFuelMonotonic
def tyF := And.intro @tq2 (And.intro @tq3 (And.intro @tq22 (And.intro @tq23 (And.intro @tq25 (And.intro @tq52 (And.intro @tq56 (@ag4)))))))
end tyInterpFuelMonotonic
open tyInterpFuelMonotonic Go.ChangeShapes Go.WideShapes Go.ChangeAt Go.RowKit
theorem own : ownKnob Try.prog.godebug = none := by kernel_rfl
noncomputable def code7 : { c : SC // slim 93 (Try.f7.body.getD .skip) = c } := by
  refine ⟨?_, ?_⟩
  rotate_left
  · simp only [Try.f7, Option.getD_some, slim, slimR, slimL, slimD, slimG, Nat.blt, Nat.ble]
    rfl
noncomputable abbrev levZ : List En := lev6 [enPick]
theorem levZ_ok (ρ : Nat → Int) : EnsOk Try.prog ρ levZ := lev6_ok ρ ⟨enPick_ok ρ, trivial⟩
theorem more_fuel {p : Pr} {nm : Nm} {al : List Int} {f d : Int} (hd : 0 ≤ d) (hm : f + d ≤ 1000) (h : RunA.ok ⟨p, nm, al, f⟩) (h' : RunA.ok ⟨p, nm, al, f + d⟩) :
    ((runG ⟨p, nm, al, f⟩).kind = 3 ∧ (runG ⟨p, nm, al, f⟩).code = 0 ∧ (runG ⟨p, nm, al, f⟩).value = 0 ∧ (runG ⟨p, nm, al, f⟩).out <+: (runG ⟨p, nm, al, f + d⟩).out) ∨
    (((runG ⟨p, nm, al, f⟩).kind = 1 ∨ (runG ⟨p, nm, al, f⟩).kind = 2) ∧ runG ⟨p, nm, al, f + d⟩ = runG ⟨p, nm, al, f⟩) := by
  obtain ⟨r, n, hr, _⟩ := h.ends
  obtain ⟨r', n', hr', _⟩ := h'.ends
  rw [runG_eq h hr, runG_eq h' hr']
  exact fuel_end hd h.f0 hm hr hr'
set_option maxRecDepth 100000 in
set_option maxHeartbeats 16000000 in
theorem law (l : List Int) (a b w fuel more : Int) (hl : l.length < 2 ^ 63) : WpCall Try.prog (cfgN pls levZ) 7 [intRows l, .int .i64 a, .int .i64 b, .int .i64 w, .int .i64 fuel, .int .i64 more] H0 fun v _ => v = .bool true := by
  have hw : Plain (cfgN pls levZ) 7 := plainN (fun _ => rfl) rfl
  have hf := pickG_range (n := fuel) (m := 12) (by omega) (by omega)
  have hd := pickG_range (n := more) (m := 9) (by omega) (by omega)
  have hsum : IntKind.wrap .i64 (pickG fuel 12 + pickG more 9) = pickG fuel 12 + pickG more 9 := i64_id (by omega) (by omega)
  have hrf := genRunF l (wordG a w) (wordG b w) (pickG fuel 12) hf.1 (by omega)
  have hrf2 := genRunF l (wordG a w) (wordG b w) (pickG fuel 12 + pickG more 9) (by omega) (by omega)
  have hof := runG_out hrf
  have hof2 := runG_out hrf2
  have hm := more_fuel hd.1 (by omega) hrf hrf2
  have kf := kRun (l6 := [enPick]) _ _ _ _ hrf
  have kf2 := kRun (l6 := [enPick]) _ _ _ _ hrf2
  have kp := kProg (l6 := [enPick]) l hl
  have kk := fun H => pick_en (l := levZ) (fun _ => rfl) more 9 (by decide) H
  have kfu := fun H => kFuel (l6 := [enPick]) fuel H
  generalize runG ⟨genP l, [102], [wordG a w, wordG b w], pickG fuel 12⟩ = o1 at *
  generalize runG ⟨genP l, [102], [wordG a w, wordG b w], pickG fuel 12 + pickG more 9⟩ = o2 at *
  have ks := kSame (l6 := [enPick]) o1 (Nat.lt_of_le_of_lt hof (by decide))
  clear hrf hrf2
  generalize pickG fuel 12 = F at *
  generalize pickG more 9 = D at *
  rcases hm with ⟨h1, h2, h3, h4⟩ | ⟨h1, rfl⟩
  · obtain ⟨k1, c1, l1, v1⟩ := o1
    obtain ⟨k2, c2, l2, v2⟩ := o2
    simp only at h1 h2 h3 h4 hof hof2
    subst h1; subst h2; subst h3
    obtain ⟨t, ht⟩ := h4
    have hle : l1.length ≤ l2.length := by rw [← ht]; simp
    have hle2 : ¬ (l2.length : Int) < l1.length := by omega
    have hge : ∀ i (hi : i < l1.length), l2[i]? = some l1[i] := fun i hi => by rw [← ht, List.getElem?_append_left hi, List.getElem?_eq_getElem hi]
    clear ht
    have e1 : (l1.map fun n => [AV.int .i64 n]).length = l1.length := by simp
    have e2 : (l2.map fun n => [AV.int .i64 n]).length = l2.length := by simp
    simp only [ocV, intRows, List.map_cons, List.map_nil] at kf kf2 ks
    refine WpCall.slim (M := 93) (rs := [.tmp 12]) (hw.call _) hw.ice hw.froz Try.func7 rfl rfl code7.2 rfl ?_; dsimp only [code7, envOf, Nat.reduceAdd]
    repeat' (first
       | (apply Rx.nl ?_; clear hK K) | apply Ry.o ?_ | apply Ry.on ?_ | (apply Ry.call ?_; first | refine Rx.k (kp _) ?_ | refine Rx.k (kArgs a b w _) ?_ | refine Rx.k (kfu _) ?_ | refine Rx.k (kf _) ?_ | refine Rx.k (kf2 _) ?_ | refine Rx.k (kk _) ?_ | refine Rx.k (ks _) ?_ | refine Rx.k (kEx6 (l6 := [enPick]) _) ?_) | apply Ry.gu ?_ | (apply Ry.gd (fun hg hgp => ?_) (fun hg hgp => ?_) <;> try (cases hg; done)) | (apply Ry.cd (fun hb hbp => ?_) (fun hb hbp => ?_) <;> try (cases hb; done)) | apply Wp.seq ?_ | (apply Wp.ops' fun K hK => ?_) | (apply Rx.dP 5 [0, 1, 2, 3, 7, 4, 5, 6, 8] [(0, 5), (0, 7), (4, 5), (4, 7), (4, 8)] fun K hK => ?_) | (apply Rx.dT 13 [(1, 11), (4, 11), (6, 11), (9, 11)] fun K hK => ?_) | (apply Rx.nq ?_; try intro _) | (apply Rx.nt ?_ ?_ <;> clear hK K) | apply WpT.step ?_ | apply WpT.step0 rfl ?_ | apply Ry.gv ?_ | (apply Ry.gt (fun hg hgp => ?_) (fun hg hgp => ?_) <;> try (cases hg; done)) | apply Wp.block ?_ | apply Rx.sk ?_ | apply Rx.rt ?_ | apply Rx.xt ?_)
    · exact eK
    refine Wp.forI [16, 17, 76] [1, 2] 77 l1.length (fun _ _ _ => True) eE trivial ?_
    rintro i E H2 hi hcE hrH hnH hsI _
    (try simp only [forall_cons, forall_nil, and_true, sB, sO, Nat.reduceBEq, Nat.reduceAdd, Nat.reduceLeDiff, tyF, *] at hcE)
    (try simp only [forall_cons, forall_nil, and_true, sB, sO, Nat.reduceBEq, Nat.reduceAdd, Nat.reduceLeDiff, tyF, *] at hrH)
    (try simp only [Hp.next_alloc, Hp.next_set, H0_next, Nat.zero_add, Nat.reduceAdd] at hnH)
    repeat' (first
       | (apply Rx.nl ?_; clear hK K) | apply Rx.o ?_ | apply Rx.on ?_ | (apply Rx.call ?_; first | refine Rx.k (kEx6 (l6 := [enPick]) _) ?_) | apply Rx.gu ?_ | (apply Rx.gd (fun hg hgp => ?_) (fun hg hgp => ?_) <;> try (cases hg; done)) | (apply Rx.cd (fun hb hbp => ?_) (fun hb hbp => ?_) <;> try (cases hb; done)) | apply Wp.seq ?_ | (apply Wp.ops' fun K hK => ?_) | (apply Rx.dP 5 [0, 1, 2, 3, 7, 4, 5, 6, 8] [(0, 5), (0, 7), (4, 5), (4, 7), (4, 8)] fun K hK => ?_) | (apply Rx.dT 13 [(1, 11), (4, 11), (6, 11), (9, 11)] fun K hK => ?_) | (apply Rx.nq ?_; try intro _) | (apply Rx.nt ?_ ?_ <;> clear hK K) | apply WpT.step ?_ | apply WpT.step0 rfl ?_ | apply Rx.gv ?_ | (apply Rx.gt (fun hg hgp => ?_) (fun hg hgp => ?_) <;> try (cases hg; done)) | apply Wp.block ?_ | apply Rx.sk ?_ | apply Rx.rt ?_ | apply Rx.xt ?_)
    · have hlt : i < l1.length := by omega
      have hg1 : l1[i]? = some l1[i] := List.getElem?_eq_getElem hlt
      have hg2 := hge i hlt
      repeat' (first
         | (apply Rx.nl ?_; clear hK K) | apply Ry.o ?_ | apply Ry.on ?_ | apply Ry.gu ?_ | (apply Ry.gd (fun hg hgp => ?_) (fun hg hgp => ?_) <;> try (cases hg; done)) | (apply Ry.cd (fun hb hbp => ?_) (fun hb hbp => ?_) <;> try (cases hb; done)) | apply Wp.seq ?_ | (apply Wp.ops' fun K hK => ?_) | (apply Rx.dP 5 [0, 1, 2, 3, 7, 4, 5, 6, 8] [(0, 5), (0, 7), (4, 5), (4, 7), (4, 8)] fun K hK => ?_) | (apply Rx.dT 13 [(1, 11), (4, 11), (6, 11), (9, 11)] fun K hK => ?_) | (apply Rx.nq ?_; try intro _) | (apply Rx.nt ?_ ?_ <;> clear hK K) | apply WpT.step ?_ | apply WpT.step0 rfl ?_ | apply Ry.gv ?_ | (apply Ry.gt (fun hg hgp => ?_) (fun hg hgp => ?_) <;> try (cases hg; done)) | apply Wp.block ?_ | apply Rx.sk ?_ | apply Rx.rt ?_ | apply Rx.xt ?_)
      · exact eK
      · refine ⟨by omega, eL, eL, eN, (by simp only [sB, Nat.reduceBEq, *]; exact i64_succ (n := l1.length) (by omega) (by omega)), ?_⟩
        exact trivial
    · all_goals (refine ⟨eI, _, eR, ?_⟩; try simp only [oneOr])
  · obtain ⟨k1, c1, l1, v1⟩ := o2
    simp only [ocV, intRows, List.map_cons, List.map_nil] at kf kf2 ks
    simp only at h1
    rcases h1 with rfl | rfl
    all_goals
      refine WpCall.slim (M := 93) (rs := [.tmp 12]) (hw.call _) hw.ice hw.froz Try.func7 rfl rfl code7.2 rfl ?_; dsimp only [code7, envOf, Nat.reduceAdd]
      repeat' (first
         | (apply Rx.nl ?_; clear hK K) | apply Ry.o ?_ | apply Ry.on ?_ | (apply Ry.call ?_; first | refine Rx.k (kp _) ?_ | refine Rx.k (kArgs a b w _) ?_ | refine Rx.k (kfu _) ?_ | refine Rx.k (kf _) ?_ | refine Rx.k (kf2 _) ?_ | refine Rx.k (kk _) ?_ | refine Rx.k (ks _) ?_ | refine Rx.k (kEx6 (l6 := [enPick]) _) ?_) | apply Ry.gu ?_ | (apply Ry.gd (fun hg hgp => ?_) (fun hg hgp => ?_) <;> try (cases hg; done)) | (apply Ry.cd (fun hb hbp => ?_) (fun hb hbp => ?_) <;> try (cases hb; done)) | apply Wp.seq ?_ | (apply Wp.ops' fun K hK => ?_) | (apply Rx.dP 5 [0, 1, 2, 3, 7, 4, 5, 6, 8] [(0, 5), (0, 7), (4, 5), (4, 7), (4, 8)] fun K hK => ?_) | (apply Rx.dT 13 [(1, 11), (4, 11), (6, 11), (9, 11)] fun K hK => ?_) | (apply Rx.nq ?_; try intro _) | (apply Rx.nt ?_ ?_ <;> clear hK K) | apply WpT.step ?_ | apply WpT.step0 rfl ?_ | apply Ry.gv ?_ | (apply Ry.gt (fun hg hgp => ?_) (fun hg hgp => ?_) <;> try (cases hg; done)) | apply Wp.block ?_ | apply Rx.sk ?_ | apply Rx.rt ?_ | apply Rx.xt ?_)
      · exact eK
      · all_goals (refine ⟨eI, _, eR, ?_⟩; try simp only [oneOr])
theorem con (l : List Int) (a b w fuel more : Int) (hl : l.length < 2 ^ 63) : Con Try.prog (fun _ => 0) 7 [intRows l, .int .i64 a, .int .i64 b, .int .i64 w, .int .i64 fuel, .int .i64 more] (.bool true) :=
  Con.lev fit (pls := pls) (levZ_ok _) (.cons (intRows_pure l) (.cons (.int _ _) (.cons (.int _ _) (.cons (.int _ _) (.cons (.int _ _) (.cons (.int _ _) .nil)))))) (.bool _) (law l a b w fuel more hl)
set_option maxRecDepth 100000 in
theorem walk {H : Type} {enc : TypeId × Value → H} (W : World) (v0 : Value) {r : Reach} {b0 : Nat} (k0 : Value.okWide Try.prog W r b0 26 v0) {d : DataW H} {ps : List MemPlace} {sp : Nat → Bool} {held : Bool} (h0 : DataW.Trod enc Try.prog W 0 sp held 26 v0 d ps) (a1 a2 a3 a4 a5 : Int) :
    Calls Try.prog 7 #[v0, .int .i64 a1, .int .i64 a2, .int .i64 a3, .int .i64 a4, .int .i64 a5] W fun e w' => e = .returned (.bool true) ∧ Below W.heap.size W w' := by
  obtain ⟨l, hv, hl⟩ := seeds_arg k0 h0
  exact Con.walk (ρ := fun _ => 0) (F := memF W) (con l a1 a2 a3 a4 a5 hl) (memF_ok W) (VRs.cons hv (VRs.cons (.int .i64 a1) (VRs.cons (.int .i64 a2) (VRs.cons (.int .i64 a3) (VRs.cons (.int .i64 a4) (VRs.cons (.int .i64 a5) (VRs.nil _)))))))
set_option maxRecDepth 100000 in
theorem lifted (os : Os) (started : os.Started) (H : Type) (enc : TypeId × Value → H) :
    ReturnsInHanded {} Try.checked os 7 .any (Rows.interpFuelMonotonicSpec.pre6 enc Try.prog Try.f7 Rows.interpFuelMonotonicRow.domain false) (Rows.interpFuelMonotonicSpec.post enc Try.prog Try.f7 false true false false) := by
  refine returnsInHanded_of_change (C := Try.checked) own started (by kernel_rfl) Try.func7
    (ChangeSpec.witness6 (enc := enc) (C := Try.checked) false ⟨#[], #[.slice none 0 0, .int .i64 0, .int .i64 0, .int .i64 0, .int .i64 0, .int .i64 0], []⟩ 8 (by kernel_rfl) (by kernel_rfl) (by kernel_rfl) (by kernel_rfl)) ?_
  intro W base args ds gs before hval0 hW hcnd _
  have hval : ∀ (j : Nat) t v, Try.f7.params[j]? = some t → args[j]? = some v → Value.okWide Try.prog W .any base t v := hval0
  have hW' := hW
  obtain ⟨p, q, hA0, hV, rfl, hfz, hnd⟩ := hW
  have hA : DataW.TrodAll enc Try.prog W 0 (fun _ => true) true Try.f7.params.toList args.toList ds p := hA0
  rw [Try.params7] at hA hval
  obtain ⟨v0, vs0, d0, ds0, p0, q0, hargs, rfl, rfl, h0, r0⟩ := trodAll_cons hA
  obtain ⟨v1, vs1, d1, ds1, p1, q1, rfl, rfl, rfl, h1, r1⟩ := trodAll_cons r0
  obtain ⟨v2, vs2, d2, ds2, p2, q2, rfl, rfl, rfl, h2, r2⟩ := trodAll_cons r1
  obtain ⟨v3, vs3, d3, ds3, p3, q3, rfl, rfl, rfl, h3, r3⟩ := trodAll_cons r2
  obtain ⟨v4, vs4, d4, ds4, p4, q4, rfl, rfl, rfl, h4, r4⟩ := trodAll_cons r3
  obtain ⟨v5, vs5, d5, ds5, p5, q5, rfl, rfl, rfl, h5, r5⟩ := trodAll_cons r4
  obtain ⟨rfl, rfl, rfl⟩ := trodAll_nil r5
  obtain rfl : args = #[v0, v1, v2, v3, v4, v5] := by cases args; simp_all
  obtain ⟨rfl, rfl⟩ := trodVars_none hV
  have k0 := hval 0 26 v0 rfl rfl
  obtain ⟨a1, rfl, rfl, rfl, w1⟩ := open_int Try.underlying3 (hval 1 3 v1 rfl rfl) h1
  obtain ⟨a2, rfl, rfl, rfl, w2⟩ := open_int Try.underlying3 (hval 2 3 v2 rfl rfl) h2
  obtain ⟨a3, rfl, rfl, rfl, w3⟩ := open_int Try.underlying2 (hval 3 2 v3 rfl rfl) h3
  obtain ⟨a4, rfl, rfl, rfl, w4⟩ := open_int Try.underlying3 (hval 4 3 v4 rfl rfl) h4
  obtain ⟨a5, rfl, rfl, rfl, w5⟩ := open_int Try.underlying3 (hval 5 3 v5 rfl rfl) h5
  clear hA0 hval0
  refine (walk W v0 k0 h0 a1 a2 a3 a4 a5).mono fun e W' ⟨he, hg⟩ => ?_
  subst he
  exact ⟨_, rfl, post_of_below (pv := []) hW' (fun _ _ _ => (trodAll_cons_mk (shut_bool Try.underlying4 _) trodAll_mk0)) (fun sp hsp => (trodAll_cons_mk (arg_stays (by kernel_rfl) (by kernel_rfl) (of_decide_eq_true (by kernel_rfl)) h0 hg (fun p hp => hW'.lt p hp) (fun x hx => by simp [hx]) hsp) (trodAll_cons_mk (shut_int Try.underlying3 w1) (trodAll_cons_mk (shut_int Try.underlying3 w2) (trodAll_cons_mk (shut_int Try.underlying2 w3) (trodAll_cons_mk (shut_int Try.underlying3 w4) (trodAll_cons_mk (shut_int Try.underlying3 w5) trodAll_mk0))))))) (fun _ _ => rfl) (by simp) hg (ok_one (by kernel_rfl) rfl (okWide_bool_mk Try.underlying4 _))⟩
theorem over : Rows.interpFuelMonotonicRow.holds Try.pinned (OpenSpec.ofChange Rows.interpFuelMonotonicSpec) :=
  OpenClaim.holds_of_wide 7 Try.f7 rfl rfl rfl rfl rfl rfl rfl ⟨rfl, rfl, rfl, rfl, rfl⟩ rfl rfl rfl rfl rfl (by kernel_rfl) Try.func7 (by kernel_rfl)
    (of_decide_eq_true (by kernel_rfl)) (by unfold Func.isWrapper; first | (rw [if_pos (by decide +kernel)]; kernel_rfl) | (rw [if_neg (by decide +kernel)]; exact ⟨rfl, rfl⟩))
    (fun os started H enc _ => lifted os started H enc)
/-- THE STATEMENT -/
theorem proved : Rows.InterpFuelMonotonicSaid :=
  over
#print axioms proved
end Go.Proofs.Ytjkmbpieknaekaa.interpFuelMonotonic
