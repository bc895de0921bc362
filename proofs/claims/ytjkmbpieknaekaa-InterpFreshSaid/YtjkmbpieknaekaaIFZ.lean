/-
  The Go function fullinglaw6.InterpFresh returns true whatever its five arguments are, and leaves all memory that was there as it was. Conditions: none.
-/
import Derived.OpenShut
import Derived.ProofKit
import Derived.Test.YtjkmbpieknaekaaIFS
import Derived.WalkKit
set_option linter.unusedSimpArgs false
set_option linter.unusedVariables false
set_option linter.unusedSectionVars false
set_option linter.defProp false
namespace Go.Proofs.Ytjkmbpieknaekaa.interpFresh
set_option maxRecDepth 20000
set_option linter.unusedVariables false
set_option linter.unusedSimpArgs false
set_option linter.unusedSectionVars false
set_option linter.defProp false
set_option maxRecDepth 20000
open Go Go.Ab
namespace tyInterpFresh
def tyF := And.intro @tq2 (And.intro @tq3 (And.intro @tq22 (And.intro @tq23 (And.intro @tq25 (And.intro @tq30 (And.intro @tq52 (And.intro @tq56 (And.intro @tq61 (And.intro @slA1 (And.intro @bs1 (@ag4)))))))))))
end tyInterpFresh
open tyInterpFresh Go.ChangeShapes Go.WideShapes Go.ChangeAt Go.RowKit
theorem own : ownKnob Try.prog.godebug = none := by kernel_rfl
noncomputable def code10 : { c : SC // slim 63 (Try.f10.body.getD .skip) = c } := by
  refine ⟨?_, ?_⟩
  rotate_left
  · simp only [Try.f10, Option.getD_some, slim, slimR, slimL, slimD, slimG, Nat.blt, Nat.ble]
    rfl
def enPF : En := enK 24 pgFresh.list
noncomputable abbrev levZ : List En := lev6 [enPF]
theorem levZ_ok (ρ : Nat → Int) : EnsOk Try.prog ρ levZ := lev6_ok ρ ⟨enK_ok _ (pgFresh.ok ρ), trivial⟩
set_option maxRecDepth 100000 in
set_option maxHeartbeats 16000000 in
theorem law (l : List Int) (a b w fuel : Int) (hl : l.length < 2 ^ 63) : WpCall Try.prog (cfgN pls levZ) 10 [intRows l, .int .i64 a, .int .i64 b, .int .i64 w, .int .i64 fuel] H0 fun v _ => v = .bool true := by
  have hw : Plain (cfgN pls levZ) 10 := plainN (fun _ => rfl) rfl
  have hf := pickG_range (n := fuel) (m := 12) (by omega) (by omega)
  have hrf := genRunF l (wordG a w) (wordG b w) (pickG fuel 12) hf.1 (by omega)
  have hrg := genRunG l (wordG a w) (pickG fuel 12) hf.1 (by omega)
  have hof := runG_out hrf
  have kf := kRun (l6 := [enPF]) _ _ _ _ hrf
  have kg := kRun (l6 := [enPF]) _ _ _ _ hrg
  generalize runG ⟨genP l, [102], [wordG a w, wordG b w], pickG fuel 12⟩ = o1 at *
  generalize runG ⟨genP l, [103], [wordG a w], pickG fuel 12⟩ = o2 at *
  obtain ⟨k1, c1, l1, v1⟩ := o1
  obtain ⟨k2, c2, l2, v2⟩ := o2
  have ks := kSame (l6 := [enPF]) _ (show (⟨k1, c1, l1, v1⟩ : Oc).out.length < 2 ^ 60 from Nat.lt_of_le_of_lt hof (by decide))
  simp only [ocV, intRows, List.map_cons, List.map_nil] at kf kg ks
  refine WpCall.slim (M := 63) (rs := [.tmp 10]) (hw.call _) hw.ice hw.froz Try.func10 rfl rfl code10.2 rfl ?_; dsimp only [code10, envOf, Nat.reduceAdd]
  repeat' (first
     | (apply Rx.nl ?_; clear hK K) | apply Rx.o ?_ | apply Rx.on ?_ | (apply Rx.call ?_; first | refine Rx.k (kProg l hl _) ?_ | refine Rx.k (kArgs a b w _) ?_ | refine Rx.k (kFuel fuel _) ?_ | refine Rx.k (kf _) ?_ | refine Rx.k (kg _) ?_) | apply Rx.gu ?_ | (apply Rx.gd (fun hg hgp => ?_) (fun hg hgp => ?_) <;> try (cases hg; done)) | apply Wp.seq ?_ | (apply Wp.ops' fun K hK => ?_) | (apply Rx.dP 3 [0, 1, 2, 5, 3, 4, 6] [(0, 4), (0, 5), (3, 4), (3, 5), (3, 6)] fun K hK => ?_) | (apply Rx.dT 4 [(0, 4), (0, 5), (2, 4), (2, 5)] fun K hK => ?_) | (apply Rx.dP 5 [0, 1, 2, 5, 3, 4, 6] [(0, 4), (0, 5), (3, 4), (3, 5), (3, 6)] fun K hK => ?_) | (apply Rx.nq ?_; try intro _) | (apply Rx.nt ?_ ?_ <;> clear hK K) | apply WpT.step ?_ | apply WpT.step0 rfl ?_ | apply Rx.gv ?_ | (apply Rx.gt (fun hg hgp => ?_) (fun hg hgp => ?_) <;> try (cases hg; done)) | apply Rx.sk ?_ | apply Rx.rt ?_)
  · exact eK
  · exact eK
  · exact eK
  refine WpL.call rfl eVk eAk ?_; simp only [List.cons_append, List.nil_append, List.append_nil]
  refine WpCall.mono ?_ (WpCall.known (Q := fun v H' => v = .tup [.agg pgFresh.pr.cells, .agg [.int .i64 0, .int .i64 0]] ∧ H' = _) (r := .tup [.agg pgFresh.pr.cells, .agg [.int .i64 0, .int .i64 0]]) (by kernel_rfl) ⟨rfl, rfl⟩)
  rintro _ _ ⟨rfl, rfl⟩
  dsimp only [setO]
  have hx0 : ∀ a b : AV, Ab.extract (.tup [a, b]) 0 = some a := fun _ _ => rfl
  have hx1 : ∀ a b : AV, Ab.extract (.tup [a, b]) 1 = some b := fun _ _ => rfl
  repeat' (first
     | (apply Rx.nl ?_; clear hK K) | apply Rx.o ?_ | apply Rx.on ?_ | apply Rx.gu ?_ | (apply Rx.gd (fun hg hgp => ?_) (fun hg hgp => ?_) <;> try (cases hg; done)) | apply Wp.seq ?_ | (apply Wp.ops' fun K hK => ?_) | (apply Rx.dP 3 [0, 1, 2, 5, 3, 4, 6] [(0, 4), (0, 5), (3, 4), (3, 5), (3, 6)] fun K hK => ?_) | (apply Rx.dT 4 [(0, 4), (0, 5), (2, 4), (2, 5)] fun K hK => ?_) | (apply Rx.dP 5 [0, 1, 2, 5, 3, 4, 6] [(0, 4), (0, 5), (3, 4), (3, 5), (3, 6)] fun K hK => ?_) | (apply Rx.nq ?_; try intro _) | (apply Rx.nt ?_ ?_ <;> clear hK K) | apply WpT.step ?_ | apply WpT.step0 rfl ?_ | apply Rx.gv ?_ | (apply Rx.gt (fun hg hgp => ?_) (fun hg hgp => ?_) <;> try (cases hg; done)) | apply Rx.sk ?_ | apply Rx.rt ?_)
  refine WpL.call rfl eVk eAk ?_; simp only [List.cons_append, List.nil_append, List.append_nil]
  refine WpCall.mono ?_ (kRunM (l6 := [enPF]) pgFresh.pr [102] [2] 0 fresh_ok (S := fun k => k = 5) rfl (Nat.lt_succ_self _) (by rw [Hp.get_alloc, if_pos (by rfl)]; rfl) (Nat.zero_le _))
  rw [fresh_run]
  simp only [ocV, intRows, List.map_nil]
  rintro _ H5 ⟨rfl, hy⟩
  obtain ⟨hn5, ho5, _⟩ := hy
  have g51 : H5.get 1 = some (.cells [.int .i64 k1, .int .i64 c1, .lst (l1.map fun n => [.int .i64 n]), .int .i64 v1] 0 true) := by
    rw [ho5 1 (by decide)]; simp [Hp.get_alloc, Hp.get_set, Hp.next_alloc, Hp.next_set, H0_next]
  have g52 : H5.get 2 = some (.cells [.int .i64 k1, .int .i64 c1, .lst (l1.map fun n => [.int .i64 n]), .int .i64 v1] 0 true) := by
    rw [ho5 2 (by decide)]; simp [Hp.get_alloc, Hp.get_set, Hp.next_alloc, Hp.next_set, H0_next]
  have n5 : H5.next = 6 := hn5
  have e1 : (1 == H5.next) = false := by rw [n5]; rfl
  have e2 : (2 == H5.next) = false := by rw [n5]; rfl
  clear ho5 hn5
  dsimp only [setO]
  repeat' (first
     | (apply Rx.nl ?_; clear hK K) | apply Ry.o ?_ | apply Ry.on ?_ | (apply Ry.call ?_; first | refine Rx.k (ks _) ?_ | refine Rx.k (kEx6 (l6 := [enPF]) _) ?_) | apply Ry.gu ?_ | (apply Ry.gd (fun hg hgp => ?_) (fun hg hgp => ?_) <;> try (cases hg; done)) | apply Wp.seq ?_ | (apply Wp.ops' fun K hK => ?_) | (apply Rx.dP 3 [0, 1, 2, 5, 3, 4, 6] [(0, 4), (0, 5), (3, 4), (3, 5), (3, 6)] fun K hK => ?_) | (apply Rx.dT 4 [(0, 4), (0, 5), (2, 4), (2, 5)] fun K hK => ?_) | (apply Rx.dP 5 [0, 1, 2, 5, 3, 4, 6] [(0, 4), (0, 5), (3, 4), (3, 5), (3, 6)] fun K hK => ?_) | (apply Rx.nq ?_; try intro _) | (apply Rx.nt ?_ ?_ <;> clear hK K) | apply WpT.step ?_ | apply WpT.step0 rfl ?_ | apply Ry.gv ?_ | (apply Ry.gt (fun hg hgp => ?_) (fun hg hgp => ?_) <;> try (cases hg; done)) | apply Rx.sk ?_ | apply Rx.rt ?_)
  all_goals (refine ⟨eI, _, eR, ?_⟩; try simp only [oneOr])
theorem con (l : List Int) (a b w fuel : Int) (hl : l.length < 2 ^ 63) : Con Try.prog (fun _ => 0) 10 [intRows l, .int .i64 a, .int .i64 b, .int .i64 w, .int .i64 fuel] (.bool true) :=
  Con.lev fit (pls := pls) (levZ_ok _) (.cons (intRows_pure l) (.cons (.int _ _) (.cons (.int _ _) (.cons (.int _ _) (.cons (.int _ _) .nil))))) (.bool _) (law l a b w fuel hl)
set_option maxRecDepth 100000 in
theorem walk {H : Type} {enc : TypeId × Value → H} (W : World) (v0 : Value) {r : Reach} {b0 : Nat} (k0 : Value.okWide Try.prog W r b0 26 v0) {d : DataW H} {ps : List MemPlace} {sp : Nat → Bool} {held : Bool} (h0 : DataW.Trod enc Try.prog W 0 sp held 26 v0 d ps) (a1 a2 a3 a4 : Int) :
    Calls Try.prog 10 #[v0, .int .i64 a1, .int .i64 a2, .int .i64 a3, .int .i64 a4] W fun e w' => e = .returned (.bool true) ∧ Below W.heap.size W w' := by
  obtain ⟨l, hv, hl⟩ := seeds_arg k0 h0
  exact Con.walk (ρ := fun _ => 0) (F := memF W) (con l a1 a2 a3 a4 hl) (memF_ok W) (VRs.cons hv (VRs.cons (.int .i64 a1) (VRs.cons (.int .i64 a2) (VRs.cons (.int .i64 a3) (VRs.cons (.int .i64 a4) (VRs.nil _))))))
set_option maxRecDepth 100000 in
theorem lifted (os : Os) (started : os.Started) (H : Type) (enc : TypeId × Value → H) :
    ReturnsInHanded {} Try.checked os 10 .any (Rows.interpFreshSpec.pre6 enc Try.prog Try.f10 Rows.interpFreshRow.domain false) (Rows.interpFreshSpec.post enc Try.prog Try.f10 false true false false) := by
  refine returnsInHanded_of_change (C := Try.checked) own started (by kernel_rfl) Try.func10
    (ChangeSpec.witness6 (enc := enc) (C := Try.checked) false ⟨#[], #[.slice none 0 0, .int .i64 0, .int .i64 0, .int .i64 0, .int .i64 0], []⟩ 8 (by kernel_rfl) (by kernel_rfl) (by kernel_rfl) (by kernel_rfl)) ?_
  intro W base args ds gs before hval0 hW hcnd _
  have hval : ∀ (j : Nat) t v, Try.f10.params[j]? = some t → args[j]? = some v → Value.okWide Try.prog W .any base t v := hval0
  have hW' := hW
  obtain ⟨p, q, hA0, hV, rfl, hfz, hnd⟩ := hW
  have hA : DataW.TrodAll enc Try.prog W 0 (fun _ => true) true Try.f10.params.toList args.toList ds p := hA0
  rw [Try.params10] at hA hval
  obtain ⟨v0, vs0, d0, ds0, p0, q0, hargs, rfl, rfl, h0, r0⟩ := trodAll_cons hA
  obtain ⟨v1, vs1, d1, ds1, p1, q1, rfl, rfl, rfl, h1, r1⟩ := trodAll_cons r0
  obtain ⟨v2, vs2, d2, ds2, p2, q2, rfl, rfl, rfl, h2, r2⟩ := trodAll_cons r1
  obtain ⟨v3, vs3, d3, ds3, p3, q3, rfl, rfl, rfl, h3, r3⟩ := trodAll_cons r2
  obtain ⟨v4, vs4, d4, ds4, p4, q4, rfl, rfl, rfl, h4, r4⟩ := trodAll_cons r3
  obtain ⟨rfl, rfl, rfl⟩ := trodAll_nil r4
  obtain rfl : args = #[v0, v1, v2, v3, v4] := by cases args; simp_all
  obtain ⟨rfl, rfl⟩ := trodVars_none hV
  have k0 := hval 0 26 v0 rfl rfl
  obtain ⟨a1, rfl, rfl, rfl, w1⟩ := open_int Try.underlying3 (hval 1 3 v1 rfl rfl) h1
  obtain ⟨a2, rfl, rfl, rfl, w2⟩ := open_int Try.underlying3 (hval 2 3 v2 rfl rfl) h2
  obtain ⟨a3, rfl, rfl, rfl, w3⟩ := open_int Try.underlying2 (hval 3 2 v3 rfl rfl) h3
  obtain ⟨a4, rfl, rfl, rfl, w4⟩ := open_int Try.underlying3 (hval 4 3 v4 rfl rfl) h4
  clear hA0 hval0
  refine (walk W v0 k0 h0 a1 a2 a3 a4).mono fun e W' ⟨he, hg⟩ => ?_
  subst he
  exact ⟨_, rfl, post_of_below (pv := []) hW' (fun _ _ _ => (trodAll_cons_mk (shut_bool Try.underlying4 _) trodAll_mk0)) (fun sp hsp => (trodAll_cons_mk (arg_stays (by kernel_rfl) (by kernel_rfl) (of_decide_eq_true (by kernel_rfl)) h0 hg (fun p hp => hW'.lt p hp) (fun x hx => by simp [hx]) hsp) (trodAll_cons_mk (shut_int Try.underlying3 w1) (trodAll_cons_mk (shut_int Try.underlying3 w2) (trodAll_cons_mk (shut_int Try.underlying2 w3) (trodAll_cons_mk (shut_int Try.underlying3 w4) trodAll_mk0)))))) (fun _ _ => rfl) (by simp) hg (ok_one (by kernel_rfl) rfl (okWide_bool_mk Try.underlying4 _))⟩
theorem over : Rows.interpFreshRow.holds Try.pinned (OpenSpec.ofChange Rows.interpFreshSpec) :=
  OpenClaim.holds_of_wide 10 Try.f10 rfl rfl rfl rfl rfl rfl rfl ⟨rfl, rfl, rfl, rfl, rfl⟩ rfl rfl rfl rfl rfl (by kernel_rfl) Try.func10 (by kernel_rfl)
    (of_decide_eq_true (by kernel_rfl)) (by unfold Func.isWrapper; first | (rw [if_pos (by decide +kernel)]; kernel_rfl) | (rw [if_neg (by decide +kernel)]; exact ⟨rfl, rfl⟩))
    (fun os started H enc _ => lifted os started H enc)
/-- THE STATEMENT -/
theorem proved : Rows.InterpFreshSaid :=
  over
#print axioms proved
end Go.Proofs.Ytjkmbpieknaekaa.interpFresh
