/-
  The Go function fullinglaw6.InterpSwappedFunctions returns true whatever its five arguments are, and leaves all memory that was there as it was. Conditions: none.
-/
import Derived.OpenShut
import Derived.ProofKit
import Derived.Test.YtjkmbpieknaekaaIC1A
import Derived.WalkKit
set_option linter.unusedSimpArgs false
set_option linter.unusedVariables false
set_option linter.unusedSectionVars false
set_option linter.defProp false
namespace Go.Proofs.Ytjkmbpieknaekaa.interpSwappedFunctions
set_option maxRecDepth 20000
set_option linter.unusedVariables false
set_option linter.unusedSimpArgs false
set_option linter.unusedSectionVars false
set_option linter.defProp false
set_option maxRecDepth 20000
open Go Go.Ab
namespace tyInterpSwappedFunctions
def tyF := And.intro @tq2 (And.intro @tq22 (And.intro @tq23 (And.intro @tq25 (And.intro @tq52 (@slA1)))))
end tyInterpSwappedFunctions
open tyInterpSwappedFunctions Go.ChangeShapes Go.WideShapes Go.ChangeAt Go.RowKit
theorem own : ownKnob Try.prog.godebug = none := by kernel_rfl
noncomputable def code11 : { c : SC // slim 49 (Try.f11.body.getD .skip) = c } := by
  refine ⟨?_, ?_⟩
  rotate_left
  · simp only [Try.f11, Option.getD_some, slim, slimR, slimL, slimD, slimG, Nat.blt, Nat.ble]
    rfl
noncomputable abbrev levZ : List En := lev6 [enSwap]
theorem levZ_ok (ρ : Nat → Int) : EnsOk Try.prog ρ levZ := lev6_ok ρ ⟨enSwap_ok ρ, trivial⟩
theorem kSwap (p : Pr) (hp : p.sz < 2 ^ 36) (H : Hp) : WpCall Try.prog (cfgN pls levZ) 18 [.agg p.cells] H fun v H' => v = .agg (swapP p).cells ∧ H' = H :=
  WpCall.en (x := p) (enc := prE) (out := fun p => .agg (swapP p).cells) prE_inj rfl hp
theorem swFix (l : List Int) : fixOf (swapP (genP l)) = [([103], 0), ([102], 1)] := rfl
theorem swRunF (l : List Int) (a b fuel : Int) (h0 : 0 ≤ fuel) (h1 : fuel ≤ 1000) : RunA.ok ⟨swapP (genP l), [102], [a, b], fuel⟩ where
  v := swap_valid (genP_valid l)
  sz := by show (swapP (genP l)).sz < _; rw [swap_sz]; exact genP_sz l
  f0 := h0
  f1 := h1
  has := by show hasV (fixOf (swapP (genP l))) _ = true; rw [swFix]; rfl
  k0 := by show 0 ≤ lkV (fixOf (swapP (genP l))) _; rw [swFix]; show (0 : Int) ≤ lkV [([103], 0), ([102], 1)] [102]; decide
  fn := by
    refine ⟨genF (l.take 60), ?_, rfl⟩
    show (swapP (genP l)).funcs[(lkV (fixOf (swapP (genP l))) _).toNat]? = _
    rw [swFix]; rfl
  al := by simp
theorem swRunG (l : List Int) (a fuel : Int) (h0 : 0 ≤ fuel) (h1 : fuel ≤ 1000) : RunA.ok ⟨swapP (genP l), [103], [a], fuel⟩ where
  v := swap_valid (genP_valid l)
  sz := by show (swapP (genP l)).sz < _; rw [swap_sz]; exact genP_sz l
  f0 := h0
  f1 := h1
  has := by show hasV (fixOf (swapP (genP l))) _ = true; rw [swFix]; rfl
  k0 := by show 0 ≤ lkV (fixOf (swapP (genP l))) _; rw [swFix]; show (0 : Int) ≤ lkV [([103], 0), ([102], 1)] [103]; decide
  fn := by
    refine ⟨genGf (l.take 60), ?_, rfl⟩
    show (swapP (genP l)).funcs[(lkV (fixOf (swapP (genP l))) _).toNat]? = _
    rw [swFix]; rfl
  al := by simp
theorem sw_same {p : Pr} {nm : Nm} {al : List Int} {fuel : Int} (h : RunA.ok ⟨p, nm, al, fuel⟩) (h' : RunA.ok ⟨swapP p, nm, al, fuel⟩) (hf : 0 ≤ findF p.funcs nm 0) : runG ⟨swapP p, nm, al, fuel⟩ = runG ⟨p, nm, al, fuel⟩ := by
  obtain ⟨r, n, hr, _⟩ := h.ends
  rw [runG_eq h hr]
  refine runG_eq h' (n := n) ?_
  have := swap_call h.v hf n al (startM p fuel)
  exact this ▸ hr
set_option maxRecDepth 100000 in
set_option maxHeartbeats 16000000 in
theorem law (l : List Int) (a b w fuel : Int) (hl : l.length < 2 ^ 63) : WpCall Try.prog (cfgN pls levZ) 11 [intRows l, .int .i64 a, .int .i64 b, .int .i64 w, .int .i64 fuel] H0 fun v _ => v = .bool true := by
  have hw : Plain (cfgN pls levZ) 11 := plainN (fun _ => rfl) rfl
  have hf := pickG_range (n := fuel) (m := 12) (by omega) (by omega)
  have hrf := genRunF l (wordG a w) (wordG b w) (pickG fuel 12) hf.1 (by omega)
  have hrg := genRunG l (wordG a w) (pickG fuel 12) hf.1 (by omega)
  have hsf := swRunF l (wordG a w) (wordG b w) (pickG fuel 12) hf.1 (by omega)
  have hsg := swRunG l (wordG a w) (pickG fuel 12) hf.1 (by omega)
  have hof := runG_out hrf
  have hog := runG_out hrg
  have kf := kRun (l6 := [enSwap]) _ _ _ _ hrf
  have kg := kRun (l6 := [enSwap]) _ _ _ _ hrg
  have kf2 := kRun (l6 := [enSwap]) _ _ _ _ hsf
  have kg2 := kRun (l6 := [enSwap]) _ _ _ _ hsg
  rw [sw_same hrf hsf (show (0 : Int) ≤ 0 by decide)] at kf2
  rw [sw_same hrg hsg (show (0 : Int) ≤ 1 by decide)] at kg2
  have hsw := kSwap (genP l) (genP_sz l)
  have kp := kProg (l6 := [enSwap]) l hl
  generalize runG ⟨genP l, [102], [wordG a w, wordG b w], pickG fuel 12⟩ = o1 at *
  generalize runG ⟨genP l, [103], [wordG a w], pickG fuel 12⟩ = o2 at *
  have ks := kSame (l6 := [enSwap]) o1 (Nat.lt_of_le_of_lt hof (by decide))
  have ks2 := kSame (l6 := [enSwap]) o2 (Nat.lt_of_le_of_lt hog (by decide))
  obtain ⟨k1, c1, l1, v1⟩ := o1
  obtain ⟨k2, c2, l2, v2⟩ := o2
  clear hrf hrg hsf hsg hof hog
  simp only [ocV, intRows, List.map_cons, List.map_nil] at kf kg ks kf2 kg2 ks2
  refine WpCall.slim (M := 49) (rs := [.tmp 10]) (hw.call _) hw.ice hw.froz Try.func11 rfl rfl code11.2 rfl ?_; dsimp only [code11, envOf, Nat.reduceAdd]
  repeat' (first
     | (apply Rx.nl ?_; clear hK K) | apply Ry.o ?_ | apply Ry.on ?_ | (apply Ry.call ?_; first | refine Rx.k (kp _) ?_ | refine Rx.k (hsw _) ?_ | refine Rx.k (kArgs a b w _) ?_ | refine Rx.k (kFuel fuel _) ?_ | refine Rx.k (kf _) ?_ | refine Rx.k (kg _) ?_ | refine Rx.k (kf2 _) ?_ | refine Rx.k (kg2 _) ?_ | refine Rx.k (ks _) ?_ | refine Rx.k (ks2 _) ?_ | refine Rx.k (kEx6 (l6 := [enSwap]) _) ?_) | apply Ry.gu ?_ | (apply Ry.gd (fun hg hgp => ?_) (fun hg hgp => ?_) <;> try (cases hg; done)) | apply Wp.seq ?_ | (apply Wp.ops' fun K hK => ?_) | (apply Rx.dT 4 [(0, 3), (4, 3), (4, 5), (11, 15), (13, 15), (16, 15), (16, 17), (19, 15), (19, 17), (19, 21)] fun K hK => ?_) | (apply Rx.nq ?_; try intro _) | (apply Rx.nt ?_ ?_ <;> clear hK K) | apply WpT.step ?_ | apply WpT.step0 rfl ?_ | apply Ry.gv ?_ | (apply Ry.gt (fun hg hgp => ?_) (fun hg hgp => ?_) <;> try (cases hg; done)) | apply Rx.sk ?_ | apply Rx.rt ?_)
  · exact eK
  · all_goals (refine ⟨eI, _, eR, ?_⟩; try simp only [oneOr])
theorem con (l : List Int) (a b w fuel : Int) (hl : l.length < 2 ^ 63) : Con Try.prog (fun _ => 0) 11 [intRows l, .int .i64 a, .int .i64 b, .int .i64 w, .int .i64 fuel] (.bool true) :=
  Con.lev fit (pls := pls) (levZ_ok _) (.cons (intRows_pure l) (.cons (.int _ _) (.cons (.int _ _) (.cons (.int _ _) (.cons (.int _ _) .nil))))) (.bool _) (law l a b w fuel hl)
set_option maxRecDepth 100000 in
theorem walk {H : Type} {enc : TypeId × Value → H} (W : World) (v0 : Value) {r : Reach} {b0 : Nat} (k0 : Value.okWide Try.prog W r b0 26 v0) {d : DataW H} {ps : List MemPlace} {sp : Nat → Bool} {held : Bool} (h0 : DataW.Trod enc Try.prog W 0 sp held 26 v0 d ps) (a1 a2 a3 a4 : Int) :
    Calls Try.prog 11 #[v0, .int .i64 a1, .int .i64 a2, .int .i64 a3, .int .i64 a4] W fun e w' => e = .returned (.bool true) ∧ Below W.heap.size W w' := by
  obtain ⟨l, hv, hl⟩ := seeds_arg k0 h0
  exact Con.walk (ρ := fun _ => 0) (F := memF W) (con l a1 a2 a3 a4 hl) (memF_ok W) (VRs.cons hv (VRs.cons (.int .i64 a1) (VRs.cons (.int .i64 a2) (VRs.cons (.int .i64 a3) (VRs.cons (.int .i64 a4) (VRs.nil _))))))
set_option maxRecDepth 100000 in
theorem lifted (os : Os) (started : os.Started) (H : Type) (enc : TypeId × Value → H) :
    ReturnsInHanded {} Try.checked os 11 .any (Rows.interpSwappedFunctionsSpec.pre6 enc Try.prog Try.f11 Rows.interpSwappedFunctionsRow.domain false) (Rows.interpSwappedFunctionsSpec.post enc Try.prog Try.f11 false true false false) := by
  refine returnsInHanded_of_change (C := Try.checked) own started (by kernel_rfl) Try.func11
    (ChangeSpec.witness6 (enc := enc) (C := Try.checked) false ⟨#[], #[.slice none 0 0, .int .i64 0, .int .i64 0, .int .i64 0, .int .i64 0], []⟩ 8 (by kernel_rfl) (by kernel_rfl) (by kernel_rfl) (by kernel_rfl)) ?_
  intro W base args ds gs before hval0 hW hcnd _
  have hval : ∀ (j : Nat) t v, Try.f11.params[j]? = some t → args[j]? = some v → Value.okWide Try.prog W .any base t v := hval0
  have hW' := hW
  obtain ⟨p, q, hA0, hV, rfl, hfz, hnd⟩ := hW
  have hA : DataW.TrodAll enc Try.prog W 0 (fun _ => true) true Try.f11.params.toList args.toList ds p := hA0
  rw [Try.params11] at hA hval
  obtain ⟨v0, vs0, d0, ds0, p0, q0, hargs, rfl, rfl, h0, r0⟩ := trodAll_cons hA
  obtain ⟨v1, vs1, d1, ds1, p1, q1, rfl, rfl, rfl, h1, r1⟩ := trodAll_cons r0
  obtain ⟨v2, vs2, d2, ds2, p2, q2, rfl, rfl, rfl, h2, r2⟩ := trodAll_cons r1
  obtain ⟨v3, vs3, d3, ds3, p3, q3, rfl, rfl, rfl, h3, r3⟩ := trodAll_cons r2
  obtain ⟨v4, vs4, d4, ds4, p4, q4, rfl, rfl, rfl, h4, r4⟩ := trodAll_cons r3
  obtain ⟨rfl, rfl, rfl⟩ := trodAll_nil r4
  obtain rfl : args = #[v0, v1, v2, v3, v4] := by cases args; simp_all
  obtain ⟨rfl, rfl⟩ := trodVars_none hV
  have k0 := hval 0 26 v0 rfl rfl
  obtain ⟨a1, rfl, rfl, rfl, w1⟩ := open_int Try.underlying3 (hval 1 3 v1 rfl rfl) h1
  obtain ⟨a2, rfl, rfl, rfl, w2⟩ := open_int Try.underlying3 (hval 2 3 v2 rfl rfl) h2
  obtain ⟨a3, rfl, rfl, rfl, w3⟩ := open_int Try.underlying2 (hval 3 2 v3 rfl rfl) h3
  obtain ⟨a4, rfl, rfl, rfl, w4⟩ := open_int Try.underlying3 (hval 4 3 v4 rfl rfl) h4
  clear hA0 hval0
  refine (walk W v0 k0 h0 a1 a2 a3 a4).mono fun e W' ⟨he, hg⟩ => ?_
  subst he
  exact ⟨_, rfl, post_of_below (pv := []) hW' (fun _ _ _ => (trodAll_cons_mk (shut_bool Try.underlying4 _) trodAll_mk0)) (fun sp hsp => (trodAll_cons_mk (arg_stays (by kernel_rfl) (by kernel_rfl) (of_decide_eq_true (by kernel_rfl)) h0 hg (fun p hp => hW'.lt p hp) (fun x hx => by simp [hx]) hsp) (trodAll_cons_mk (shut_int Try.underlying3 w1) (trodAll_cons_mk (shut_int Try.underlying3 w2) (trodAll_cons_mk (shut_int Try.underlying2 w3) (trodAll_cons_mk (shut_int Try.underlying3 w4) trodAll_mk0)))))) (fun _ _ => rfl) (by simp) hg (ok_one (by kernel_rfl) rfl (okWide_bool_mk Try.underlying4 _))⟩
theorem over : Rows.interpSwappedFunctionsRow.holds Try.pinned (OpenSpec.ofChange Rows.interpSwappedFunctionsSpec) :=
  OpenClaim.holds_of_wide 11 Try.f11 rfl rfl rfl rfl rfl rfl rfl ⟨rfl, rfl, rfl, rfl, rfl⟩ rfl rfl rfl rfl rfl (by kernel_rfl) Try.func11 (by kernel_rfl)
    (of_decide_eq_true (by kernel_rfl)) (by unfold Func.isWrapper; first | (rw [if_pos (by decide +kernel)]; kernel_rfl) | (rw [if_neg (by decide +kernel)]; exact ⟨rfl, rfl⟩))
    (fun os started H enc _ => lifted os started H enc)
/-- THE STATEMENT -/
theorem proved : Rows.InterpSwappedFunctionsSaid :=
  over
#print axioms proved
end Go.Proofs.Ytjkmbpieknaekaa.interpSwappedFunctions
