/-
  The Go function fullinglaw4.CheckerSingleError returns true whatever its two arguments are, and leaves all memory that was there as it was. Conditions: none.
-/
import Derived.OpenShut
import Derived.ProofKit
import Derived.Test.YtackdnelcpbfjaaSEO
import Derived.WalkKit
set_option linter.unusedSimpArgs false
set_option linter.unusedVariables false
set_option linter.unusedSectionVars false
set_option linter.defProp false
namespace Go.Proofs.Ytackdnelcpbfjaa.checkerSingleError
set_option maxRecDepth 20000
set_option linter.unusedVariables false
set_option linter.unusedSimpArgs false
set_option linter.unusedSectionVars false
set_option linter.defProp false
set_option maxRecDepth 20000
open Go Go.Ab
namespace tyCheckerSingleError
def tyF := And.intro @tq2 (And.intro @tq3 (And.intro @tq9 (And.intro @tq22 (And.intro @tq23 (And.intro @tq25 (And.intro @tq30 (And.intro @tq35 (And.intro @tq36 (And.intro @tq37 (And.intro @tq39 (And.intro @tq41 (And.intro @tq44 (And.intro @tq46 (And.intro @aggP2 (And.intro @aggE5 (And.intro @bsS0 (And.intro @bsE1x (And.intro @bNx (And.intro @kb7 (And.intro @bsT17 (And.intro @bTr (And.intro @bWe (And.intro @kb2 (@kb6))))))))))))))))))))))))
end tyCheckerSingleError
open tyCheckerSingleError Go.ChangeShapes Go.WideShapes Go.ChangeAt Go.RowKit
theorem own : ownKnob Try.prog.godebug = none := by kernel_rfl
noncomputable def code4 : { c : SC // slim 159 (Try.f4.body.getD .skip) = c } := by
  refine ⟨?_, ?_⟩
  rotate_left
  · simp only [Try.f4, Option.getD_some, slim, slimR, slimL, slimD, slimG, Nat.blt, Nat.ble]
    rfl
noncomputable def enCEx : En := ⟨15, false, fun args => lookK knCEx.list 15 args⟩
theorem enCEx_ok (ρ : Nat → Int) : EnOk Try.prog ρ enCEx := fun args r hr => lookK_ok (knCEx.ok ρ) _ args r hr
noncomputable def levS : List En := [enPick, enWord, enNms, enW enChkP, enCEx]
theorem levS_ok (ρ : Nat → Int) : EnsOk Try.prog ρ levS := ⟨enPick_ok ρ, enWord_ok ρ, enNms_ok ρ, enW_ok (enChkP_ok ρ), enCEx_ok ρ, trivial⟩
theorem genL_S : GenL levS := ⟨fun _ => rfl, fun _ => rfl, fun _ => rfl, fun f hf => by rcases genFn_cases hf with rfl | rfl | rfl | rfl | rfl <;> exact ⟨fun _ => rfl, rfl⟩⟩
theorem bN : buildA Try.prog 39 [(0, .int .i64 1)] = some (.agg [.int .i64 1, .int .i64 0, .str [], .int .i64 0, .nilS]) := by kernel_rfl
theorem bsE2 (H : Hp) (a0 a1 a2 a3 a4 b0 b1 b2 b3 b4 : AV) : buildSliceA Try.prog H 37 2 [(0, .agg [a0, a1, a2, a3, a4]), (1, .agg [b0, b1, b2, b3, b4])] = some (.sl H.next 0 2 5, H.alloc (.cells [a0, a1, a2, a3, a4, b0, b1, b2, b3, b4] 0 true)) := by kernel_rfl
theorem bO2 (q : Nat) : buildA Try.prog 39 [(0, .int .i64 4), (3, .int .i64 19), (4, .sl q 0 2 5)] = some (.agg [.int .i64 4, .int .i64 0, .str [], .int .i64 19, .sl q 0 2 5]) := by kernel_rfl
theorem bsS7 (H : Hp) (a b c d e f g : List UInt8) : buildSliceA Try.prog H 35 7 [(0, .str a), (1, .str b), (2, .str c), (3, .str d), (4, .str e), (5, .str f), (6, .str g)] = some (.sl H.next 0 7 1, H.alloc (.cells [.str a, .str b, .str c, .str d, .str e, .str f, .str g] 0 true)) := by kernel_rfl
theorem bsS3 (H : Hp) (a b c : List UInt8) : buildSliceA Try.prog H 35 3 [(0, .str a), (1, .str b), (2, .str c)] = some (.sl H.next 0 3 1, H.alloc (.cells [.str a, .str b, .str c] 0 true)) := by kernel_rfl
theorem kCEx (H : Hp) : WpCall Try.prog (cfgN pls levS) 15 [] H fun v H' => v = .bool true ∧ H' = H := WpCall.kn rfl
set_option maxRecDepth 100000 in
set_option maxHeartbeats 16000000 in
theorem law (l : List Int) (a : Int) (hl : l.length < 2 ^ 63) : WpCall Try.prog (cfgN pls levS) 4 [.lst (l.map fun n => [AV.int .i64 n]), .int .i64 a] H0 fun v _ => v = .bool true := by
  have hw : Plain (cfgN pls levS) 4 := plainN (fun _ => rfl) rfl
  have hkeep : (cfgN pls levS).keep 4 = false := rfl
  have hq := pickG_range (n := a) (m := 13) (by omega) (by omega)
  have k1 := fun H => pick_en (l := levS) (fun _ => rfl) a 13 (by decide) H
  have hF := genFacts l
  have hsz := genP_sz l
  generalize pickG a 13 = q at *
  refine WpCall.slim (M := 159) (rs := [.tmp 4]) (hw.call _) hw.ice hw.froz Try.func4 rfl rfl code4.2 rfl ?_; dsimp only [code4, envOf, Nat.reduceAdd]
  repeat' (first
     | (apply Rx.nl ?_; clear hK K) | apply Rx.o ?_ | apply Rx.on ?_ | apply Rx.gu ?_ | (apply Rx.gd (fun hg hgp => ?_) (fun hg hgp => ?_) <;> try (cases hg; done)) | (apply Rx.cd (fun hb hbp => ?_) (fun hb hbp => ?_) <;> try (cases hb; done)) | apply Wp.seq ?_ | (apply Wp.ops' fun K hK => ?_) | (apply Rx.nq ?_; try intro _) | (apply Rx.nt ?_ ?_ <;> clear hK K) | apply WpT.step ?_ | apply WpT.step0 rfl ?_ | apply Rx.gv ?_ | (apply Rx.gt (fun hg hgp => ?_) (fun hg hgp => ?_) <;> try (cases hg; done)) | apply Wp.block ?_ | apply Rx.sk ?_ | apply Rx.rt ?_ | apply Rx.xt ?_)
  refine WpL.call rfl eVk eAk ?_; simp only [List.cons_append, List.nil_append, List.append_nil]
  refine WpCall.mono ?_ (program_wp genL_S (stAll genL_S) l hl H0)
  rintro _ Hq ⟨ra, rf, x, y, cf, cg, rfl, _, _, _, hra, pt, pf, lf, bf, vf, pg, lg, bg, vg, rfl, rfl, hP, hA, hlab⟩
  have hgp : genP l = ⟨genAr (l.take 60), [genF (l.take 60), genGf (l.take 60)]⟩ := rfl
  rw [hA] at hgp
  obtain ⟨v0, v1, v2, v3, v4, rfl⟩ := len5 hP.F.len
  obtain ⟨w0, w1, w2, w3, w4, rfl⟩ := len5 hP.G.len
  have hX := (hP.toX (lo := 0) (Nat.zero_le _) (fun q h => by omega)).1
  clear hlab
  have gf := hP.gf
  change Hq.get rf = some (.cells [.str [102], pf, lf, bf, v0, v1, v2, v3, v4, .str [103], pg, lg, bg, w0, w1, w2, w3, w4] 0 true) at gf
  have ga := hP.ga
  have ltA := hP.ltA
  have ltF := hP.ltF
  have hrr : ra ≠ rf := fun e => by have h1 := hP.lra; have h2 := hP.lrf; rw [e] at h1; omega
  have i0 : ∀ r, indexAddrA Try.prog 23 (.sl r 0 2 9) (.int .i64 0) = some (.ptr r 0) := fun r => by kernel_rfl
  have i1 : ∀ r, indexAddrA Try.prog 23 (.sl r 0 2 9) (.int .i64 1) = some (.ptr r 9) := fun r => by kernel_rfl
  have j0 : ∀ r, indexAddrA Try.prog 22 (.sl r 0 2 2) (.int .i64 0) = some (.ptr r 0) := fun r => by kernel_rfl
  have hxy : (1 ≤ x ∧ x ≤ 4) ∧ (1 ≤ y ∧ y ≤ 4) := by
    have a1 := pickG_range (n := (nextG (l.take 60)).1) (m := 4) (by omega) (by omega)
    have a2 := pickG_range (n := w64 ((nextG (l.take 60)).1.tdiv 4)) (m := 4) (by omega) (by omega)
    simp only [genAr, List.cons.injEq, Ar.mk.injEq, and_true, true_and] at hA
    omega
  obtain ⟨hxr, hyr⟩ := hxy
  obtain ⟨z1, z2, z3, z4⟩ := gen_szs l
  have e1 : (rf == Hq.next) = false := ne_beq (by omega)
  have e2 : (rf == Hq.next + 1) = false := ne_beq (by omega)
  have e11 : (rf == Hq.next + 1 + 1) = false := ne_beq (by omega)
  have e12 : (rf == Hq.next + 2) = false := ne_beq (by omega)
  have e3 : (ra == Hq.next) = false := ne_beq (by omega)
  have e4 : (ra == Hq.next + 1) = false := ne_beq (by omega)
  have e5 : (Hq.next == rf) = false := ne_beq (by omega)
  have e6 : (Hq.next + 1 == rf) = false := ne_beq (by omega)
  have e7 : (Hq.next == ra) = false := ne_beq (by omega)
  have e8 : (Hq.next + 1 == ra) = false := ne_beq (by omega)
  have e9 : (ra == rf) = false := ne_beq hrr
  have e10 : (rf == ra) = false := ne_beq (Ne.symm hrr)
  dsimp only [setO]
  have gh0 := @bN
  repeat' (first
     | (apply Rx.nl ?_; clear hK K) | apply Ry.o ?_ | apply Ry.on ?_ | (apply Ry.call ?_; first | refine Rx.k (k1 _) ?_ | refine Rx.k (kCEx _) ?_) | apply Ry.gu ?_ | (apply Ry.gd (fun hg hgp => ?_) (fun hg hgp => ?_) <;> try (cases hg; done)) | (apply Ry.cd (fun hb hbp => ?_) (fun hb hbp => ?_) <;> try (cases hb; done)) | apply Wp.seq ?_ | (apply Wp.ops' fun K hK => ?_) | (apply Rx.nq ?_; try intro _) | (apply Rx.nt ?_ ?_ <;> clear hK K) | apply WpT.step ?_ | apply WpT.step0 rfl ?_ | apply Ry.gv ?_ | (apply Ry.gt (fun hg hgp => ?_) (fun hg hgp => ?_) <;> try (cases hg; done)) | apply Wp.block ?_ | apply Rx.sk ?_ | apply Rx.rt ?_ | apply Rx.xt ?_)
  · -- 0
    obtain ⟨q0, imm0, c0, d0, rfl, s0, l0, g0, i0', wc, wd⟩ := (show RowOwn (fun q => pt q = 4) 14 Hq 1 lf [[.str [105]], [.str [106]]] from hP.F.ls).two
    have n0 : q0 ≠ rf := fun e => by have h2 := hP.lrf; rw [e] at s0; omega
    have n0' : q0 ≠ ra := fun e => by have h2 := hP.lra; rw [e] at s0; omega
    generalize hHb : (((Hq.alloc (.cells [.nilS, .nilS] 0 true)).set Hq.next (.cells [.sl ra 0 2 2, .sl rf 0 2 9] 0 true)).alloc (.cells [.int .i64 0, .int .i64 0, .str [], .int .i64 0, .nilS] 0 true)).set (Hq.next + 1) (.cells [.int .i64 1, .int .i64 0, .str [], .int .i64 0, .nilS] 0 true) = Hb
    have nb : Hb.next = Hq.next + 2 := by rw [← hHb]; rfl
    have ob : ∀ q, q < Hq.next → Hb.get q = Hq.get q := fun q h1 => by rw [← hHb]; simp only [Hp.get_set, Hp.get_alloc, Hp.next_set, Hp.next_alloc]; (repeat rw [if_neg (by omega)])
    have pb : Hb.get Hq.next = some (.cells [.sl ra 0 2 2, .sl rf 0 2 9] 0 true) := by rw [← hHb]; simp only [Hp.get_set, Hp.get_alloc, Hp.next_set, Hp.next_alloc]; (repeat (first | rw [if_neg (by omega)] | rw [if_pos (by omega)])); rfl
    obtain ⟨nbl, nbg⟩ : Hb.next ≤ Hq.next + 2 ∧ Hq.next + 2 ≤ Hb.next := by omega
    clear hHb nb
    have gfb := (ob rf ltF).trans gf
    have g0b := (ob q0 l0).trans g0
    have e13 : (rf == Hb.next) = false := ne_beq (by omega)
    have e14 : (rf == Hb.next + 1) = false := ne_beq (by omega)
    have e15 : (rf == Hb.next + 1 + 1) = false := ne_beq (by omega)
    have e16 : (rf == Hb.next + 2) = false := ne_beq (by omega)
    have ec := wc.of_str
    have ed := wd.of_str
    subst ec; subst ed
    have a1 := app_cat (P := Try.prog) (t := 35) Try.underlying35 sz9 bt9 zr9 rfl (by kernel_rfl) (H := Hb.alloc (.cells [] 0 true)) (q := Hb.next) (m := 0) (k := 1) (cs := []) (row := [.str [105], .str [106]]) (v := .sl q0 0 2 1) (by rw [Hp.get_alloc, if_pos rfl]) rfl (src_sl (H := Hb.alloc (.cells [] 0 true)) (cs := [.str [105], .str [106]]) (r := q0) (o := 0) (n := 2) (z := 1) (s := 1) (by rw [Hp.get_alloc, if_neg (by omega)]; exact g0b) (by simp)) rfl (by decide) (by decide)
    generalize hH1 : ((Hb.alloc (.cells [] 0 true)).kill Hb.next).alloc (.cells ([] ++ [.str [105], .str [106]]) 0 true) = H1 at a1
    have n1 : H1.next = Hb.next + 2 := by rw [← hH1]; rfl
    have g1 : H1.get (Hb.next + 1) = some (.cells [.str [105], .str [106]] 0 true) := by rw [← hH1, Hp.get_alloc, if_pos (by rfl)]; rfl
    have o1 : ∀ q, q < Hb.next → H1.get q = Hb.get q := fun q h1 => by rw [← hH1, Hp.get_alloc, if_neg (by simp only [Hp.next_kill, Hp.next_alloc]; omega), Hp.get_kill, if_neg (by omega), Hp.get_alloc, if_neg (by omega)]
    obtain ⟨n1l, n1g⟩ : H1.next ≤ Hb.next + 2 ∧ Hb.next + 2 ≤ H1.next := by omega
    clear hH1 n1
    have a2 := app_cat (P := Try.prog) (t := 35) Try.underlying35 sz9 bt9 zr9 rfl (by kernel_rfl) (H := H1.alloc (.cells [.str [107], .str [108], .str [109], .str [111], .str [112], .str [113], .str [114]] 0 true)) (q := Hb.next + 1) (m := 2) (k := 6) (cs := [.str [105], .str [106]]) (row := [.str [107], .str [108], .str [109], .str [111], .str [112], .str [113], .str [114]]) (v := .sl H1.next 0 7 1) (by rw [Hp.get_alloc, if_neg (by omega)]; exact g1) rfl (src_sl (cs := [.str [107], .str [108], .str [109], .str [111], .str [112], .str [113], .str [114]]) (r := H1.next) (o := 0) (n := 7) (z := 1) (s := 1) (by rw [Hp.get_alloc, if_pos rfl]) (by simp)) rfl (by decide) (by decide)
    generalize hH2 : ((H1.alloc (.cells [.str [107], .str [108], .str [109], .str [111], .str [112], .str [113], .str [114]] 0 true)).kill (Hb.next + 1)).alloc (.cells ([.str [105], .str [106]] ++ [.str [107], .str [108], .str [109], .str [111], .str [112], .str [113], .str [114]]) 0 true) = H2 at a2
    have n2 : H2.next = Hb.next + 4 := by rw [← hH2]; show H1.next + 1 + 1 = _; omega
    have g2 : H2.get (Hb.next + 3) = some (.cells [.str [105], .str [106], .str [107], .str [108], .str [109], .str [111], .str [112], .str [113], .str [114]] 0 true) := by rw [← hH2, Hp.get_alloc, if_pos (by show Hb.next + 3 = H1.next + 1; omega)]; rfl
    have o2 : ∀ q, q < Hb.next → H2.get q = Hb.get q := fun q h1 => by rw [← hH2, Hp.get_alloc, if_neg (by simp only [Hp.next_kill, Hp.next_alloc]; omega), Hp.get_kill, if_neg (by omega), Hp.get_alloc, if_neg (by omega), o1 q h1]
    obtain ⟨n2l, n2g⟩ : H2.next ≤ Hb.next + 4 ∧ Hb.next + 4 ≤ H2.next := by omega
    clear hH2 n2
    have gf2 := (o2 rf (by omega)).trans gfb
    have p2 := (o2 Hq.next (by omega)).trans pb
    have hnx : (H1.alloc (.cells [.str [107], .str [108], .str [109], .str [111], .str [112], .str [113], .str [114]] 0 true)).next = Hb.next + 3 := by show H1.next + 1 = _; omega
    rw [hnx] at a2
    have hnx1 : (Hb.alloc (.cells [] 0 true)).next = Hb.next + 1 := rfl
    rw [hnx1] at a1
    clear hnx hnx1
    have nb : Hb.next = Hq.next + 2 := by omega
    simp only [nb, Nat.add_assoc, Nat.reduceAdd] at a1 a2 g2 e13 e14 e15 e16
    clear nb
    have e17 : (Hq.next == rf) = false := ne_beq (by omega)
    have gh0 := @bsS7
    repeat' (first
       | (apply Rx.nl ?_; clear hK K) | apply Rx.o ?_ | apply Rx.on ?_ | apply Rx.gu ?_ | (apply Rx.gd (fun hg hgp => ?_) (fun hg hgp => ?_) <;> try (cases hg; done)) | (apply Rx.cd (fun hb hbp => ?_) (fun hb hbp => ?_) <;> try (cases hb; done)) | apply Wp.seq ?_ | (apply Wp.ops' fun K hK => ?_) | (apply Rx.nq ?_; try intro _) | (apply Rx.nt ?_ ?_ <;> clear hK K) | apply WpT.step ?_ | apply WpT.step0 rfl ?_ | apply Rx.gv ?_ | (apply Rx.gt (fun hg hgp => ?_) (fun hg hgp => ?_) <;> try (cases hg; done)) | apply Wp.block ?_ | apply Rx.sk ?_ | apply Rx.rt ?_ | apply Rx.xt ?_)
    refine WpL.call rfl eVk eAk ?_; simp only [List.cons_append, List.nil_append, List.append_nil]
    refine WpCall.mono ?_ (ProgL.chk (fun _ => rfl) rfl (hP.locals (r := Hq.next + 5) [[105], [106], [107], [108], [109], [111], [112], [113], [114]] ?_ ?_ ?_ ?_ ?_ ?_) (by omega) ?_)
    · rintro v H5 rfl
      have hrc : refCheck (pr2 x y { genF (l.take 60) with locals := [[105], [106], [107], [108], [109], [111], [112], [113], [114]] } (genGf (l.take 60))) = 6 := sgl0 hF hxr hyr _ (by decide) _ _ _
      dsimp only [setO]
      repeat' (first
         | (apply Rx.nl ?_; clear hK K) | apply Ry.o ?_ | apply Ry.on ?_ | (apply Ry.call ?_; first | refine Rx.k (kCEx _) ?_) | apply Ry.gu ?_ | (apply Ry.gd (fun hg hgp => ?_) (fun hg hgp => ?_) <;> try (cases hg; done)) | (apply Ry.cd (fun hb hbp => ?_) (fun hb hbp => ?_) <;> try (cases hb; done)) | apply Wp.seq ?_ | (apply Wp.ops' fun K hK => ?_) | (apply Rx.nq ?_; try intro _) | (apply Rx.nt ?_ ?_ <;> clear hK K) | apply WpT.step ?_ | apply WpT.step0 rfl ?_ | apply Ry.gv ?_ | (apply Ry.gt (fun hg hgp => ?_) (fun hg hgp => ?_) <;> try (cases hg; done)) | apply Wp.block ?_ | apply Rx.sk ?_ | apply Rx.rt ?_ | apply Rx.xt ?_)
      all_goals (refine ⟨eI, _, eR, ?_⟩; try simp only [oneOr])
    · simp only [Hp.next_set]; omega
    · intro q h1 h2; rw [Hp.get_set, if_neg h2, o2 q (by omega), ob q h1]
    · omega
    · simp only [Hp.next_set]; omega
    · rw [Hp.get_set, if_neg (by omega)]; exact g2
    · rw [Hp.get_set, if_pos rfl]; rfl
    · simp only [pr2, arG2, Pr.sz, arrsSz, fnsSz, genF, genGf, Fu.sz, strsSz, Ex.sz, exprsSz, n0E, List.length_cons, List.length_nil]; omega
  · -- 1
    refine WpL.call rfl eVk eAk ?_; simp only [List.cons_append, List.nil_append, List.append_nil]
    refine WpCall.mono ?_ (ProgL.chk (fun _ => rfl) rfl (hP.set (x' := 17) (y' := y) (nf := [102]) (ng := [103]) ?_ ?_ ?_ ?_) (by omega) ?_)
    · rintro v H5 rfl
      have hrc := sgl1 hF hxr hyr (y := y)
      dsimp only [setO]
      repeat' (first
         | (apply Rx.nl ?_; clear hK K) | apply Ry.o ?_ | apply Ry.on ?_ | (apply Ry.call ?_; first | refine Rx.k (kCEx _) ?_) | apply Ry.gu ?_ | (apply Ry.gd (fun hg hgp => ?_) (fun hg hgp => ?_) <;> try (cases hg; done)) | (apply Ry.cd (fun hb hbp => ?_) (fun hb hbp => ?_) <;> try (cases hb; done)) | apply Wp.seq ?_ | (apply Wp.ops' fun K hK => ?_) | (apply Rx.nq ?_; try intro _) | (apply Rx.nt ?_ ?_ <;> clear hK K) | apply WpT.step ?_ | apply WpT.step0 rfl ?_ | apply Ry.gv ?_ | (apply Ry.gt (fun hg hgp => ?_) (fun hg hgp => ?_) <;> try (cases hg; done)) | apply Wp.block ?_ | apply Rx.sk ?_ | apply Rx.rt ?_ | apply Rx.xt ?_)
      all_goals (refine ⟨eI, _, eR, ?_⟩; try simp only [oneOr])
    · simp only [Hp.next_set, Hp.next_alloc]; omega
    · intro q h1 h2 h3; simp only [Hp.get_set, Hp.get_alloc, Hp.next_set, Hp.next_alloc]; (repeat rw [if_neg (by omega)])
    · simp only [Hp.get_set, Hp.get_alloc, Hp.next_set, Hp.next_alloc]; (repeat (first | rw [if_neg (by omega)] | rw [if_pos (by omega)])); first | rfl | exact ga | exact gf
    · simp only [Hp.get_set, Hp.get_alloc, Hp.next_set, Hp.next_alloc]; (repeat (first | rw [if_neg (by omega)] | rw [if_pos (by omega)])); first | rfl | exact ga | exact gf
    · simp only [pr2, arG2, Pr.sz, arrsSz, fnsSz, genF, genGf, Fu.sz, strsSz, Ex.sz, exprsSz, n0E, List.length_cons, List.length_nil]; omega
  · -- 2
    generalize hHb : (((Hq.alloc (.cells [.nilS, .nilS] 0 true)).set Hq.next (.cells [.sl ra 0 2 2, .sl rf 0 2 9] 0 true)).alloc (.cells [.int .i64 0, .int .i64 0, .str [], .int .i64 0, .nilS] 0 true)).set (Hq.next + 1) (.cells [.int .i64 1, .int .i64 0, .str [], .int .i64 0, .nilS] 0 true) = Hb
    obtain ⟨nbl, nbg, ob, pb, mb⟩ := startB hHb
    clear hHb
    have gfb := (ob rf ltF).trans gf
    obtain ⟨N, hN⟩ : ∃ N, (genF (l.take 60)).body.length = N := ⟨_, rfl⟩
    have hNl : N < 2 ^ 30 := by have h1 := stmtsSz_len (genB1 (l.take 60)).1; have h2 : (genF (l.take 60)).body = (genB1 (l.take 60)).1 := rfl; rw [h2] at hN; omega
    have hlen : ∀ H, lenAt Try.prog H 36 bf = some (.int .i64 N) := fun H => by have := hX.F.bo.len (P := Try.prog) (H' := H) Try.underlying36; rw [List.length_map, hN] at this; exact this
    obtain ⟨o1, o2⟩ := hX.F.bo.one
    have e21 : (rf == Hb.next) = false := ne_beq (by omega)
    have e22 : (rf == Hb.next + 1) = false := ne_beq (by omega)
    have e23 : (rf == Hb.next + 2) = false := ne_beq (by omega)
    have e24 : (Hb.next + 1 == rf) = false := ne_beq (by omega)
    have e25 : (Hb.next + 2 == rf) = false := ne_beq (by omega)
    have e26 : (Hq.next == rf) = false := ne_beq (by omega)
    have e27 : (Hq.next == Hb.next) = false := ne_beq (by omega)
    have e28 : (Hq.next == Hb.next + 1) = false := ne_beq (by omega)
    have e29 : (Hq.next == Hb.next + 2) = false := ne_beq (by omega)
    have e30 : (Hq.next + 1 == Hb.next) = false := ne_beq (by omega)
    have e31 : (Hq.next + 1 == Hb.next + 1) = false := ne_beq (by omega)
    have e32 : (Hq.next + 1 == Hb.next + 2) = false := ne_beq (by omega)
    repeat' (first
       | (apply Rx.nl ?_; clear hK K) | apply Rx.o ?_ | apply Rx.on ?_ | apply Rx.gu ?_ | (apply Rx.gd (fun hg hgp => ?_) (fun hg hgp => ?_) <;> try (cases hg; done)) | (apply Rx.cd (fun hb hbp => ?_) (fun hb hbp => ?_) <;> try (cases hb; done)) | apply Wp.seq ?_ | (apply Wp.ops' fun K hK => ?_) | (apply Rx.nq ?_; try intro _) | (apply Rx.nt ?_ ?_ <;> clear hK K) | apply WpT.step ?_ | apply WpT.step0 rfl ?_ | apply Rx.gv ?_ | (apply Rx.gt (fun hg hgp => ?_) (fun hg hgp => ?_) <;> try (cases hg; done)) | apply Wp.block ?_ | apply Rx.sk ?_ | apply Rx.rt ?_ | apply Rx.xt ?_)
    refine Wp.forI [4, 5, 6, 7, 8] [] 9 21 (fun i E H => ∃ u0 u1 u2 u3 u4, H.get rf = some (.cells [.str [102], pf, lf, bf, u0, u1, u2, u3, u4, .str [103], pg, lg, bg, w0, w1, w2, w3, w4] 0 true) ∧ H.get Hq.next = some (.cells [.sl ra 0 2 2, .sl rf 0 2 9] 0 true) ∧ (∀ q, q < Hq.next → q ≠ rf → H.get q = Hq.get q) ∧ AV.one u0 = true ∧ AV.one u1 = true ∧ AV.one u2 = true ∧ AV.one u3 = true ∧ AV.one u4 = true ∧ CellsW (fun q => Hb.next ≤ q) (i + 1) H [u0, u1, u2, u3, u4] (negs i).cells) eE ⟨_, _, _, _, _, by rw [Hp.get_set, if_pos rfl], by rw [Hp.get_set, if_neg (by omega)]; exact pb, fun q h1 h2 => by rw [Hp.get_set, if_neg h2]; exact ob q h1, rfl, rfl, rfl, rfl, rfl, ex_leaf 1 0 0 []⟩ ?_
    rintro i E H3 hi hcE hrH hnH hsI ⟨u0, u1, u2, u3, u4, g1, g2, g3, p0, p1, p2, p3, p4, hJ⟩
    (try simp only [forall_cons, forall_nil, and_true, sB, sO, Nat.reduceBEq, Nat.reduceAdd, Nat.reduceLeDiff, tyF, *] at hcE)
    (try simp only [forall_cons, forall_nil, and_true, sB, sO, Nat.reduceBEq, Nat.reduceAdd, Nat.reduceLeDiff, tyF, *] at hrH)
    (try simp only [Hp.next_alloc, Hp.next_set, H0_next, Nat.zero_add, Nat.reduceAdd] at hnH)
    have hnx : Hb.next ≤ H3.next := by simpa using hnH
    have f1 : (rf == H3.next) = false := ne_beq (by omega)
    have f2 : (Hq.next == H3.next) = false := ne_beq (by omega)
    have ag : aggA 5 [u0, u1, u2, u3, u4, .str [103], pg, lg, bg, w0, w1, w2, w3, w4] = some (.agg [u0, u1, u2, u3, u4]) := rfl
    repeat' (first
       | (apply Rx.nl ?_; clear hK K) | apply Rx.o ?_ | apply Rx.on ?_ | apply Rx.gu ?_ | (apply Rx.gd (fun hg hgp => ?_) (fun hg hgp => ?_) <;> try (cases hg; done)) | (apply Rx.cd (fun hb hbp => ?_) (fun hb hbp => ?_) <;> try (cases hb; done)) | apply Wp.seq ?_ | (apply Wp.ops' fun K hK => ?_) | (apply Rx.nq ?_; try intro _) | (apply Rx.nt ?_ ?_ <;> clear hK K) | apply WpT.step ?_ | apply WpT.step0 rfl ?_ | apply Rx.gv ?_ | (apply Rx.gt (fun hg hgp => ?_) (fun hg hgp => ?_) <;> try (cases hg; done)) | apply Wp.block ?_ | apply Rx.sk ?_ | apply Rx.rt ?_ | apply Rx.xt ?_)
    · have hlt : i < 21 := by omega
      refine ⟨by omega, eL, eL, eN, (by simp only [sB, Nat.reduceBEq, *]; exact i64_succ (n := 21) (by omega) (by omega)), ?_⟩
      refine ⟨_, _, _, _, _, by rw [Hp.get_set, if_pos rfl], by rw [Hp.get_set, if_neg (by omega), Hp.get_alloc, if_neg (by omega)]; exact g2, fun q h1 h2 => by rw [Hp.get_set, if_neg h2, Hp.get_alloc, if_neg (by omega)]; exact g3 q h1 h2, rfl, rfl, rfl, rfl, rfl, ?_⟩
      exact ex_node (n := i + 1) _ _ _ _ (RdW.rows (n := i + 1) (a := [[u0, u1, u2, u3, u4]]) (b := [(negs i).cells]) (imm := 0) (tip := true) (by omega) (Nat.lt_succ_self _) (by rw [Hp.get_set, if_neg (by omega), Hp.get_alloc, if_pos rfl]; rfl) (by simp) ⟨⟨rfl, hJ.keep (fun _ h => h) (Nat.le_succ _) fun q h1 h2 => by rw [Hp.get_set, if_neg (by omega), Hp.get_alloc, if_neg (by omega)]⟩, trivial⟩)
    · have hie : i = 21 := by omega
      subst hie
      have X5 := hX.setV (H' := H3) (n' := 22) (vf' := [u0, u1, u2, u3, u4]) (negs 21) (by omega) (by omega) (fun q _ h1 h2 => g3 q h1 h2) g1 rfl (by simp [p0, p1, p2, p3, p4]) (hJ.keep (fun q h => .inl (by omega)) (Nat.le_refl _) fun _ _ _ => rfl)
      clear hi hsI hJ
      repeat' (first
         | (apply Rx.nl ?_; clear hK K) | apply Rx.o ?_ | apply Rx.on ?_ | apply Rx.gu ?_ | (apply Rx.gd (fun hg hgp => ?_) (fun hg hgp => ?_) <;> try (cases hg; done)) | (apply Rx.cd (fun hb hbp => ?_) (fun hb hbp => ?_) <;> try (cases hb; done)) | apply Wp.seq ?_ | (apply Wp.ops' fun K hK => ?_) | (apply Rx.nq ?_; try intro _) | (apply Rx.nt ?_ ?_ <;> clear hK K) | apply WpT.step ?_ | apply WpT.step0 rfl ?_ | apply Rx.gv ?_ | (apply Rx.gt (fun hg hgp => ?_) (fun hg hgp => ?_) <;> try (cases hg; done)) | apply Wp.block ?_ | apply Rx.sk ?_ | apply Rx.rt ?_ | apply Rx.xt ?_)
      refine WpL.call rfl eVk eAk ?_; simp only [List.cons_append, List.nil_append, List.append_nil]
      refine WpCall.mono ?_ (X5.chk (fun _ => rfl) rfl (by omega) ?_)
      · rintro v H6 rfl
        have hrc : refCheck (ordP 0 x y { genF (l.take 60) with value := negs 21 } (genGf (l.take 60))) = 6 := sgl2 hF hxr hyr _ _ _ _ _
        dsimp only [setO]
        repeat' (first
           | (apply Rx.nl ?_; clear hK K) | apply Ry.o ?_ | apply Ry.on ?_ | (apply Ry.call ?_; first | refine Rx.k (kCEx _) ?_) | apply Ry.gu ?_ | (apply Ry.gd (fun hg hgp => ?_) (fun hg hgp => ?_) <;> try (cases hg; done)) | (apply Ry.cd (fun hb hbp => ?_) (fun hb hbp => ?_) <;> try (cases hb; done)) | apply Wp.seq ?_ | (apply Wp.ops' fun K hK => ?_) | (apply Rx.nq ?_; try intro _) | (apply Rx.nt ?_ ?_ <;> clear hK K) | apply WpT.step ?_ | apply WpT.step0 rfl ?_ | apply Ry.gv ?_ | (apply Ry.gt (fun hg hgp => ?_) (fun hg hgp => ?_) <;> try (cases hg; done)) | apply Wp.block ?_ | apply Rx.sk ?_ | apply Rx.rt ?_ | apply Rx.xt ?_)
        all_goals (refine ⟨eI, _, eR, ?_⟩; try simp only [oneOr])
      · show (pr2 x y ⟨[102], [[120], [121]], [[105], [106]], (genB1 (l.take 60)).1, negs 21⟩ (genGf (l.take 60))).sz < _
        have hs2 : (negs 21).sz ≤ 100 := Nat.le_of_ble_eq_true (by kernel_rfl)
        simp only [pr2, arG2, Pr.sz, arrsSz, fnsSz, genGf, Fu.sz, strsSz, List.length_cons, List.length_nil]
        omega
  · -- 3
    refine WpL.call rfl eVk eAk ?_; simp only [List.cons_append, List.nil_append, List.append_nil]
    refine WpCall.mono ?_ (ProgL.chk (fun _ => rfl) rfl (hP.set (x' := x) (y' := y) (nf := [119, 104, 105, 108, 101]) (ng := [103]) ?_ ?_ ?_ ?_) (by omega) ?_)
    · rintro v H5 rfl
      have hrc : refCheck (pr2 x y { genF (l.take 60) with name := [119, 104, 105, 108, 101] } { genGf (l.take 60) with name := [103] }) = 2 := sgl3 hF hxr hyr
      dsimp only [setO]
      repeat' (first
         | (apply Rx.nl ?_; clear hK K) | apply Ry.o ?_ | apply Ry.on ?_ | (apply Ry.call ?_; first | refine Rx.k (kCEx _) ?_) | apply Ry.gu ?_ | (apply Ry.gd (fun hg hgp => ?_) (fun hg hgp => ?_) <;> try (cases hg; done)) | (apply Ry.cd (fun hb hbp => ?_) (fun hb hbp => ?_) <;> try (cases hb; done)) | apply Wp.seq ?_ | (apply Wp.ops' fun K hK => ?_) | (apply Rx.nq ?_; try intro _) | (apply Rx.nt ?_ ?_ <;> clear hK K) | apply WpT.step ?_ | apply WpT.step0 rfl ?_ | apply Ry.gv ?_ | (apply Ry.gt (fun hg hgp => ?_) (fun hg hgp => ?_) <;> try (cases hg; done)) | apply Wp.block ?_ | apply Rx.sk ?_ | apply Rx.rt ?_ | apply Rx.xt ?_)
      all_goals (refine ⟨eI, _, eR, ?_⟩; try simp only [oneOr])
    · simp only [Hp.next_set, Hp.next_alloc]; omega
    · intro q h1 h2 h3; simp only [Hp.get_set, Hp.get_alloc, Hp.next_set, Hp.next_alloc]; (repeat rw [if_neg (by omega)])
    · simp only [Hp.get_set, Hp.get_alloc, Hp.next_set, Hp.next_alloc]; (repeat (first | rw [if_neg (by omega)] | rw [if_pos (by omega)])); first | rfl | exact ga | exact gf
    · simp only [Hp.get_set, Hp.get_alloc, Hp.next_set, Hp.next_alloc]; (repeat (first | rw [if_neg (by omega)] | rw [if_pos (by omega)])); first | rfl | exact ga | exact gf
    · simp only [pr2, arG2, Pr.sz, arrsSz, fnsSz, genF, genGf, Fu.sz, strsSz, Ex.sz, exprsSz, n0E, List.length_cons, List.length_nil]; omega
  · -- 4
    have gh0 := @bsE2
    have gh1 := @bO2
    repeat' (first
       | (apply Rx.nl ?_; clear hK K) | apply Rx.o ?_ | apply Rx.on ?_ | apply Rx.gu ?_ | (apply Rx.gd (fun hg hgp => ?_) (fun hg hgp => ?_) <;> try (cases hg; done)) | (apply Rx.cd (fun hb hbp => ?_) (fun hb hbp => ?_) <;> try (cases hb; done)) | apply Wp.seq ?_ | (apply Wp.ops' fun K hK => ?_) | (apply Rx.nq ?_; try intro _) | (apply Rx.nt ?_ ?_ <;> clear hK K) | apply WpT.step ?_ | apply WpT.step0 rfl ?_ | apply Rx.gv ?_ | (apply Rx.gt (fun hg hgp => ?_) (fun hg hgp => ?_) <;> try (cases hg; done)) | apply Wp.block ?_ | apply Rx.sk ?_ | apply Rx.rt ?_ | apply Rx.xt ?_)
    refine WpL.call rfl eVk eAk ?_; simp only [List.cons_append, List.nil_append, List.append_nil]
    refine WpCall.mono ?_ (ProgL.chk (fun _ => rfl) rfl (hP.value (vf' := [.int .i64 4, .int .i64 0, .str [], .int .i64 19, .sl (Hq.next + 2) 0 2 5]) (.mk 4 0 [] 19 [n0E, n0E]) ?_ ?_ rfl rfl ?_ ?_) (by omega) ?_)
    · rintro v H5 rfl
      have hrc : refCheck (pr2 x y { genF (l.take 60) with value := .mk 4 0 [] 19 [n0E, n0E] } (genGf (l.take 60))) = 2 := sgl4 hF hxr hyr
      dsimp only [setO]
      repeat' (first
         | (apply Rx.nl ?_; clear hK K) | apply Ry.o ?_ | apply Ry.on ?_ | (apply Ry.call ?_; first | refine Rx.k (kCEx _) ?_) | apply Ry.gu ?_ | (apply Ry.gd (fun hg hgp => ?_) (fun hg hgp => ?_) <;> try (cases hg; done)) | (apply Ry.cd (fun hb hbp => ?_) (fun hb hbp => ?_) <;> try (cases hb; done)) | apply Wp.seq ?_ | (apply Wp.ops' fun K hK => ?_) | (apply Rx.nq ?_; try intro _) | (apply Rx.nt ?_ ?_ <;> clear hK K) | apply WpT.step ?_ | apply WpT.step0 rfl ?_ | apply Ry.gv ?_ | (apply Ry.gt (fun hg hgp => ?_) (fun hg hgp => ?_) <;> try (cases hg; done)) | apply Wp.block ?_ | apply Rx.sk ?_ | apply Rx.rt ?_ | apply Rx.xt ?_)
      all_goals (refine ⟨eI, _, eR, ?_⟩; try simp only [oneOr])
    · simp only [Hp.next_set, Hp.next_alloc]; omega
    · intro q h1 h2; simp only [Hp.get_set, Hp.get_alloc, Hp.next_set, Hp.next_alloc]; (repeat rw [if_neg (by omega)])
    · refine CellsW.up (n := 3) (ex_node 4 0 19 [] (RdW.rows (n := 2) (a := [[.int .i64 1, .int .i64 0, .str [], .int .i64 0, .nilS], [.int .i64 1, .int .i64 0, .str [], .int .i64 0, .nilS]]) (imm := 0) (tip := true) (by omega) (by simp only [Hp.next_set, Hp.next_alloc]; omega) ?_ (by simp) ⟨⟨rfl, ex_leaf 1 0 0 []⟩, ⟨rfl, ex_leaf 1 0 0 []⟩, trivial⟩)) (by omega)
      simp only [Hp.get_set, Hp.get_alloc, Hp.next_set, Hp.next_alloc]; (repeat (first | rw [if_neg (by omega)] | rw [if_pos (by omega)])); rfl
    · simp only [Hp.get_set, Hp.get_alloc, Hp.next_set, Hp.next_alloc]; (repeat (first | rw [if_neg (by omega)] | rw [if_pos (by omega)])); first | rfl | exact ga | exact gf
    · simp only [pr2, arG2, Pr.sz, arrsSz, fnsSz, genF, genGf, Fu.sz, strsSz, Ex.sz, exprsSz, n0E, List.length_cons, List.length_nil]; omega
  · -- 5
    generalize hHb : (((Hq.alloc (.cells [.nilS, .nilS] 0 true)).set Hq.next (.cells [.sl ra 0 2 2, .sl rf 0 2 9] 0 true)).alloc (.cells [.int .i64 0, .int .i64 0, .str [], .int .i64 0, .nilS] 0 true)).set (Hq.next + 1) (.cells [.int .i64 1, .int .i64 0, .str [], .int .i64 0, .nilS] 0 true) = Hb
    obtain ⟨nbl, nbg, ob, pb, mb⟩ := startB hHb
    clear hHb
    have gfb := (ob rf ltF).trans gf
    obtain ⟨N, hN⟩ : ∃ N, (genF (l.take 60)).body.length = N := ⟨_, rfl⟩
    have hNl : N < 2 ^ 30 := by have h1 := stmtsSz_len (genB1 (l.take 60)).1; have h2 : (genF (l.take 60)).body = (genB1 (l.take 60)).1 := rfl; rw [h2] at hN; omega
    have hlen : ∀ H, lenAt Try.prog H 36 bf = some (.int .i64 N) := fun H => by have := hX.F.bo.len (P := Try.prog) (H' := H) Try.underlying36; rw [List.length_map, hN] at this; exact this
    obtain ⟨o1, o2⟩ := hX.F.bo.one
    have e21 : (rf == Hb.next) = false := ne_beq (by omega)
    have e22 : (rf == Hb.next + 1) = false := ne_beq (by omega)
    have e23 : (rf == Hb.next + 2) = false := ne_beq (by omega)
    have e24 : (Hb.next + 1 == rf) = false := ne_beq (by omega)
    have e25 : (Hb.next + 2 == rf) = false := ne_beq (by omega)
    have e26 : (Hq.next == rf) = false := ne_beq (by omega)
    have e27 : (Hq.next == Hb.next) = false := ne_beq (by omega)
    have e28 : (Hq.next == Hb.next + 1) = false := ne_beq (by omega)
    have e29 : (Hq.next == Hb.next + 2) = false := ne_beq (by omega)
    have e30 : (Hq.next + 1 == Hb.next) = false := ne_beq (by omega)
    have e31 : (Hq.next + 1 == Hb.next + 1) = false := ne_beq (by omega)
    have e32 : (Hq.next + 1 == Hb.next + 2) = false := ne_beq (by omega)
    obtain ⟨H', flat, imm', a1, a2, a3, a4, a5, a6, a7, a8, a9, a10⟩ := hX.pushB (Hb := Hb.alloc (.cells [.int .i64 0, .str [], .str [], .int .i64 0, .int .i64 0, .int .i64 0, .str [], .int .i64 0, .nilS, .int .i64 0, .int .i64 0, .str [], .int .i64 0, .nilS, .nilS, .nilS, .nilS] 0 true)) (by simp only [Hp.next_alloc]; omega) (fun q _ h => by (repeat rw [Hp.get_alloc, if_neg (by first | omega | (simp only [Hp.next_alloc]; omega))]); exact ob q h) (r := Hb.next) (row := [.int .i64 0, .str [], .str [], .int .i64 0, .int .i64 0, .int .i64 0, .str [], .int .i64 0, .nilS, .int .i64 0, .int .i64 0, .str [], .int .i64 0, .nilS, .nilS, .nilS, .nilS]) (by rw [Hp.get_alloc, if_pos rfl]) rfl rfl hN hNl
    have gf8 := a9.trans ((alloc_old (by omega)).trans gfb)
    have pp8 := (a8 Hq.next (by simp only [Hp.next_alloc]; omega) (.inr (Nat.le_refl _))).trans ((alloc_old (by omega)).trans pb)
    simp only [Hp.next_alloc] at a1 a2 a7 a8 a10
    have hn1 : N < N + 1 := Nat.lt_succ_self _
    have gz := @aZ17
    (apply Rx.dS 26 9 12 [0, 1, 2, 3, 4, 5, 6, 7, 8, 10, 11, 12, 9] [(3, 7), (5, 7), (6, 7)] [(3, 7), (5, 7), (6, 7)] ?_ ?_ ?_; rotate_left 2)
    · repeat' (first
         | (apply Rx.nl ?_; clear hK K) | apply Ry.o ?_ | apply Ry.on ?_ | apply Ry.gu ?_ | (apply Ry.gd (fun hg hgp => ?_) (fun hg hgp => ?_) <;> try (cases hg; done)) | (apply Ry.cd (fun hb hbp => ?_) (fun hb hbp => ?_) <;> try (cases hb; done)) | apply Wp.seq ?_ | (apply Wp.ops' fun K hK => ?_) | (apply Rx.nq ?_; try intro _) | (apply Rx.nt ?_ ?_ <;> clear hK K) | apply WpT.step ?_ | apply WpT.step0 rfl ?_ | apply Ry.gv ?_ | (apply Ry.gt (fun hg hgp => ?_) (fun hg hgp => ?_) <;> try (cases hg; done)) | apply Wp.block ?_ | apply Rx.sk ?_ | apply Rx.rt ?_ | apply Rx.xt ?_)
      try any_goals intro _
      repeat' (first
         | (apply Rx.nl ?_; clear hK K) | apply Ry.o ?_ | apply Ry.on ?_ | apply Ry.gu ?_ | (apply Ry.gd (fun hg hgp => ?_) (fun hg hgp => ?_) <;> try (cases hg; done)) | (apply Ry.cd (fun hb hbp => ?_) (fun hb hbp => ?_) <;> try (cases hb; done)) | apply Wp.seq ?_ | (apply Wp.ops' fun K hK => ?_) | (apply Rx.nq ?_; try intro _) | (apply Rx.nt ?_ ?_ <;> clear hK K) | apply WpT.step ?_ | apply WpT.step0 rfl ?_ | apply Ry.gv ?_ | (apply Ry.gt (fun hg hgp => ?_) (fun hg hgp => ?_) <;> try (cases hg; done)) | apply Wp.block ?_ | apply Rx.sk ?_ | apply Rx.rt ?_ | apply Rx.xt ?_)
      try any_goals intro _
      any_goals refine WpT.nil ⟨?_, rfl, rfl⟩
      all_goals exact eK
    · repeat' (first
         | (apply Rx.nl ?_; clear hK K) | apply Ry.o ?_ | apply Ry.on ?_ | apply Ry.gu ?_ | (apply Ry.gd (fun hg hgp => ?_) (fun hg hgp => ?_) <;> try (cases hg; done)) | (apply Ry.cd (fun hb hbp => ?_) (fun hb hbp => ?_) <;> try (cases hb; done)) | apply Wp.seq ?_ | (apply Wp.ops' fun K hK => ?_) | (apply Rx.nq ?_; try intro _) | (apply Rx.nt ?_ ?_ <;> clear hK K) | apply WpT.step ?_ | apply WpT.step0 rfl ?_ | apply Ry.gv ?_ | (apply Ry.gt (fun hg hgp => ?_) (fun hg hgp => ?_) <;> try (cases hg; done)) | apply Wp.block ?_ | apply Rx.sk ?_ | apply Rx.rt ?_ | apply Rx.xt ?_)
      try any_goals intro _
      repeat' (first
         | (apply Rx.nl ?_; clear hK K) | apply Ry.o ?_ | apply Ry.on ?_ | apply Ry.gu ?_ | (apply Ry.gd (fun hg hgp => ?_) (fun hg hgp => ?_) <;> try (cases hg; done)) | (apply Ry.cd (fun hb hbp => ?_) (fun hb hbp => ?_) <;> try (cases hb; done)) | apply Wp.seq ?_ | (apply Wp.ops' fun K hK => ?_) | (apply Rx.nq ?_; try intro _) | (apply Rx.nt ?_ ?_ <;> clear hK K) | apply WpT.step ?_ | apply WpT.step0 rfl ?_ | apply Ry.gv ?_ | (apply Ry.gt (fun hg hgp => ?_) (fun hg hgp => ?_) <;> try (cases hg; done)) | apply Wp.block ?_ | apply Rx.sk ?_ | apply Rx.rt ?_ | apply Rx.xt ?_)
      try any_goals intro _
      any_goals refine WpT.nil ⟨?_, rfl, Hp.set_comm _ (fun e => by omega) _ _⟩
      all_goals exact eK
    · generalize hH5 : ((H'.set (Hb.next + 1) (.cells (flat ++ [.int .i64 7, .str [], .str [], .int .i64 (-1), .int .i64 0, .int .i64 0, .str [], .int .i64 0, .nilS, .int .i64 0, .int .i64 0, .str [], .int .i64 0, .nilS, .nilS, .nilS, .nilS]) imm' true)).set rf (.cells [.str [102], pf, lf, .sl (Hb.next + 1) 0 (N + 1) 17, v0, v1, v2, v3, v4, .str [103], pg, lg, bg, w0, w1, w2, w3, w4] 0 true)) = H5
      have X5 := a10 H5 [.int .i64 7, .str [], .str [], .int .i64 (-1), .int .i64 0, .int .i64 0, .str [], .int .i64 0, .nilS, .int .i64 0, .int .i64 0, .str [], .int .i64 0, .nilS, .nilS, .nilS, .nilS] (.mk 7 [] [] (-1) zE zE [] [] []) (by rw [← hH5]; rfl) (fun q h1 h2 => by rw [← hH5, Hp.get_set, if_neg h1, Hp.get_set, if_neg (by omega)]) (by rw [← hH5, Hp.get_set, if_neg (fun e => by omega), Hp.get_set, if_pos rfl]) rfl (st_node (n := 13) 7 [] [] (-1) zC_w zC_w .nilS .nilS .nilS) (by rw [← hH5, Hp.get_set, if_pos rfl]; rfl)
      have p5 : H5.get Hq.next = some (.cells [.sl ra 0 2 2, .sl rf 0 2 9] 0 true) := by rw [← hH5, Hp.get_set, if_neg (fun e => by omega), Hp.get_set, if_neg (fun e => by omega)]; exact pp8
      dsimp only [thenQ, blockQ, setO]
      repeat' (first
         | (apply Rx.nl ?_; clear hK K) | apply Rx.o ?_ | apply Rx.on ?_ | apply Rx.gu ?_ | (apply Rx.gd (fun hg hgp => ?_) (fun hg hgp => ?_) <;> try (cases hg; done)) | (apply Rx.cd (fun hb hbp => ?_) (fun hb hbp => ?_) <;> try (cases hb; done)) | apply Wp.seq ?_ | (apply Wp.ops' fun K hK => ?_) | (apply Rx.nq ?_; try intro _) | (apply Rx.nt ?_ ?_ <;> clear hK K) | apply WpT.step ?_ | apply WpT.step0 rfl ?_ | apply Rx.gv ?_ | (apply Rx.gt (fun hg hgp => ?_) (fun hg hgp => ?_) <;> try (cases hg; done)) | apply Wp.block ?_ | apply Rx.sk ?_ | apply Rx.rt ?_ | apply Rx.xt ?_)
      refine WpL.call rfl eVk eAk ?_; simp only [List.cons_append, List.nil_append, List.append_nil]
      refine WpCall.mono ?_ (X5.chk (fun _ => rfl) rfl (by omega) ?_)
      · rintro v H6 rfl
        have hrc : refCheck (ordP 0 x y { genF (l.take 60) with body := (genF (l.take 60)).body ++ [.mk 7 [] [] (-1) zE zE [] [] []] } (genGf (l.take 60))) = 2 := sglW hF hxr hyr (Nat.le_of_ble_eq_true (by kernel_rfl)) (Nat.le_of_ble_eq_true (by kernel_rfl)) (Nat.le_of_ble_eq_true (by kernel_rfl)) (by kernel_rfl) (by kernel_rfl)
        dsimp only [setO]
        repeat' (first
           | (apply Rx.nl ?_; clear hK K) | apply Ry.o ?_ | apply Ry.on ?_ | (apply Ry.call ?_; first | refine Rx.k (kCEx _) ?_) | apply Ry.gu ?_ | (apply Ry.gd (fun hg hgp => ?_) (fun hg hgp => ?_) <;> try (cases hg; done)) | (apply Ry.cd (fun hb hbp => ?_) (fun hb hbp => ?_) <;> try (cases hb; done)) | apply Wp.seq ?_ | (apply Wp.ops' fun K hK => ?_) | (apply Rx.nq ?_; try intro _) | (apply Rx.nt ?_ ?_ <;> clear hK K) | apply WpT.step ?_ | apply WpT.step0 rfl ?_ | apply Ry.gv ?_ | (apply Ry.gt (fun hg hgp => ?_) (fun hg hgp => ?_) <;> try (cases hg; done)) | apply Wp.block ?_ | apply Rx.sk ?_ | apply Rx.rt ?_ | apply Rx.xt ?_)
        all_goals (refine ⟨eI, _, eR, ?_⟩; try simp only [oneOr])
      · show (pr2 x y ⟨[102], [[120], [121]], [[105], [106]], (genB1 (l.take 60)).1 ++ [.mk 7 [] [] (-1) zE zE [] [] []], (genV1 (l.take 60)).1⟩ (genGf (l.take 60))).sz < _
        have hs := stmtsSz_app (genB1 (l.take 60)).1 [.mk 7 [] [] (-1) zE zE [] [] []]
        have hs2 : stmtsSz [.mk 7 [] [] (-1) zE zE [] [] []] ≤ 100 := Nat.le_of_ble_eq_true (by kernel_rfl)
        simp only [pr2, arG2, Pr.sz, arrsSz, fnsSz, genGf, Fu.sz, strsSz, List.length_cons, List.length_nil]
        omega
  · -- 6
    generalize hHb : (((Hq.alloc (.cells [.nilS, .nilS] 0 true)).set Hq.next (.cells [.sl ra 0 2 2, .sl rf 0 2 9] 0 true)).alloc (.cells [.int .i64 0, .int .i64 0, .str [], .int .i64 0, .nilS] 0 true)).set (Hq.next + 1) (.cells [.int .i64 1, .int .i64 0, .str [], .int .i64 0, .nilS] 0 true) = Hb
    obtain ⟨nbl, nbg, ob, pb, mb⟩ := startB hHb
    clear hHb
    have gfb := (ob rf ltF).trans gf
    obtain ⟨N, hN⟩ : ∃ N, (genF (l.take 60)).body.length = N := ⟨_, rfl⟩
    have hNl : N < 2 ^ 30 := by have h1 := stmtsSz_len (genB1 (l.take 60)).1; have h2 : (genF (l.take 60)).body = (genB1 (l.take 60)).1 := rfl; rw [h2] at hN; omega
    have hlen : ∀ H, lenAt Try.prog H 36 bf = some (.int .i64 N) := fun H => by have := hX.F.bo.len (P := Try.prog) (H' := H) Try.underlying36; rw [List.length_map, hN] at this; exact this
    obtain ⟨o1, o2⟩ := hX.F.bo.one
    have e21 : (rf == Hb.next) = false := ne_beq (by omega)
    have e22 : (rf == Hb.next + 1) = false := ne_beq (by omega)
    have e23 : (rf == Hb.next + 2) = false := ne_beq (by omega)
    have e24 : (Hb.next + 1 == rf) = false := ne_beq (by omega)
    have e25 : (Hb.next + 2 == rf) = false := ne_beq (by omega)
    have e26 : (Hq.next == rf) = false := ne_beq (by omega)
    have e27 : (Hq.next == Hb.next) = false := ne_beq (by omega)
    have e28 : (Hq.next == Hb.next + 1) = false := ne_beq (by omega)
    have e29 : (Hq.next == Hb.next + 2) = false := ne_beq (by omega)
    have e30 : (Hq.next + 1 == Hb.next) = false := ne_beq (by omega)
    have e31 : (Hq.next + 1 == Hb.next + 1) = false := ne_beq (by omega)
    have e32 : (Hq.next + 1 == Hb.next + 2) = false := ne_beq (by omega)
    obtain ⟨H', flat, imm', a1, a2, a3, a4, a5, a6, a7, a8, a9, a10⟩ := hX.pushB (Hb := (Hb.alloc (.cells [.int .i64 7, .str [], .str [], .int .i64 0, .int .i64 0, .int .i64 0, .str [], .int .i64 0, .nilS, .int .i64 0, .int .i64 0, .str [], .int .i64 0, .nilS, .nilS, .nilS, .nilS] 0 true)).alloc (.cells [.int .i64 0, .str [], .str [], .int .i64 0, .int .i64 0, .int .i64 0, .str [], .int .i64 0, .nilS, .int .i64 0, .int .i64 0, .str [], .int .i64 0, .nilS, .nilS, .nilS, .nilS] 0 true)) (by simp only [Hp.next_alloc]; omega) (fun q _ h => by (repeat rw [Hp.get_alloc, if_neg (by first | omega | (simp only [Hp.next_alloc]; omega))]); exact ob q h) (r := Hb.next + 1) (row := [.int .i64 0, .str [], .str [], .int .i64 0, .int .i64 0, .int .i64 0, .str [], .int .i64 0, .nilS, .int .i64 0, .int .i64 0, .str [], .int .i64 0, .nilS, .nilS, .nilS, .nilS]) (by rw [Hp.get_alloc, if_pos (by rfl)]) rfl rfl hN hNl
    have gf8 := a9.trans ((alloc_old (by simp only [Hp.next_alloc]; omega)).trans ((alloc_old (by omega)).trans gfb))
    have pp8 := (a8 Hq.next (by simp only [Hp.next_alloc]; omega) (.inr (Nat.le_refl _))).trans ((alloc_old (by simp only [Hp.next_alloc]; omega)).trans ((alloc_old (by omega)).trans pb))
    simp only [Hp.next_alloc, Nat.add_assoc, Nat.reduceAdd] at a1 a2 a7 a8 a10
    have hn1 : N < N + 1 := Nat.lt_succ_self _
    have gz := @aZ17
    (apply Rx.dS 29 12 15 [0, 1, 2, 3, 4, 5, 6, 7, 8, 9, 10, 11, 13, 14, 15, 12] [(3, 10), (4, 10), (6, 10), (8, 10), (9, 10)] [(3, 10), (4, 10), (6, 10), (8, 10), (9, 10)] ?_ ?_ ?_; rotate_left 2)
    · repeat' (first
         | (apply Rx.nl ?_; clear hK K) | apply Ry.o ?_ | apply Ry.on ?_ | apply Ry.gu ?_ | (apply Ry.gd (fun hg hgp => ?_) (fun hg hgp => ?_) <;> try (cases hg; done)) | (apply Ry.cd (fun hb hbp => ?_) (fun hb hbp => ?_) <;> try (cases hb; done)) | apply Wp.seq ?_ | (apply Wp.ops' fun K hK => ?_) | (apply Rx.nq ?_; try intro _) | (apply Rx.nt ?_ ?_ <;> clear hK K) | apply WpT.step ?_ | apply WpT.step0 rfl ?_ | apply Ry.gv ?_ | (apply Ry.gt (fun hg hgp => ?_) (fun hg hgp => ?_) <;> try (cases hg; done)) | apply Wp.block ?_ | apply Rx.sk ?_ | apply Rx.rt ?_ | apply Rx.xt ?_)
      try any_goals intro _
      repeat' (first
         | (apply Rx.nl ?_; clear hK K) | apply Ry.o ?_ | apply Ry.on ?_ | apply Ry.gu ?_ | (apply Ry.gd (fun hg hgp => ?_) (fun hg hgp => ?_) <;> try (cases hg; done)) | (apply Ry.cd (fun hb hbp => ?_) (fun hb hbp => ?_) <;> try (cases hb; done)) | apply Wp.seq ?_ | (apply Wp.ops' fun K hK => ?_) | (apply Rx.nq ?_; try intro _) | (apply Rx.nt ?_ ?_ <;> clear hK K) | apply WpT.step ?_ | apply WpT.step0 rfl ?_ | apply Ry.gv ?_ | (apply Ry.gt (fun hg hgp => ?_) (fun hg hgp => ?_) <;> try (cases hg; done)) | apply Wp.block ?_ | apply Rx.sk ?_ | apply Rx.rt ?_ | apply Rx.xt ?_)
      try any_goals intro _
      any_goals refine WpT.nil ⟨?_, rfl, rfl⟩
      all_goals exact eK
    · repeat' (first
         | (apply Rx.nl ?_; clear hK K) | apply Ry.o ?_ | apply Ry.on ?_ | apply Ry.gu ?_ | (apply Ry.gd (fun hg hgp => ?_) (fun hg hgp => ?_) <;> try (cases hg; done)) | (apply Ry.cd (fun hb hbp => ?_) (fun hb hbp => ?_) <;> try (cases hb; done)) | apply Wp.seq ?_ | (apply Wp.ops' fun K hK => ?_) | (apply Rx.nq ?_; try intro _) | (apply Rx.nt ?_ ?_ <;> clear hK K) | apply WpT.step ?_ | apply WpT.step0 rfl ?_ | apply Ry.gv ?_ | (apply Ry.gt (fun hg hgp => ?_) (fun hg hgp => ?_) <;> try (cases hg; done)) | apply Wp.block ?_ | apply Rx.sk ?_ | apply Rx.rt ?_ | apply Rx.xt ?_)
      try any_goals intro _
      repeat' (first
         | (apply Rx.nl ?_; clear hK K) | apply Ry.o ?_ | apply Ry.on ?_ | apply Ry.gu ?_ | (apply Ry.gd (fun hg hgp => ?_) (fun hg hgp => ?_) <;> try (cases hg; done)) | (apply Ry.cd (fun hb hbp => ?_) (fun hb hbp => ?_) <;> try (cases hb; done)) | apply Wp.seq ?_ | (apply Wp.ops' fun K hK => ?_) | (apply Rx.nq ?_; try intro _) | (apply Rx.nt ?_ ?_ <;> clear hK K) | apply WpT.step ?_ | apply WpT.step0 rfl ?_ | apply Ry.gv ?_ | (apply Ry.gt (fun hg hgp => ?_) (fun hg hgp => ?_) <;> try (cases hg; done)) | apply Wp.block ?_ | apply Rx.sk ?_ | apply Rx.rt ?_ | apply Rx.xt ?_)
      try any_goals intro _
      any_goals refine WpT.nil ⟨?_, rfl, Hp.set_comm _ (fun e => by omega) _ _⟩
      all_goals exact eK
    · generalize hH5 : ((H'.set (Hb.next + 2) (.cells (flat ++ [.int .i64 4, .str [], .str [], .int .i64 0, .int .i64 0, .int .i64 0, .str [], .int .i64 0, .nilS, .int .i64 1, .int .i64 0, .str [], .int .i64 0, .nilS, .nilS, .nilS, .sl Hb.next 0 1 17]) imm' true)).set rf (.cells [.str [102], pf, lf, .sl (Hb.next + 2) 0 (N + 1) 17, v0, v1, v2, v3, v4, .str [103], pg, lg, bg, w0, w1, w2, w3, w4] 0 true)) = H5
      have X5 := a10 H5 [.int .i64 4, .str [], .str [], .int .i64 0, .int .i64 0, .int .i64 0, .str [], .int .i64 0, .nilS, .int .i64 1, .int .i64 0, .str [], .int .i64 0, .nilS, .nilS, .nilS, .sl Hb.next 0 1 17] (.mk 4 [] [] 0 zE n0E [] [] [.mk 7 [] [] 0 zE zE [] [] []]) (by rw [← hH5]; rfl) (fun q h1 h2 => by rw [← hH5, Hp.get_set, if_neg h1, Hp.get_set, if_neg (by omega)]) (by rw [← hH5, Hp.get_set, if_neg (fun e => by omega), Hp.get_set, if_pos rfl]) rfl (st_node (n := 13) 4 [] [] 0 zC_w (ex_leaf 1 0 0 []) .nilS .nilS (RdW.rows (n := 13) (a := [[.int .i64 7, .str [], .str [], .int .i64 0, .int .i64 0, .int .i64 0, .str [], .int .i64 0, .nilS, .int .i64 0, .int .i64 0, .str [], .int .i64 0, .nilS, .nilS, .nilS, .nilS]]) (S := fun q => Hq.next ≤ q ∧ q < ((Hb.alloc (.cells [.int .i64 7, .str [], .str [], .int .i64 0, .int .i64 0, .int .i64 0, .str [], .int .i64 0, .nilS, .int .i64 0, .int .i64 0, .str [], .int .i64 0, .nilS, .nilS, .nilS, .nilS] 0 true)).alloc (.cells [.int .i64 0, .str [], .str [], .int .i64 0, .int .i64 0, .int .i64 0, .str [], .int .i64 0, .nilS, .int .i64 0, .int .i64 0, .str [], .int .i64 0, .nilS, .nilS, .nilS, .nilS] 0 true)).next) (b := [St.cells (.mk 7 [] [] 0 zE zE [] [] [])]) (imm := 0) (tip := true) ⟨by omega, by simp only [Hp.next_alloc]; omega⟩ (by simp only [Hp.next_alloc]; omega) (by rw [Hp.get_alloc, if_neg (by simp only [Hp.next_alloc]; omega), Hp.get_alloc, if_pos rfl]; rfl) (by simp) ⟨⟨rfl, st_node (n := 12) 7 [] [] 0 zC_w zC_w .nilS .nilS .nilS⟩, trivial⟩)) (by rw [← hH5, Hp.get_set, if_pos rfl]; rfl)
      have p5 : H5.get Hq.next = some (.cells [.sl ra 0 2 2, .sl rf 0 2 9] 0 true) := by rw [← hH5, Hp.get_set, if_neg (fun e => by omega), Hp.get_set, if_neg (fun e => by omega)]; exact pp8
      dsimp only [thenQ, blockQ, setO]
      repeat' (first
         | (apply Rx.nl ?_; clear hK K) | apply Rx.o ?_ | apply Rx.on ?_ | apply Rx.gu ?_ | (apply Rx.gd (fun hg hgp => ?_) (fun hg hgp => ?_) <;> try (cases hg; done)) | (apply Rx.cd (fun hb hbp => ?_) (fun hb hbp => ?_) <;> try (cases hb; done)) | apply Wp.seq ?_ | (apply Wp.ops' fun K hK => ?_) | (apply Rx.nq ?_; try intro _) | (apply Rx.nt ?_ ?_ <;> clear hK K) | apply WpT.step ?_ | apply WpT.step0 rfl ?_ | apply Rx.gv ?_ | (apply Rx.gt (fun hg hgp => ?_) (fun hg hgp => ?_) <;> try (cases hg; done)) | apply Wp.block ?_ | apply Rx.sk ?_ | apply Rx.rt ?_ | apply Rx.xt ?_)
      refine WpL.call rfl eVk eAk ?_; simp only [List.cons_append, List.nil_append, List.append_nil]
      refine WpCall.mono ?_ (X5.chk (fun _ => rfl) rfl (by omega) ?_)
      · rintro v H6 rfl
        have hrc : refCheck (ordP 0 x y { genF (l.take 60) with body := (genF (l.take 60)).body ++ [.mk 4 [] [] 0 zE n0E [] [] [.mk 7 [] [] 0 zE zE [] [] []]] } (genGf (l.take 60))) = 2 := sglW hF hxr hyr (Nat.le_of_ble_eq_true (by kernel_rfl)) (Nat.le_of_ble_eq_true (by kernel_rfl)) (Nat.le_of_ble_eq_true (by kernel_rfl)) (by kernel_rfl) (by kernel_rfl)
        dsimp only [setO]
        repeat' (first
           | (apply Rx.nl ?_; clear hK K) | apply Ry.o ?_ | apply Ry.on ?_ | (apply Ry.call ?_; first | refine Rx.k (kCEx _) ?_) | apply Ry.gu ?_ | (apply Ry.gd (fun hg hgp => ?_) (fun hg hgp => ?_) <;> try (cases hg; done)) | (apply Ry.cd (fun hb hbp => ?_) (fun hb hbp => ?_) <;> try (cases hb; done)) | apply Wp.seq ?_ | (apply Wp.ops' fun K hK => ?_) | (apply Rx.nq ?_; try intro _) | (apply Rx.nt ?_ ?_ <;> clear hK K) | apply WpT.step ?_ | apply WpT.step0 rfl ?_ | apply Ry.gv ?_ | (apply Ry.gt (fun hg hgp => ?_) (fun hg hgp => ?_) <;> try (cases hg; done)) | apply Wp.block ?_ | apply Rx.sk ?_ | apply Rx.rt ?_ | apply Rx.xt ?_)
        all_goals (refine ⟨eI, _, eR, ?_⟩; try simp only [oneOr])
      · show (pr2 x y ⟨[102], [[120], [121]], [[105], [106]], (genB1 (l.take 60)).1 ++ [.mk 4 [] [] 0 zE n0E [] [] [.mk 7 [] [] 0 zE zE [] [] []]], (genV1 (l.take 60)).1⟩ (genGf (l.take 60))).sz < _
        have hs := stmtsSz_app (genB1 (l.take 60)).1 [.mk 4 [] [] 0 zE n0E [] [] [.mk 7 [] [] 0 zE zE [] [] []]]
        have hs2 : stmtsSz [.mk 4 [] [] 0 zE n0E [] [] [.mk 7 [] [] 0 zE zE [] [] []]] ≤ 100 := Nat.le_of_ble_eq_true (by kernel_rfl)
        simp only [pr2, arG2, Pr.sz, arrsSz, fnsSz, genGf, Fu.sz, strsSz, List.length_cons, List.length_nil]
        omega
  · -- 7
    refine WpL.call rfl eVk eAk ?_; simp only [List.cons_append, List.nil_append, List.append_nil]
    refine WpCall.mono ?_ (ProgL.chk (fun _ => rfl) rfl (hP.set (x' := x) (y' := y) (nf := [102]) (ng := [102]) ?_ ?_ ?_ ?_) (by omega) ?_)
    · rintro v H5 rfl
      have hrc : refCheck (pr2 x y { genF (l.take 60) with name := [102] } { genGf (l.take 60) with name := [102] }) = 4 := sgl7 hF hxr hyr
      dsimp only [setO]
      repeat' (first
         | (apply Rx.nl ?_; clear hK K) | apply Ry.o ?_ | apply Ry.on ?_ | (apply Ry.call ?_; first | refine Rx.k (kCEx _) ?_) | apply Ry.gu ?_ | (apply Ry.gd (fun hg hgp => ?_) (fun hg hgp => ?_) <;> try (cases hg; done)) | (apply Ry.cd (fun hb hbp => ?_) (fun hb hbp => ?_) <;> try (cases hb; done)) | apply Wp.seq ?_ | (apply Wp.ops' fun K hK => ?_) | (apply Rx.nq ?_; try intro _) | (apply Rx.nt ?_ ?_ <;> clear hK K) | apply WpT.step ?_ | apply WpT.step0 rfl ?_ | apply Ry.gv ?_ | (apply Ry.gt (fun hg hgp => ?_) (fun hg hgp => ?_) <;> try (cases hg; done)) | apply Wp.block ?_ | apply Rx.sk ?_ | apply Rx.rt ?_ | apply Rx.xt ?_)
      all_goals (refine ⟨eI, _, eR, ?_⟩; try simp only [oneOr])
    · simp only [Hp.next_set, Hp.next_alloc]; omega
    · intro q h1 h2 h3; simp only [Hp.get_set, Hp.get_alloc, Hp.next_set, Hp.next_alloc]; (repeat rw [if_neg (by omega)])
    · simp only [Hp.get_set, Hp.get_alloc, Hp.next_set, Hp.next_alloc]; (repeat (first | rw [if_neg (by omega)] | rw [if_pos (by omega)])); first | rfl | exact ga | exact gf
    · simp only [Hp.get_set, Hp.get_alloc, Hp.next_set, Hp.next_alloc]; (repeat (first | rw [if_neg (by omega)] | rw [if_pos (by omega)])); first | rfl | exact ga | exact gf
    · simp only [pr2, arG2, Pr.sz, arrsSz, fnsSz, genF, genGf, Fu.sz, strsSz, Ex.sz, exprsSz, n0E, List.length_cons, List.length_nil]; omega
  · -- 8
    have gh0 := @bsS3
    repeat' (first
       | (apply Rx.nl ?_; clear hK K) | apply Rx.o ?_ | apply Rx.on ?_ | apply Rx.gu ?_ | (apply Rx.gd (fun hg hgp => ?_) (fun hg hgp => ?_) <;> try (cases hg; done)) | (apply Rx.cd (fun hb hbp => ?_) (fun hb hbp => ?_) <;> try (cases hb; done)) | apply Wp.seq ?_ | (apply Wp.ops' fun K hK => ?_) | (apply Rx.nq ?_; try intro _) | (apply Rx.nt ?_ ?_ <;> clear hK K) | apply WpT.step ?_ | apply WpT.step0 rfl ?_ | apply Rx.gv ?_ | (apply Rx.gt (fun hg hgp => ?_) (fun hg hgp => ?_) <;> try (cases hg; done)) | apply Wp.block ?_ | apply Rx.sk ?_ | apply Rx.rt ?_ | apply Rx.xt ?_)
    refine WpL.call rfl eVk eAk ?_; simp only [List.cons_append, List.nil_append, List.append_nil]
    refine WpCall.mono ?_ (ProgL.chk (fun _ => rfl) rfl (hP.locals (r := Hq.next + 2) [[105], [106], [98]] ?_ ?_ ?_ ?_ ?_ ?_) (by omega) ?_)
    · rintro v H5 rfl
      have hrc : refCheck (pr2 x y { genF (l.take 60) with locals := [[105], [106], [98]] } (genGf (l.take 60))) = 4 := sgl8 hF hxr hyr
      dsimp only [setO]
      repeat' (first
         | (apply Rx.nl ?_; clear hK K) | apply Ry.o ?_ | apply Ry.on ?_ | (apply Ry.call ?_; first | refine Rx.k (kCEx _) ?_) | apply Ry.gu ?_ | (apply Ry.gd (fun hg hgp => ?_) (fun hg hgp => ?_) <;> try (cases hg; done)) | (apply Ry.cd (fun hb hbp => ?_) (fun hb hbp => ?_) <;> try (cases hb; done)) | apply Wp.seq ?_ | (apply Wp.ops' fun K hK => ?_) | (apply Rx.nq ?_; try intro _) | (apply Rx.nt ?_ ?_ <;> clear hK K) | apply WpT.step ?_ | apply WpT.step0 rfl ?_ | apply Ry.gv ?_ | (apply Ry.gt (fun hg hgp => ?_) (fun hg hgp => ?_) <;> try (cases hg; done)) | apply Wp.block ?_ | apply Rx.sk ?_ | apply Rx.rt ?_ | apply Rx.xt ?_)
      all_goals (refine ⟨eI, _, eR, ?_⟩; try simp only [oneOr])
    · simp only [Hp.next_set, Hp.next_alloc]; omega
    · intro q h1 h2; simp only [Hp.get_set, Hp.get_alloc, Hp.next_set, Hp.next_alloc]; (repeat rw [if_neg (by omega)])
    · omega
    · simp only [Hp.next_set, Hp.next_alloc]; omega
    · simp only [Hp.get_set, Hp.get_alloc, Hp.next_set, Hp.next_alloc]; (repeat (first | rw [if_neg (by omega)] | rw [if_pos (by omega)])); first | rfl | exact ga | exact gf
    · simp only [Hp.get_set, Hp.get_alloc, Hp.next_set, Hp.next_alloc]; (repeat (first | rw [if_neg (by omega)] | rw [if_pos (by omega)])); first | rfl | exact ga | exact gf
    · simp only [pr2, arG2, Pr.sz, arrsSz, fnsSz, genF, genGf, Fu.sz, strsSz, Ex.sz, exprsSz, n0E, List.length_cons, List.length_nil]; omega
  · -- 9
    generalize hHb : (((Hq.alloc (.cells [.nilS, .nilS] 0 true)).set Hq.next (.cells [.sl ra 0 2 2, .sl rf 0 2 9] 0 true)).alloc (.cells [.int .i64 0, .int .i64 0, .str [], .int .i64 0, .nilS] 0 true)).set (Hq.next + 1) (.cells [.int .i64 1, .int .i64 0, .str [], .int .i64 0, .nilS] 0 true) = Hb
    obtain ⟨nbl, nbg, ob, pb, mb⟩ := startB hHb
    clear hHb
    have gfb := (ob rf ltF).trans gf
    obtain ⟨N, hN⟩ : ∃ N, (genF (l.take 60)).body.length = N := ⟨_, rfl⟩
    have hNl : N < 2 ^ 30 := by have h1 := stmtsSz_len (genB1 (l.take 60)).1; have h2 : (genF (l.take 60)).body = (genB1 (l.take 60)).1 := rfl; rw [h2] at hN; omega
    have hlen : ∀ H, lenAt Try.prog H 36 bf = some (.int .i64 N) := fun H => by have := hX.F.bo.len (P := Try.prog) (H' := H) Try.underlying36; rw [List.length_map, hN] at this; exact this
    obtain ⟨o1, o2⟩ := hX.F.bo.one
    have e21 : (rf == Hb.next) = false := ne_beq (by omega)
    have e22 : (rf == Hb.next + 1) = false := ne_beq (by omega)
    have e23 : (rf == Hb.next + 2) = false := ne_beq (by omega)
    have e24 : (Hb.next + 1 == rf) = false := ne_beq (by omega)
    have e25 : (Hb.next + 2 == rf) = false := ne_beq (by omega)
    have e26 : (Hq.next == rf) = false := ne_beq (by omega)
    have e27 : (Hq.next == Hb.next) = false := ne_beq (by omega)
    have e28 : (Hq.next == Hb.next + 1) = false := ne_beq (by omega)
    have e29 : (Hq.next == Hb.next + 2) = false := ne_beq (by omega)
    have e30 : (Hq.next + 1 == Hb.next) = false := ne_beq (by omega)
    have e31 : (Hq.next + 1 == Hb.next + 1) = false := ne_beq (by omega)
    have e32 : (Hq.next + 1 == Hb.next + 2) = false := ne_beq (by omega)
    obtain ⟨H', flat, imm', a1, a2, a3, a4, a5, a6, a7, a8, a9, a10⟩ := hX.pushB (Hb := Hb.alloc (.cells [.int .i64 0, .str [], .str [], .int .i64 0, .int .i64 0, .int .i64 0, .str [], .int .i64 0, .nilS, .int .i64 0, .int .i64 0, .str [], .int .i64 0, .nilS, .nilS, .nilS, .nilS] 0 true)) (by simp only [Hp.next_alloc]; omega) (fun q _ h => by (repeat rw [Hp.get_alloc, if_neg (by first | omega | (simp only [Hp.next_alloc]; omega))]); exact ob q h) (r := Hb.next) (row := [.int .i64 0, .str [], .str [], .int .i64 0, .int .i64 0, .int .i64 0, .str [], .int .i64 0, .nilS, .int .i64 0, .int .i64 0, .str [], .int .i64 0, .nilS, .nilS, .nilS, .nilS]) (by rw [Hp.get_alloc, if_pos rfl]) rfl rfl hN hNl
    have gf8 := a9.trans ((alloc_old (by omega)).trans gfb)
    have pp8 := (a8 Hq.next (by simp only [Hp.next_alloc]; omega) (.inr (Nat.le_refl _))).trans ((alloc_old (by omega)).trans pb)
    simp only [Hp.next_alloc] at a1 a2 a7 a8 a10
    have hn1 : N < N + 1 := Nat.lt_succ_self _
    have gz := @aZ17
    (apply Rx.dS 38 11 14 [0, 1, 2, 3, 4, 5, 6, 7, 8, 9, 10, 12, 13, 14, 11] [(3, 9), (4, 9), (5, 9), (7, 9), (8, 9)] [(3, 9), (4, 9), (5, 9), (7, 9), (8, 9)] ?_ ?_ ?_; rotate_left 2)
    · repeat' (first
         | (apply Rx.nl ?_; clear hK K) | apply Ry.o ?_ | apply Ry.on ?_ | apply Ry.gu ?_ | (apply Ry.gd (fun hg hgp => ?_) (fun hg hgp => ?_) <;> try (cases hg; done)) | (apply Ry.cd (fun hb hbp => ?_) (fun hb hbp => ?_) <;> try (cases hb; done)) | apply Wp.seq ?_ | (apply Wp.ops' fun K hK => ?_) | (apply Rx.nq ?_; try intro _) | (apply Rx.nt ?_ ?_ <;> clear hK K) | apply WpT.step ?_ | apply WpT.step0 rfl ?_ | apply Ry.gv ?_ | (apply Ry.gt (fun hg hgp => ?_) (fun hg hgp => ?_) <;> try (cases hg; done)) | apply Wp.block ?_ | apply Rx.sk ?_ | apply Rx.rt ?_ | apply Rx.xt ?_)
      try any_goals intro _
      repeat' (first
         | (apply Rx.nl ?_; clear hK K) | apply Ry.o ?_ | apply Ry.on ?_ | apply Ry.gu ?_ | (apply Ry.gd (fun hg hgp => ?_) (fun hg hgp => ?_) <;> try (cases hg; done)) | (apply Ry.cd (fun hb hbp => ?_) (fun hb hbp => ?_) <;> try (cases hb; done)) | apply Wp.seq ?_ | (apply Wp.ops' fun K hK => ?_) | (apply Rx.nq ?_; try intro _) | (apply Rx.nt ?_ ?_ <;> clear hK K) | apply WpT.step ?_ | apply WpT.step0 rfl ?_ | apply Ry.gv ?_ | (apply Ry.gt (fun hg hgp => ?_) (fun hg hgp => ?_) <;> try (cases hg; done)) | apply Wp.block ?_ | apply Rx.sk ?_ | apply Rx.rt ?_ | apply Rx.xt ?_)
      try any_goals intro _
      any_goals refine WpT.nil ⟨?_, rfl, rfl⟩
      all_goals exact eK
    · repeat' (first
         | (apply Rx.nl ?_; clear hK K) | apply Ry.o ?_ | apply Ry.on ?_ | apply Ry.gu ?_ | (apply Ry.gd (fun hg hgp => ?_) (fun hg hgp => ?_) <;> try (cases hg; done)) | (apply Ry.cd (fun hb hbp => ?_) (fun hb hbp => ?_) <;> try (cases hb; done)) | apply Wp.seq ?_ | (apply Wp.ops' fun K hK => ?_) | (apply Rx.nq ?_; try intro _) | (apply Rx.nt ?_ ?_ <;> clear hK K) | apply WpT.step ?_ | apply WpT.step0 rfl ?_ | apply Ry.gv ?_ | (apply Ry.gt (fun hg hgp => ?_) (fun hg hgp => ?_) <;> try (cases hg; done)) | apply Wp.block ?_ | apply Rx.sk ?_ | apply Rx.rt ?_ | apply Rx.xt ?_)
      try any_goals intro _
      repeat' (first
         | (apply Rx.nl ?_; clear hK K) | apply Ry.o ?_ | apply Ry.on ?_ | apply Ry.gu ?_ | (apply Ry.gd (fun hg hgp => ?_) (fun hg hgp => ?_) <;> try (cases hg; done)) | (apply Ry.cd (fun hb hbp => ?_) (fun hb hbp => ?_) <;> try (cases hb; done)) | apply Wp.seq ?_ | (apply Wp.ops' fun K hK => ?_) | (apply Rx.nq ?_; try intro _) | (apply Rx.nt ?_ ?_ <;> clear hK K) | apply WpT.step ?_ | apply WpT.step0 rfl ?_ | apply Ry.gv ?_ | (apply Ry.gt (fun hg hgp => ?_) (fun hg hgp => ?_) <;> try (cases hg; done)) | apply Wp.block ?_ | apply Rx.sk ?_ | apply Rx.rt ?_ | apply Rx.xt ?_)
      try any_goals intro _
      any_goals refine WpT.nil ⟨?_, rfl, Hp.set_comm _ (fun e => by omega) _ _⟩
      all_goals exact eK
    · generalize hH5 : ((H'.set (Hb.next + 1) (.cells (flat ++ [.int .i64 2, .str [120], .str [], .int .i64 0, .int .i64 1, .int .i64 0, .str [], .int .i64 0, .nilS, .int .i64 1, .int .i64 0, .str [], .int .i64 0, .nilS, .nilS, .nilS, .nilS]) imm' true)).set rf (.cells [.str [102], pf, lf, .sl (Hb.next + 1) 0 (N + 1) 17, v0, v1, v2, v3, v4, .str [103], pg, lg, bg, w0, w1, w2, w3, w4] 0 true)) = H5
      have X5 := a10 H5 [.int .i64 2, .str [120], .str [], .int .i64 0, .int .i64 1, .int .i64 0, .str [], .int .i64 0, .nilS, .int .i64 1, .int .i64 0, .str [], .int .i64 0, .nilS, .nilS, .nilS, .nilS] (.mk 2 [120] [] 0 n0E n0E [] [] []) (by rw [← hH5]; rfl) (fun q h1 h2 => by rw [← hH5, Hp.get_set, if_neg h1, Hp.get_set, if_neg (by omega)]) (by rw [← hH5, Hp.get_set, if_neg (fun e => by omega), Hp.get_set, if_pos rfl]) rfl (st_node (n := 13) 2 [120] [] 0 (ex_leaf 1 0 0 []) (ex_leaf 1 0 0 []) .nilS .nilS .nilS) (by rw [← hH5, Hp.get_set, if_pos rfl]; rfl)
      have p5 : H5.get Hq.next = some (.cells [.sl ra 0 2 2, .sl rf 0 2 9] 0 true) := by rw [← hH5, Hp.get_set, if_neg (fun e => by omega), Hp.get_set, if_neg (fun e => by omega)]; exact pp8
      dsimp only [thenQ, blockQ, setO]
      repeat' (first
         | (apply Rx.nl ?_; clear hK K) | apply Rx.o ?_ | apply Rx.on ?_ | apply Rx.gu ?_ | (apply Rx.gd (fun hg hgp => ?_) (fun hg hgp => ?_) <;> try (cases hg; done)) | (apply Rx.cd (fun hb hbp => ?_) (fun hb hbp => ?_) <;> try (cases hb; done)) | apply Wp.seq ?_ | (apply Wp.ops' fun K hK => ?_) | (apply Rx.nq ?_; try intro _) | (apply Rx.nt ?_ ?_ <;> clear hK K) | apply WpT.step ?_ | apply WpT.step0 rfl ?_ | apply Rx.gv ?_ | (apply Rx.gt (fun hg hgp => ?_) (fun hg hgp => ?_) <;> try (cases hg; done)) | apply Wp.block ?_ | apply Rx.sk ?_ | apply Rx.rt ?_ | apply Rx.xt ?_)
      refine WpL.call rfl eVk eAk ?_; simp only [List.cons_append, List.nil_append, List.append_nil]
      refine WpCall.mono ?_ (X5.chk (fun _ => rfl) rfl (by omega) ?_)
      · rintro v H6 rfl
        have hrc : refCheck (ordP 0 x y { genF (l.take 60) with body := (genF (l.take 60)).body ++ [.mk 2 [120] [] 0 n0E n0E [] [] []] } (genGf (l.take 60))) = 3 := sglU hF hxr hyr (Nat.le_of_ble_eq_true (by kernel_rfl)) (Nat.le_of_ble_eq_true (by kernel_rfl)) (Nat.le_of_ble_eq_true (by kernel_rfl)) (by kernel_rfl) (by kernel_rfl) (by kernel_rfl)
        dsimp only [setO]
        repeat' (first
           | (apply Rx.nl ?_; clear hK K) | apply Ry.o ?_ | apply Ry.on ?_ | (apply Ry.call ?_; first | refine Rx.k (kCEx _) ?_) | apply Ry.gu ?_ | (apply Ry.gd (fun hg hgp => ?_) (fun hg hgp => ?_) <;> try (cases hg; done)) | (apply Ry.cd (fun hb hbp => ?_) (fun hb hbp => ?_) <;> try (cases hb; done)) | apply Wp.seq ?_ | (apply Wp.ops' fun K hK => ?_) | (apply Rx.nq ?_; try intro _) | (apply Rx.nt ?_ ?_ <;> clear hK K) | apply WpT.step ?_ | apply WpT.step0 rfl ?_ | apply Ry.gv ?_ | (apply Ry.gt (fun hg hgp => ?_) (fun hg hgp => ?_) <;> try (cases hg; done)) | apply Wp.block ?_ | apply Rx.sk ?_ | apply Rx.rt ?_ | apply Rx.xt ?_)
        all_goals (refine ⟨eI, _, eR, ?_⟩; try simp only [oneOr])
      · show (pr2 x y ⟨[102], [[120], [121]], [[105], [106]], (genB1 (l.take 60)).1 ++ [.mk 2 [120] [] 0 n0E n0E [] [] []], (genV1 (l.take 60)).1⟩ (genGf (l.take 60))).sz < _
        have hs := stmtsSz_app (genB1 (l.take 60)).1 [.mk 2 [120] [] 0 n0E n0E [] [] []]
        have hs2 : stmtsSz [.mk 2 [120] [] 0 n0E n0E [] [] []] ≤ 100 := Nat.le_of_ble_eq_true (by kernel_rfl)
        simp only [pr2, arG2, Pr.sz, arrsSz, fnsSz, genGf, Fu.sz, strsSz, List.length_cons, List.length_nil]
        omega
  · -- 10
    generalize hHb : (((Hq.alloc (.cells [.nilS, .nilS] 0 true)).set Hq.next (.cells [.sl ra 0 2 2, .sl rf 0 2 9] 0 true)).alloc (.cells [.int .i64 0, .int .i64 0, .str [], .int .i64 0, .nilS] 0 true)).set (Hq.next + 1) (.cells [.int .i64 1, .int .i64 0, .str [], .int .i64 0, .nilS] 0 true) = Hb
    obtain ⟨nbl, nbg, ob, pb, mb⟩ := startB hHb
    clear hHb
    have gfb := (ob rf ltF).trans gf
    obtain ⟨N, hN⟩ : ∃ N, (genF (l.take 60)).body.length = N := ⟨_, rfl⟩
    have hNl : N < 2 ^ 30 := by have h1 := stmtsSz_len (genB1 (l.take 60)).1; have h2 : (genF (l.take 60)).body = (genB1 (l.take 60)).1 := rfl; rw [h2] at hN; omega
    have hlen : ∀ H, lenAt Try.prog H 36 bf = some (.int .i64 N) := fun H => by have := hX.F.bo.len (P := Try.prog) (H' := H) Try.underlying36; rw [List.length_map, hN] at this; exact this
    obtain ⟨o1, o2⟩ := hX.F.bo.one
    have e21 : (rf == Hb.next) = false := ne_beq (by omega)
    have e22 : (rf == Hb.next + 1) = false := ne_beq (by omega)
    have e23 : (rf == Hb.next + 2) = false := ne_beq (by omega)
    have e24 : (Hb.next + 1 == rf) = false := ne_beq (by omega)
    have e25 : (Hb.next + 2 == rf) = false := ne_beq (by omega)
    have e26 : (Hq.next == rf) = false := ne_beq (by omega)
    have e27 : (Hq.next == Hb.next) = false := ne_beq (by omega)
    have e28 : (Hq.next == Hb.next + 1) = false := ne_beq (by omega)
    have e29 : (Hq.next == Hb.next + 2) = false := ne_beq (by omega)
    have e30 : (Hq.next + 1 == Hb.next) = false := ne_beq (by omega)
    have e31 : (Hq.next + 1 == Hb.next + 1) = false := ne_beq (by omega)
    have e32 : (Hq.next + 1 == Hb.next + 2) = false := ne_beq (by omega)
    obtain ⟨H', flat, imm', a1, a2, a3, a4, a5, a6, a7, a8, a9, a10⟩ := hX.pushB (Hb := Hb.alloc (.cells [.int .i64 0, .str [], .str [], .int .i64 0, .int .i64 0, .int .i64 0, .str [], .int .i64 0, .nilS, .int .i64 0, .int .i64 0, .str [], .int .i64 0, .nilS, .nilS, .nilS, .nilS] 0 true)) (by simp only [Hp.next_alloc]; omega) (fun q _ h => by (repeat rw [Hp.get_alloc, if_neg (by first | omega | (simp only [Hp.next_alloc]; omega))]); exact ob q h) (r := Hb.next) (row := [.int .i64 0, .str [], .str [], .int .i64 0, .int .i64 0, .int .i64 0, .str [], .int .i64 0, .nilS, .int .i64 0, .int .i64 0, .str [], .int .i64 0, .nilS, .nilS, .nilS, .nilS]) (by rw [Hp.get_alloc, if_pos rfl]) rfl rfl hN hNl
    have gf8 := a9.trans ((alloc_old (by omega)).trans gfb)
    have pp8 := (a8 Hq.next (by simp only [Hp.next_alloc]; omega) (.inr (Nat.le_refl _))).trans ((alloc_old (by omega)).trans pb)
    simp only [Hp.next_alloc] at a1 a2 a7 a8 a10
    have hn1 : N < N + 1 := Nat.lt_succ_self _
    have gz := @aZ17
    (apply Rx.dS 41 9 12 [0, 1, 2, 3, 4, 5, 6, 7, 8, 10, 11, 12, 9] [(3, 7), (5, 7), (6, 7)] [(3, 7), (5, 7), (6, 7)] ?_ ?_ ?_; rotate_left 2)
    · repeat' (first
         | (apply Rx.nl ?_; clear hK K) | apply Ry.o ?_ | apply Ry.on ?_ | apply Ry.gu ?_ | (apply Ry.gd (fun hg hgp => ?_) (fun hg hgp => ?_) <;> try (cases hg; done)) | (apply Ry.cd (fun hb hbp => ?_) (fun hb hbp => ?_) <;> try (cases hb; done)) | apply Wp.seq ?_ | (apply Wp.ops' fun K hK => ?_) | (apply Rx.nq ?_; try intro _) | (apply Rx.nt ?_ ?_ <;> clear hK K) | apply WpT.step ?_ | apply WpT.step0 rfl ?_ | apply Ry.gv ?_ | (apply Ry.gt (fun hg hgp => ?_) (fun hg hgp => ?_) <;> try (cases hg; done)) | apply Wp.block ?_ | apply Rx.sk ?_ | apply Rx.rt ?_ | apply Rx.xt ?_)
      try any_goals intro _
      repeat' (first
         | (apply Rx.nl ?_; clear hK K) | apply Ry.o ?_ | apply Ry.on ?_ | apply Ry.gu ?_ | (apply Ry.gd (fun hg hgp => ?_) (fun hg hgp => ?_) <;> try (cases hg; done)) | (apply Ry.cd (fun hb hbp => ?_) (fun hb hbp => ?_) <;> try (cases hb; done)) | apply Wp.seq ?_ | (apply Wp.ops' fun K hK => ?_) | (apply Rx.nq ?_; try intro _) | (apply Rx.nt ?_ ?_ <;> clear hK K) | apply WpT.step ?_ | apply WpT.step0 rfl ?_ | apply Ry.gv ?_ | (apply Ry.gt (fun hg hgp => ?_) (fun hg hgp => ?_) <;> try (cases hg; done)) | apply Wp.block ?_ | apply Rx.sk ?_ | apply Rx.rt ?_ | apply Rx.xt ?_)
      try any_goals intro _
      any_goals refine WpT.nil ⟨?_, rfl, rfl⟩
      all_goals exact eK
    · repeat' (first
         | (apply Rx.nl ?_; clear hK K) | apply Ry.o ?_ | apply Ry.on ?_ | apply Ry.gu ?_ | (apply Ry.gd (fun hg hgp => ?_) (fun hg hgp => ?_) <;> try (cases hg; done)) | (apply Ry.cd (fun hb hbp => ?_) (fun hb hbp => ?_) <;> try (cases hb; done)) | apply Wp.seq ?_ | (apply Wp.ops' fun K hK => ?_) | (apply Rx.nq ?_; try intro _) | (apply Rx.nt ?_ ?_ <;> clear hK K) | apply WpT.step ?_ | apply WpT.step0 rfl ?_ | apply Ry.gv ?_ | (apply Ry.gt (fun hg hgp => ?_) (fun hg hgp => ?_) <;> try (cases hg; done)) | apply Wp.block ?_ | apply Rx.sk ?_ | apply Rx.rt ?_ | apply Rx.xt ?_)
      try any_goals intro _
      repeat' (first
         | (apply Rx.nl ?_; clear hK K) | apply Ry.o ?_ | apply Ry.on ?_ | apply Ry.gu ?_ | (apply Ry.gd (fun hg hgp => ?_) (fun hg hgp => ?_) <;> try (cases hg; done)) | (apply Ry.cd (fun hb hbp => ?_) (fun hb hbp => ?_) <;> try (cases hb; done)) | apply Wp.seq ?_ | (apply Wp.ops' fun K hK => ?_) | (apply Rx.nq ?_; try intro _) | (apply Rx.nt ?_ ?_ <;> clear hK K) | apply WpT.step ?_ | apply WpT.step0 rfl ?_ | apply Ry.gv ?_ | (apply Ry.gt (fun hg hgp => ?_) (fun hg hgp => ?_) <;> try (cases hg; done)) | apply Wp.block ?_ | apply Rx.sk ?_ | apply Rx.rt ?_ | apply Rx.xt ?_)
      try any_goals intro _
      any_goals refine WpT.nil ⟨?_, rfl, Hp.set_comm _ (fun e => by omega) _ _⟩
      all_goals exact eK
    · generalize hH5 : ((H'.set (Hb.next + 1) (.cells (flat ++ [.int .i64 6, .str [120], .str [104], .int .i64 0, .int .i64 0, .int .i64 0, .str [], .int .i64 0, .nilS, .int .i64 0, .int .i64 0, .str [], .int .i64 0, .nilS, .nilS, .nilS, .nilS]) imm' true)).set rf (.cells [.str [102], pf, lf, .sl (Hb.next + 1) 0 (N + 1) 17, v0, v1, v2, v3, v4, .str [103], pg, lg, bg, w0, w1, w2, w3, w4] 0 true)) = H5
      have X5 := a10 H5 [.int .i64 6, .str [120], .str [104], .int .i64 0, .int .i64 0, .int .i64 0, .str [], .int .i64 0, .nilS, .int .i64 0, .int .i64 0, .str [], .int .i64 0, .nilS, .nilS, .nilS, .nilS] (.mk 6 [120] [104] 0 zE zE [] [] []) (by rw [← hH5]; rfl) (fun q h1 h2 => by rw [← hH5, Hp.get_set, if_neg h1, Hp.get_set, if_neg (by omega)]) (by rw [← hH5, Hp.get_set, if_neg (fun e => by omega), Hp.get_set, if_pos rfl]) rfl (st_node (n := 13) 6 [120] [104] 0 zC_w zC_w .nilS .nilS .nilS) (by rw [← hH5, Hp.get_set, if_pos rfl]; rfl)
      have p5 : H5.get Hq.next = some (.cells [.sl ra 0 2 2, .sl rf 0 2 9] 0 true) := by rw [← hH5, Hp.get_set, if_neg (fun e => by omega), Hp.get_set, if_neg (fun e => by omega)]; exact pp8
      dsimp only [thenQ, blockQ, setO]
      repeat' (first
         | (apply Rx.nl ?_; clear hK K) | apply Rx.o ?_ | apply Rx.on ?_ | apply Rx.gu ?_ | (apply Rx.gd (fun hg hgp => ?_) (fun hg hgp => ?_) <;> try (cases hg; done)) | (apply Rx.cd (fun hb hbp => ?_) (fun hb hbp => ?_) <;> try (cases hb; done)) | apply Wp.seq ?_ | (apply Wp.ops' fun K hK => ?_) | (apply Rx.nq ?_; try intro _) | (apply Rx.nt ?_ ?_ <;> clear hK K) | apply WpT.step ?_ | apply WpT.step0 rfl ?_ | apply Rx.gv ?_ | (apply Rx.gt (fun hg hgp => ?_) (fun hg hgp => ?_) <;> try (cases hg; done)) | apply Wp.block ?_ | apply Rx.sk ?_ | apply Rx.rt ?_ | apply Rx.xt ?_)
      refine WpL.call rfl eVk eAk ?_; simp only [List.cons_append, List.nil_append, List.append_nil]
      refine WpCall.mono ?_ (X5.chk (fun _ => rfl) rfl (by omega) ?_)
      · rintro v H6 rfl
        have hrc : refCheck (ordP 0 x y { genF (l.take 60) with body := (genF (l.take 60)).body ++ [.mk 6 [120] [104] 0 zE zE [] [] []] } (genGf (l.take 60))) = 3 := sglU hF hxr hyr (Nat.le_of_ble_eq_true (by kernel_rfl)) (Nat.le_of_ble_eq_true (by kernel_rfl)) (Nat.le_of_ble_eq_true (by kernel_rfl)) (by kernel_rfl) (by kernel_rfl) (by kernel_rfl)
        dsimp only [setO]
        repeat' (first
           | (apply Rx.nl ?_; clear hK K) | apply Ry.o ?_ | apply Ry.on ?_ | (apply Ry.call ?_; first | refine Rx.k (kCEx _) ?_) | apply Ry.gu ?_ | (apply Ry.gd (fun hg hgp => ?_) (fun hg hgp => ?_) <;> try (cases hg; done)) | (apply Ry.cd (fun hb hbp => ?_) (fun hb hbp => ?_) <;> try (cases hb; done)) | apply Wp.seq ?_ | (apply Wp.ops' fun K hK => ?_) | (apply Rx.nq ?_; try intro _) | (apply Rx.nt ?_ ?_ <;> clear hK K) | apply WpT.step ?_ | apply WpT.step0 rfl ?_ | apply Ry.gv ?_ | (apply Ry.gt (fun hg hgp => ?_) (fun hg hgp => ?_) <;> try (cases hg; done)) | apply Wp.block ?_ | apply Rx.sk ?_ | apply Rx.rt ?_ | apply Rx.xt ?_)
        all_goals (refine ⟨eI, _, eR, ?_⟩; try simp only [oneOr])
      · show (pr2 x y ⟨[102], [[120], [121]], [[105], [106]], (genB1 (l.take 60)).1 ++ [.mk 6 [120] [104] 0 zE zE [] [] []], (genV1 (l.take 60)).1⟩ (genGf (l.take 60))).sz < _
        have hs := stmtsSz_app (genB1 (l.take 60)).1 [.mk 6 [120] [104] 0 zE zE [] [] []]
        have hs2 : stmtsSz [.mk 6 [120] [104] 0 zE zE [] [] []] ≤ 100 := Nat.le_of_ble_eq_true (by kernel_rfl)
        simp only [pr2, arG2, Pr.sz, arrsSz, fnsSz, genGf, Fu.sz, strsSz, List.length_cons, List.length_nil]
        omega
  · -- 11
    generalize hHb : (((Hq.alloc (.cells [.nilS, .nilS] 0 true)).set Hq.next (.cells [.sl ra 0 2 2, .sl rf 0 2 9] 0 true)).alloc (.cells [.int .i64 0, .int .i64 0, .str [], .int .i64 0, .nilS] 0 true)).set (Hq.next + 1) (.cells [.int .i64 1, .int .i64 0, .str [], .int .i64 0, .nilS] 0 true) = Hb
    obtain ⟨nbl, nbg, ob, pb, mb⟩ := startB hHb
    clear hHb
    have gfb := (ob rf ltF).trans gf
    obtain ⟨N, hN⟩ : ∃ N, (genF (l.take 60)).body.length = N := ⟨_, rfl⟩
    have hNl : N < 2 ^ 30 := by have h1 := stmtsSz_len (genB1 (l.take 60)).1; have h2 : (genF (l.take 60)).body = (genB1 (l.take 60)).1 := rfl; rw [h2] at hN; omega
    have hlen : ∀ H, lenAt Try.prog H 36 bf = some (.int .i64 N) := fun H => by have := hX.F.bo.len (P := Try.prog) (H' := H) Try.underlying36; rw [List.length_map, hN] at this; exact this
    obtain ⟨o1, o2⟩ := hX.F.bo.one
    have e21 : (rf == Hb.next) = false := ne_beq (by omega)
    have e22 : (rf == Hb.next + 1) = false := ne_beq (by omega)
    have e23 : (rf == Hb.next + 2) = false := ne_beq (by omega)
    have e24 : (Hb.next + 1 == rf) = false := ne_beq (by omega)
    have e25 : (Hb.next + 2 == rf) = false := ne_beq (by omega)
    have e26 : (Hq.next == rf) = false := ne_beq (by omega)
    have e27 : (Hq.next == Hb.next) = false := ne_beq (by omega)
    have e28 : (Hq.next == Hb.next + 1) = false := ne_beq (by omega)
    have e29 : (Hq.next == Hb.next + 2) = false := ne_beq (by omega)
    have e30 : (Hq.next + 1 == Hb.next) = false := ne_beq (by omega)
    have e31 : (Hq.next + 1 == Hb.next + 1) = false := ne_beq (by omega)
    have e32 : (Hq.next + 1 == Hb.next + 2) = false := ne_beq (by omega)
    obtain ⟨H', flat, imm', a1, a2, a3, a4, a5, a6, a7, a8, a9, a10⟩ := hX.pushB (Hb := Hb.alloc (.cells [.int .i64 0, .str [], .str [], .int .i64 0, .int .i64 0, .int .i64 0, .str [], .int .i64 0, .nilS, .int .i64 0, .int .i64 0, .str [], .int .i64 0, .nilS, .nilS, .nilS, .nilS] 0 true)) (by simp only [Hp.next_alloc]; omega) (fun q _ h => by (repeat rw [Hp.get_alloc, if_neg (by first | omega | (simp only [Hp.next_alloc]; omega))]); exact ob q h) (r := Hb.next) (row := [.int .i64 0, .str [], .str [], .int .i64 0, .int .i64 0, .int .i64 0, .str [], .int .i64 0, .nilS, .int .i64 0, .int .i64 0, .str [], .int .i64 0, .nilS, .nilS, .nilS, .nilS]) (by rw [Hp.get_alloc, if_pos rfl]) rfl rfl hN hNl
    have gf8 := a9.trans ((alloc_old (by omega)).trans gfb)
    have pp8 := (a8 Hq.next (by simp only [Hp.next_alloc]; omega) (.inr (Nat.le_refl _))).trans ((alloc_old (by omega)).trans pb)
    simp only [Hp.next_alloc] at a1 a2 a7 a8 a10
    have hn1 : N < N + 1 := Nat.lt_succ_self _
    have gz := @aZ17
    (apply Rx.dS 44 9 12 [0, 1, 2, 3, 4, 5, 6, 7, 8, 10, 11, 12, 9] [(3, 7), (5, 7), (6, 7)] [(3, 7), (5, 7), (6, 7)] ?_ ?_ ?_; rotate_left 2)
    · repeat' (first
         | (apply Rx.nl ?_; clear hK K) | apply Ry.o ?_ | apply Ry.on ?_ | apply Ry.gu ?_ | (apply Ry.gd (fun hg hgp => ?_) (fun hg hgp => ?_) <;> try (cases hg; done)) | (apply Ry.cd (fun hb hbp => ?_) (fun hb hbp => ?_) <;> try (cases hb; done)) | apply Wp.seq ?_ | (apply Wp.ops' fun K hK => ?_) | (apply Rx.nq ?_; try intro _) | (apply Rx.nt ?_ ?_ <;> clear hK K) | apply WpT.step ?_ | apply WpT.step0 rfl ?_ | apply Ry.gv ?_ | (apply Ry.gt (fun hg hgp => ?_) (fun hg hgp => ?_) <;> try (cases hg; done)) | apply Wp.block ?_ | apply Rx.sk ?_ | apply Rx.rt ?_ | apply Rx.xt ?_)
      try any_goals intro _
      repeat' (first
         | (apply Rx.nl ?_; clear hK K) | apply Ry.o ?_ | apply Ry.on ?_ | apply Ry.gu ?_ | (apply Ry.gd (fun hg hgp => ?_) (fun hg hgp => ?_) <;> try (cases hg; done)) | (apply Ry.cd (fun hb hbp => ?_) (fun hb hbp => ?_) <;> try (cases hb; done)) | apply Wp.seq ?_ | (apply Wp.ops' fun K hK => ?_) | (apply Rx.nq ?_; try intro _) | (apply Rx.nt ?_ ?_ <;> clear hK K) | apply WpT.step ?_ | apply WpT.step0 rfl ?_ | apply Ry.gv ?_ | (apply Ry.gt (fun hg hgp => ?_) (fun hg hgp => ?_) <;> try (cases hg; done)) | apply Wp.block ?_ | apply Rx.sk ?_ | apply Rx.rt ?_ | apply Rx.xt ?_)
      try any_goals intro _
      any_goals refine WpT.nil ⟨?_, rfl, rfl⟩
      all_goals exact eK
    · repeat' (first
         | (apply Rx.nl ?_; clear hK K) | apply Ry.o ?_ | apply Ry.on ?_ | apply Ry.gu ?_ | (apply Ry.gd (fun hg hgp => ?_) (fun hg hgp => ?_) <;> try (cases hg; done)) | (apply Ry.cd (fun hb hbp => ?_) (fun hb hbp => ?_) <;> try (cases hb; done)) | apply Wp.seq ?_ | (apply Wp.ops' fun K hK => ?_) | (apply Rx.nq ?_; try intro _) | (apply Rx.nt ?_ ?_ <;> clear hK K) | apply WpT.step ?_ | apply WpT.step0 rfl ?_ | apply Ry.gv ?_ | (apply Ry.gt (fun hg hgp => ?_) (fun hg hgp => ?_) <;> try (cases hg; done)) | apply Wp.block ?_ | apply Rx.sk ?_ | apply Rx.rt ?_ | apply Rx.xt ?_)
      try any_goals intro _
      repeat' (first
         | (apply Rx.nl ?_; clear hK K) | apply Ry.o ?_ | apply Ry.on ?_ | apply Ry.gu ?_ | (apply Ry.gd (fun hg hgp => ?_) (fun hg hgp => ?_) <;> try (cases hg; done)) | (apply Ry.cd (fun hb hbp => ?_) (fun hb hbp => ?_) <;> try (cases hb; done)) | apply Wp.seq ?_ | (apply Wp.ops' fun K hK => ?_) | (apply Rx.nq ?_; try intro _) | (apply Rx.nt ?_ ?_ <;> clear hK K) | apply WpT.step ?_ | apply WpT.step0 rfl ?_ | apply Ry.gv ?_ | (apply Ry.gt (fun hg hgp => ?_) (fun hg hgp => ?_) <;> try (cases hg; done)) | apply Wp.block ?_ | apply Rx.sk ?_ | apply Rx.rt ?_ | apply Rx.xt ?_)
      try any_goals intro _
      any_goals refine WpT.nil ⟨?_, rfl, Hp.set_comm _ (fun e => by omega) _ _⟩
      all_goals exact eK
    · generalize hH5 : ((H'.set (Hb.next + 1) (.cells (flat ++ [.int .i64 6, .str [120], .str [103], .int .i64 0, .int .i64 0, .int .i64 0, .str [], .int .i64 0, .nilS, .int .i64 0, .int .i64 0, .str [], .int .i64 0, .nilS, .nilS, .nilS, .nilS]) imm' true)).set rf (.cells [.str [102], pf, lf, .sl (Hb.next + 1) 0 (N + 1) 17, v0, v1, v2, v3, v4, .str [103], pg, lg, bg, w0, w1, w2, w3, w4] 0 true)) = H5
      have X5 := a10 H5 [.int .i64 6, .str [120], .str [103], .int .i64 0, .int .i64 0, .int .i64 0, .str [], .int .i64 0, .nilS, .int .i64 0, .int .i64 0, .str [], .int .i64 0, .nilS, .nilS, .nilS, .nilS] (.mk 6 [120] [103] 0 zE zE [] [] []) (by rw [← hH5]; rfl) (fun q h1 h2 => by rw [← hH5, Hp.get_set, if_neg h1, Hp.get_set, if_neg (by omega)]) (by rw [← hH5, Hp.get_set, if_neg (fun e => by omega), Hp.get_set, if_pos rfl]) rfl (st_node (n := 13) 6 [120] [103] 0 zC_w zC_w .nilS .nilS .nilS) (by rw [← hH5, Hp.get_set, if_pos rfl]; rfl)
      have p5 : H5.get Hq.next = some (.cells [.sl ra 0 2 2, .sl rf 0 2 9] 0 true) := by rw [← hH5, Hp.get_set, if_neg (fun e => by omega), Hp.get_set, if_neg (fun e => by omega)]; exact pp8
      dsimp only [thenQ, blockQ, setO]
      repeat' (first
         | (apply Rx.nl ?_; clear hK K) | apply Rx.o ?_ | apply Rx.on ?_ | apply Rx.gu ?_ | (apply Rx.gd (fun hg hgp => ?_) (fun hg hgp => ?_) <;> try (cases hg; done)) | (apply Rx.cd (fun hb hbp => ?_) (fun hb hbp => ?_) <;> try (cases hb; done)) | apply Wp.seq ?_ | (apply Wp.ops' fun K hK => ?_) | (apply Rx.nq ?_; try intro _) | (apply Rx.nt ?_ ?_ <;> clear hK K) | apply WpT.step ?_ | apply WpT.step0 rfl ?_ | apply Rx.gv ?_ | (apply Rx.gt (fun hg hgp => ?_) (fun hg hgp => ?_) <;> try (cases hg; done)) | apply Wp.block ?_ | apply Rx.sk ?_ | apply Rx.rt ?_ | apply Rx.xt ?_)
      refine WpL.call rfl eVk eAk ?_; simp only [List.cons_append, List.nil_append, List.append_nil]
      refine WpCall.mono ?_ (X5.chk (fun _ => rfl) rfl (by omega) ?_)
      · rintro v H6 rfl
        have hrc : refCheck (ordP 0 x y { genF (l.take 60) with body := (genF (l.take 60)).body ++ [.mk 6 [120] [103] 0 zE zE [] [] []] } (genGf (l.take 60))) = 5 := sglA hF hxr hyr (Nat.le_of_ble_eq_true (by kernel_rfl)) (Nat.le_of_ble_eq_true (by kernel_rfl)) (Nat.le_of_ble_eq_true (by kernel_rfl)) (by kernel_rfl) (by kernel_rfl) (by kernel_rfl) (by kernel_rfl)
        dsimp only [setO]
        repeat' (first
           | (apply Rx.nl ?_; clear hK K) | apply Ry.o ?_ | apply Ry.on ?_ | (apply Ry.call ?_; first | refine Rx.k (kCEx _) ?_) | apply Ry.gu ?_ | (apply Ry.gd (fun hg hgp => ?_) (fun hg hgp => ?_) <;> try (cases hg; done)) | (apply Ry.cd (fun hb hbp => ?_) (fun hb hbp => ?_) <;> try (cases hb; done)) | apply Wp.seq ?_ | (apply Wp.ops' fun K hK => ?_) | (apply Rx.nq ?_; try intro _) | (apply Rx.nt ?_ ?_ <;> clear hK K) | apply WpT.step ?_ | apply WpT.step0 rfl ?_ | apply Ry.gv ?_ | (apply Ry.gt (fun hg hgp => ?_) (fun hg hgp => ?_) <;> try (cases hg; done)) | apply Wp.block ?_ | apply Rx.sk ?_ | apply Rx.rt ?_ | apply Rx.xt ?_)
        all_goals (refine ⟨eI, _, eR, ?_⟩; try simp only [oneOr])
      · show (pr2 x y ⟨[102], [[120], [121]], [[105], [106]], (genB1 (l.take 60)).1 ++ [.mk 6 [120] [103] 0 zE zE [] [] []], (genV1 (l.take 60)).1⟩ (genGf (l.take 60))).sz < _
        have hs := stmtsSz_app (genB1 (l.take 60)).1 [.mk 6 [120] [103] 0 zE zE [] [] []]
        have hs2 : stmtsSz [.mk 6 [120] [103] 0 zE zE [] [] []] ≤ 100 := Nat.le_of_ble_eq_true (by kernel_rfl)
        simp only [pr2, arG2, Pr.sz, arrsSz, fnsSz, genGf, Fu.sz, strsSz, List.length_cons, List.length_nil]
        omega
  · -- 12
    refine WpL.call rfl eVk eAk ?_; simp only [List.cons_append, List.nil_append, List.append_nil]
    refine WpCall.mono ?_ (ProgL.chk (fun _ => rfl) rfl (hP.set (x' := x) (y' := y) (nf := [102]) (ng := [103]) ?_ ?_ ?_ ?_) (by omega) ?_)
    · rintro v H5 rfl
      have hrc : refCheck (pr2 x y { genF (l.take 60) with name := [102] } { genGf (l.take 60) with name := [103] }) = 0 := by have := genP_ok l; rw [hgp] at this; exact this
      dsimp only [setO]
      repeat' (first
         | (apply Rx.nl ?_; clear hK K) | apply Ry.o ?_ | apply Ry.on ?_ | (apply Ry.call ?_; first | refine Rx.k (kCEx _) ?_) | apply Ry.gu ?_ | (apply Ry.gd (fun hg hgp => ?_) (fun hg hgp => ?_) <;> try (cases hg; done)) | (apply Ry.cd (fun hb hbp => ?_) (fun hb hbp => ?_) <;> try (cases hb; done)) | apply Wp.seq ?_ | (apply Wp.ops' fun K hK => ?_) | (apply Rx.nq ?_; try intro _) | (apply Rx.nt ?_ ?_ <;> clear hK K) | apply WpT.step ?_ | apply WpT.step0 rfl ?_ | apply Ry.gv ?_ | (apply Ry.gt (fun hg hgp => ?_) (fun hg hgp => ?_) <;> try (cases hg; done)) | apply Wp.block ?_ | apply Rx.sk ?_ | apply Rx.rt ?_ | apply Rx.xt ?_)
      all_goals (refine ⟨eI, _, eR, ?_⟩; try simp only [oneOr])
    · simp only [Hp.next_set, Hp.next_alloc]; omega
    · intro q h1 h2 h3; simp only [Hp.get_set, Hp.get_alloc, Hp.next_set, Hp.next_alloc]; (repeat rw [if_neg (by omega)])
    · simp only [Hp.get_set, Hp.get_alloc, Hp.next_set, Hp.next_alloc]; (repeat (first | rw [if_neg (by omega)] | rw [if_pos (by omega)])); first | rfl | exact ga | exact gf
    · simp only [Hp.get_set, Hp.get_alloc, Hp.next_set, Hp.next_alloc]; (repeat (first | rw [if_neg (by omega)] | rw [if_pos (by omega)])); first | rfl | exact ga | exact gf
    · simp only [pr2, arG2, Pr.sz, arrsSz, fnsSz, genF, genGf, Fu.sz, strsSz, Ex.sz, exprsSz, n0E, List.length_cons, List.length_nil]; omega
theorem con (l : List Int) (a : Int) (hl : l.length < 2 ^ 63) : Con Try.prog (fun _ => 0) 4 [intRows l, .int .i64 a] (.bool true) :=
  Con.lev fit (pls := pls) (levS_ok _) (.cons (intRows_pure l) (.cons (.int _ _) .nil)) (.bool _) (law l a hl)
set_option maxRecDepth 100000 in
theorem walk {H : Type} {enc : TypeId × Value → H} (W : World) (v0 : Value) {r : Reach} {b0 : Nat} (k0 : Value.okWide Try.prog W r b0 26 v0) {d : DataW H} {ps : List MemPlace} {sp : Nat → Bool} {held : Bool} (h0 : DataW.Trod enc Try.prog W 0 sp held 26 v0 d ps) (a1 : Int) :
    Calls Try.prog 4 #[v0, .int .i64 a1] W fun e w' => e = .returned (.bool true) ∧ Below W.heap.size W w' := by
  obtain ⟨l, hv, hl⟩ := seeds_arg k0 h0
  exact Con.walk (ρ := fun _ => 0) (F := memF W) (con l a1 hl) (memF_ok W) (VRs.cons hv (VRs.cons (.int .i64 a1) (VRs.nil _)))
set_option maxRecDepth 100000 in
theorem lifted (os : Os) (started : os.Started) (H : Type) (enc : TypeId × Value → H) :
    ReturnsInHanded {} Try.checked os 4 .any (Rows.checkerSingleErrorSpec.pre6 enc Try.prog Try.f4 Rows.checkerSingleErrorRow.domain false) (Rows.checkerSingleErrorSpec.post enc Try.prog Try.f4 false true false false) := by
  refine returnsInHanded_of_change (C := Try.checked) own started (by kernel_rfl) Try.func4
    (ChangeSpec.witness6 (enc := enc) (C := Try.checked) false ⟨#[], #[.slice none 0 0, .int .i64 0], []⟩ 8 (by kernel_rfl) (by kernel_rfl) (by kernel_rfl) (by kernel_rfl)) ?_
  intro W base args ds gs before hval0 hW hcnd _
  have hval : ∀ (j : Nat) t v, Try.f4.params[j]? = some t → args[j]? = some v → Value.okWide Try.prog W .any base t v := hval0
  have hW' := hW
  obtain ⟨p, q, hA0, hV, rfl, hfz, hnd⟩ := hW
  have hA : DataW.TrodAll enc Try.prog W 0 (fun _ => true) true Try.f4.params.toList args.toList ds p := hA0
  rw [Try.params4] at hA hval
  obtain ⟨v0, vs0, d0, ds0, p0, q0, hargs, rfl, rfl, h0, r0⟩ := trodAll_cons hA
  obtain ⟨v1, vs1, d1, ds1, p1, q1, rfl, rfl, rfl, h1, r1⟩ := trodAll_cons r0
  obtain ⟨rfl, rfl, rfl⟩ := trodAll_nil r1
  obtain rfl : args = #[v0, v1] := by cases args; simp_all
  obtain ⟨rfl, rfl⟩ := trodVars_none hV
  have k0 := hval 0 26 v0 rfl rfl
  obtain ⟨a1, rfl, rfl, rfl, w1⟩ := open_int Try.underlying3 (hval 1 3 v1 rfl rfl) h1
  clear hA0 hval0
  refine (walk W v0 k0 h0 a1).mono fun e W' ⟨he, hg⟩ => ?_
  subst he
  exact ⟨_, rfl, post_of_below (pv := []) hW' (fun _ _ _ => (trodAll_cons_mk (shut_bool Try.underlying4 _) trodAll_mk0)) (fun sp hsp => (trodAll_cons_mk (arg_stays (by kernel_rfl) (by kernel_rfl) (of_decide_eq_true (by kernel_rfl)) h0 hg (fun p hp => hW'.lt p hp) (fun x hx => by simp [hx]) hsp) (trodAll_cons_mk (shut_int Try.underlying3 w1) trodAll_mk0))) (fun _ _ => rfl) (by simp) hg (ok_one (by kernel_rfl) rfl (okWide_bool_mk Try.underlying4 _))⟩
theorem over : Rows.checkerSingleErrorRow.holds Try.pinned (OpenSpec.ofChange Rows.checkerSingleErrorSpec) :=
  OpenClaim.holds_of_wide 4 Try.f4 rfl rfl rfl rfl rfl rfl rfl ⟨rfl, rfl, rfl, rfl, rfl⟩ rfl rfl rfl rfl rfl (by kernel_rfl) Try.func4 (by kernel_rfl)
    (of_decide_eq_true (by kernel_rfl)) (by unfold Func.isWrapper; first | (rw [if_pos (by decide +kernel)]; kernel_rfl) | (rw [if_neg (by decide +kernel)]; exact ⟨rfl, rfl⟩))
    (fun os started H enc _ => lifted os started H enc)
/-- THE STATEMENT -/
theorem proved : Rows.CheckerSingleErrorSaid :=
  over
#print axioms proved
end Go.Proofs.Ytackdnelcpbfjaa.checkerSingleError
