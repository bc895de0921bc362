/-
  The Go function fullinglaw4.CheckerOrder returns true whatever its three arguments are, and leaves all memory that was there as it was. Conditions: none.
-/
import Derived.OpenShut
import Derived.ProofKit
import Derived.Test.YtackdnelcpbfjaaSOQ
import Derived.WalkKit
set_option linter.unusedSimpArgs false
set_option linter.unusedVariables false
set_option linter.unusedSectionVars false
set_option linter.defProp false
namespace Go.Proofs.Ytackdnelcpbfjaa.checkerOrder
set_option maxRecDepth 20000
set_option linter.unusedVariables false
set_option linter.unusedSimpArgs false
set_option linter.unusedSectionVars false
set_option linter.defProp false
set_option maxRecDepth 20000
open Go Go.Ab
namespace tyCheckerOrder
def tyF := And.intro @tq2 (And.intro @tq3 (And.intro @tq9 (And.intro @tq22 (And.intro @tq23 (And.intro @tq25 (And.intro @tq30 (And.intro @tq35 (And.intro @tq36 (And.intro @tq37 (And.intro @tq39 (And.intro @tq41 (And.intro @aggP2 (And.intro @bsFx (And.intro @bsS1' (@aggE5)))))))))))))))
end tyCheckerOrder
open tyCheckerOrder Go.ChangeShapes Go.WideShapes Go.ChangeAt Go.RowKit
theorem own : ownKnob Try.prog.godebug = none := by kernel_rfl
noncomputable def code5 : { c : SC // slim 43 (Try.f5.body.getD .skip) = c } := by
  refine ⟨?_, ?_⟩
  rotate_left
  · simp only [Try.f5, Option.getD_some, slim, slimR, slimL, slimD, slimG, Nat.blt, Nat.ble]
    rfl
noncomputable def enCEx : En := ⟨15, false, fun args => lookK knCEx.list 15 args⟩
theorem enCEx_ok (ρ : Nat → Int) : EnOk Try.prog ρ enCEx := fun args r hr => lookK_ok (knCEx.ok ρ) _ args r hr
noncomputable def levO : List En := [enPick, enWord, enNms, enW enMutE, enW enMutS, enW enChkP, enW enSwapI, enCEx]
theorem levO_ok (ρ : Nat → Int) : EnsOk Try.prog ρ levO := ⟨enPick_ok ρ, enWord_ok ρ, enNms_ok ρ, enW_ok (enMutE_ok ρ), enW_ok (enMutS_ok ρ), enW_ok (enChkP_ok ρ), enW_ok (enSwapI_ok ρ), enCEx_ok ρ, trivial⟩
theorem mutL_O : MutL levO where
  pick := fun _ => rfl
  word := fun _ => rfl
  nms := fun _ => rfl
  pl := fun f hf => by rcases genFn_cases hf with rfl | rfl | rfl | rfl | rfl <;> exact ⟨fun _ => rfl, rfl⟩
  me := fun _ => rfl
  mei := rfl
  ms := fun _ => rfl
  msi := rfl
  plm := ⟨fun _ => rfl, rfl⟩
theorem kCEx (H : Hp) : WpCall Try.prog (cfgN pls levO) 15 [] H fun v H' => v = .bool true ∧ H' = H := WpCall.kn rfl
theorem kChkV (p : Pr) (hp : p.sz < 2 ^ 36) (H : Hp) : WpCall Try.prog (cfgN pls levO) 13 [.agg p.cells] H fun v H' => v = .int .i64 (refCheck p) ∧ Icy (fun _ => False) H H' :=
  chkX (fun _ => rfl) rfl (n := 40) (by omega) (CellsW.pr (n := 39) p) hp
theorem bV (s : List UInt8) : buildA Try.prog 39 [(0, .int .i64 2), (2, .str s)] = some (.agg [.int .i64 2, .int .i64 0, .str s, .int .i64 0, .nilS]) := by kernel_rfl
theorem bZ (s : List UInt8) (q : Nat) (a b c d e : AV) : buildA Try.prog 41 [(0, .str s), (1, .sl q 0 1 1), (4, .agg [a, b, c, d, e])] = some (.agg [.str s, .sl q 0 1 1, .nilS, .nilS, a, b, c, d, e]) := by kernel_rfl
set_option maxRecDepth 100000 in
set_option maxHeartbeats 16000000 in
theorem law (l : List Int) (how a : Int) (hl : l.length < 2 ^ 63) : WpCall Try.prog (cfgN pls levO) 5 [.lst (l.map fun n => [AV.int .i64 n]), .int .i64 how, .int .i64 a] H0 fun v _ => v = .bool true := by
  have hw : Plain (cfgN pls levO) 5 := plainN (fun _ => rfl) rfl
  have hkeep : (cfgN pls levO).keep 5 = false := rfl
  refine WpCall.slim (M := 43) (rs := [.tmp 6]) (hw.call _) hw.ice hw.froz Try.func5 rfl rfl code5.2 rfl ?_; dsimp only [code5, envOf, Nat.reduceAdd]
  repeat' (first
     | (apply Rx.nl ?_; clear hK K) | apply Rx.o ?_ | apply Rx.on ?_ | apply Rx.gu ?_ | (apply Rx.gd (fun hg hgp => ?_) (fun hg hgp => ?_) <;> try (cases hg; done)) | (apply Rx.cd (fun hb hbp => ?_) (fun hb hbp => ?_) <;> try (cases hb; done)) | apply Wp.seq ?_ | (apply Wp.ops' fun K hK => ?_) | apply Rx.sk ?_ | apply Rx.rt ?_)
  refine WpL.call rfl eVk eAk ?_; simp only [List.cons_append, List.nil_append, List.append_nil]
  refine WpCall.mono ?_ (mutProgram_wp mutL_O (stAll mutL_O.toGenL) l hl how a H0)
  rintro _ Hq ⟨va, vb, p, R, P, rfl, hM, hn, _⟩
  obtain ⟨o1, o2⟩ := hM.one
  have hsz := hM.good.sz
  have hlen : ∀ H, lenAt Try.prog H 23 vb = some (.int .i64 p.funcs.length) := fun H => by have := hM.fns.len (P := Try.prog) (H' := H) Try.underlying23; rw [List.length_map] at this; exact this
  dsimp only [setO]
  repeat' (first
     | (apply Rx.nl ?_; clear hK K) | apply Rx.o ?_ | apply Rx.on ?_ | apply Rx.gu ?_ | (apply Rx.gd (fun hg hgp => ?_) (fun hg hgp => ?_) <;> try (cases hg; done)) | (apply Rx.cd (fun hb hbp => ?_) (fun hb hbp => ?_) <;> try (cases hb; done)) | apply Wp.seq ?_ | (apply Wp.ops' fun K hK => ?_) | apply Rx.sk ?_ | apply Rx.rt ?_)
  refine WpL.call rfl eVk eAk ?_; simp only [List.cons_append, List.nil_append, List.append_nil]
  generalize hH1 : Hp.set (Hp.alloc Hq _) Hq.next _ = H1
  have n1 : H1.next = Hq.next + 1 := by rw [← hH1]; rfl
  have g1 : H1.get Hq.next = some (.cells [va, vb] 0 true) := by rw [← hH1, Hp.get_set, if_pos rfl]
  have k1 : ∀ q, q < Hq.next → H1.get q = Hq.get q := fun q h => by rw [← hH1, Hp.get_set, if_neg (by omega), alloc_old h]
  clear hH1
  have hc1 : CellsW (fun q => q < Hq.next) 51 H1 [va, vb] p.cells := hM.rd.keep2 (fun q _ h => h.2.2) (by omega) fun q _ h => k1 q h
  refine WpCall.mono ?_ (chkX (fun _ => rfl) rfl (n := 51) (by omega) hc1 (by omega))
  rintro _ H2 ⟨rfl, hI1⟩
  have g2 := (hI1.out Hq.next (by omega)).trans g1
  dsimp only [setO]
  repeat' (first
     | (apply Rx.nl ?_; clear hK K) | apply Rx.o ?_ | apply Rx.on ?_ | apply Rx.gu ?_ | (apply Rx.gd (fun hg hgp => ?_) (fun hg hgp => ?_) <;> try (cases hg; done)) | (apply Rx.cd (fun hb hbp => ?_) (fun hb hbp => ?_) <;> try (cases hb; done)) | apply Wp.seq ?_ | (apply Wp.ops' fun K hK => ?_) | apply Rx.sk ?_ | apply Rx.rt ?_)
  refine WpL.call rfl eVk eAk ?_; simp only [List.cons_append, List.nil_append, List.append_nil]
  have hc2 : CellsW (fun q => q < Hq.next) 51 H2 [va, vb] p.cells := hc1.frame (fun _ h => h) (by have := hI1.next; omega) fun q _ _ => hI1.same q
  refine WpCall.mono ?_ (swapX (fun _ => rfl) rfl (n := 51) (by omega) hc2 (by omega))
  rintro _ H3 ⟨rfl, hI2⟩
  have g3 := (hI2.out Hq.next (by omega)).trans g2
  dsimp only [setO]
  repeat' (first
     | (apply Rx.nl ?_; clear hK K) | apply Rx.o ?_ | apply Rx.on ?_ | apply Rx.gu ?_ | (apply Rx.gd (fun hg hgp => ?_) (fun hg hgp => ?_) <;> try (cases hg; done)) | (apply Rx.cd (fun hb hbp => ?_) (fun hb hbp => ?_) <;> try (cases hb; done)) | apply Wp.seq ?_ | (apply Wp.ops' fun K hK => ?_) | apply Rx.sk ?_ | apply Rx.rt ?_)
  refine WpL.call rfl eVk eAk ?_; simp only [List.cons_append, List.nil_append, List.append_nil]
  refine WpCall.mono ?_ (kChkV (swapP p) (by rw [swap_pr]; omega) _)
  rintro _ H4 ⟨rfl, hI3⟩
  have g4 := (hI3.out Hq.next (fun h => h)).trans g3
  rw [refCheck_swap]
  have hzz := add_zz (p := p)
  generalize refCheck p = e at *
  have h0 : H0.next = 0 := rfl
  have nn2 := hI1.next
  have nn3 := hI2.next
  have nn4 := hI3.next
  have f1 : RowOwn (fun q => H0.next + 1 ≤ q ∧ ¬ (R q ∧ q < Hq.next) ∧ q ≠ Hq.next) 50 H1 9 vb (p.funcs.map Fu.cells) := hM.fns.keep (fun k h1 h2 => ⟨h2.1, fun h => h2.2.1 h.1, by omega⟩) (by omega) fun k _ h2 => k1 k h2
  have f2 := f1.icy (H' := H2) (by omega) fun q _ _ => hI1.same q
  have f3 := f2.icy (H' := H3) (by omega) fun q _ _ => hI2.same q
  have f4 := f3.icy (H' := H4) (by omega) fun q _ _ => hI3.same q
  have a1 : RowOwn (fun q => R q ∧ q < Hq.next) 50 H1 2 va (p.arrays.map Ar.cells) := hM.ars.keep (fun k h1 h2 => ⟨h2.2, h1⟩) (by omega) fun k _ h2 => k1 k h2
  have a2 := a1.icy (H' := H2) (by omega) fun q _ _ => hI1.same q
  have a3 := a2.icy (H' := H3) (by omega) fun q _ _ => hI2.same q
  have a4 := a3.icy (H' := H4) (by omega) fun q _ _ => hI3.same q
  obtain ⟨x1, x2⟩ : H4.next ≤ Hq.next + 1 ∧ Hq.next + 1 ≤ H4.next := by omega
  clear nn2 nn3 nn4 n1 f1 f2 f3 a1 a2 a3 hI1 hI2 hI3 hc1 hc2 k1 g1 g2 g3
  obtain ⟨N, hN⟩ : ∃ N, p.funcs.length = N := ⟨_, rfl⟩
  have hNl : N < 2 ^ 30 := by
    have h1 := fnsSz_len p.funcs
    have h2 : p.sz = 1 + arrsSz p.arrays + fnsSz p.funcs := rfl
    omega
  rw [hN] at hlen hzz
  obtain ⟨H5, p1, p2, p3, p4⟩ := fns_pushR f4 (by omega) (by omega) (fun q h => by omega) (Hb := (H4.alloc (.cells [.str [122, 122]] 0 true)).alloc (.cells [.str [122, 122], .sl H4.next 0 1 1, .nilS, .nilS, .int .i64 2, .int .i64 0, .str [122, 122], .int .i64 0, .nilS] 0 true)) (by simp only [Hp.next_alloc]; omega) (fun q h1 => by rw [alloc_old (by simp only [Hp.next_alloc]; omega), alloc_old h1]) (t := H4.next + 1) (row := [.str [122, 122], .sl H4.next 0 1 1, .nilS, .nilS, .int .i64 2, .int .i64 0, .str [122, 122], .int .i64 0, .nilS]) (w := zzF) (by rw [Hp.get_alloc, if_pos (by rfl)]) rfl rfl
    (fu_node (n := 49) (f := zzF) (v := [.int .i64 2, .int .i64 0, .str [122, 122], .int .i64 0, .nilS]) [122, 122] rfl (rd_strs (n := 48) (imm := 0) (tip := true) [[122, 122]] ⟨Nat.le_refl _, by simp only [Hp.next_alloc]; omega⟩ (by simp only [Hp.next_alloc]; omega) (by rw [alloc_old (by simp only [Hp.next_alloc]; omega), Hp.get_alloc, if_pos rfl]; rfl) (by simp)) .nilS .nilS (ex_leaf 2 0 0 [122, 122])) hN hNl
  simp only [Hp.next_alloc, Nat.add_assoc, Nat.reduceAdd] at p1 p2 p3 p4
  have g5 := (p3 Hq.next (by omega) (.inr (.inr rfl))).trans g4
  have e1 : (Hq.next == H4.next) = false := ne_beq (by omega)
  have e2 : (Hq.next == H4.next + 1) = false := ne_beq (by omega)
  dsimp only [setO]
  have gh0 := @bV
  have gh1 := @bZ
  repeat' (first
     | (apply Rx.nl ?_; clear hK K) | apply Ry.o ?_ | apply Ry.on ?_ | (apply Ry.call ?_; first | refine Rx.k (kCEx _) ?_) | apply Ry.gu ?_ | (apply Ry.gd (fun hg hgp => ?_) (fun hg hgp => ?_) <;> try (cases hg; done)) | (apply Ry.cd (fun hb hbp => ?_) (fun hb hbp => ?_) <;> try (cases hb; done)) | apply Wp.seq ?_ | (apply Wp.ops' fun K hK => ?_) | apply Rx.sk ?_ | apply Rx.rt ?_)
  all_goals (first | (refine ⟨eI, _, eR, ?_⟩; (try simp only [oneOr]); first | done | rfl; done) | skip)
  refine WpL.call rfl eVk eAk ?_; simp only [List.cons_append, List.nil_append, List.append_nil]
  generalize hH6 : Hp.set H5 Hq.next _ = H6
  have n6 : H6.next = H5.next := by rw [← hH6]; rfl
  have g6 := show H6.get Hq.next = some _ by rw [← hH6, Hp.get_set, if_pos rfl]
  have o6 : ∀ q, q ≠ Hq.next → H6.get q = H5.get q := fun q h => by rw [← hH6, Hp.get_set, if_neg h]
  clear hH6
  have hc6 : CellsW (fun _ => True) 51 H6 [va, .sl (H4.next + 2) 0 (N + 1) 9] (Pr.mk p.arrays (p.funcs ++ [zzF])).cells := by
    refine .cons ((a4.keep (fun _ _ h => h) (by omega) fun q h1 h2 => ?_).rd.keep (fun _ _ => trivial) (Nat.le_refl _) fun _ _ _ => rfl) (.cons ((p4 H6 n6 o6).rd.keep (fun _ _ => trivial) (Nat.le_refl _) fun _ _ _ => rfl) .nil)
    rw [o6 q (by omega), p3 q h2 (.inr (.inl h1))]
  have hz6 : (Pr.mk p.arrays (p.funcs ++ [zzF])).sz < 2 ^ 36 := by
    have h2 : p.sz = 1 + arrsSz p.arrays + fnsSz p.funcs := rfl
    have h3 : fnsSz [zzF] ≤ 100 := Nat.le_of_ble_eq_true (by kernel_rfl)
    simp only [Pr.sz, fnsSz_app]
    omega
  refine WpCall.mono ?_ (chkX (fun _ => rfl) rfl (n := 51) (by omega) hc6 hz6)
  rintro _ H7 ⟨rfl, hI7⟩
  have he : e = 0 := by
    by_cases h : e = 0
    · exact h
    · clear hw; simp_all
  have hr7 := hzz he (by omega) hM.good.fn hM.good.ar
  dsimp only [setO]
  repeat' (first
     | (apply Rx.nl ?_; clear hK K) | apply Ry.o ?_ | apply Ry.on ?_ | (apply Ry.call ?_; first | refine Rx.k (kCEx _) ?_) | apply Ry.gu ?_ | (apply Ry.gd (fun hg hgp => ?_) (fun hg hgp => ?_) <;> try (cases hg; done)) | (apply Ry.cd (fun hb hbp => ?_) (fun hb hbp => ?_) <;> try (cases hb; done)) | apply Wp.seq ?_ | (apply Wp.ops' fun K hK => ?_) | apply Rx.sk ?_ | apply Rx.rt ?_)
  all_goals (refine ⟨eI, _, eR, ?_⟩; try simp only [oneOr])
theorem con (l : List Int) (a b : Int) (hl : l.length < 2 ^ 63) : Con Try.prog (fun _ => 0) 5 [intRows l, .int .i64 a, .int .i64 b] (.bool true) :=
  Con.lev fit (pls := pls) (levO_ok _) (.cons (intRows_pure l) (.cons (.int _ _) (.cons (.int _ _) .nil))) (.bool _) (law l a b hl)
set_option maxRecDepth 100000 in
theorem walk {H : Type} {enc : TypeId × Value → H} (W : World) (v0 : Value) {r : Reach} {b0 : Nat} (k0 : Value.okWide Try.prog W r b0 26 v0) {d : DataW H} {ps : List MemPlace} {sp : Nat → Bool} {held : Bool} (h0 : DataW.Trod enc Try.prog W 0 sp held 26 v0 d ps) (a1 a2 : Int) :
    Calls Try.prog 5 #[v0, .int .i64 a1, .int .i64 a2] W fun e w' => e = .returned (.bool true) ∧ Below W.heap.size W w' := by
  obtain ⟨l, hv, hl⟩ := seeds_arg k0 h0
  exact Con.walk (ρ := fun _ => 0) (F := memF W) (con l a1 a2 hl) (memF_ok W) (VRs.cons hv (VRs.cons (.int .i64 a1) (VRs.cons (.int .i64 a2) (VRs.nil _))))
set_option maxRecDepth 100000 in
theorem lifted (os : Os) (started : os.Started) (H : Type) (enc : TypeId × Value → H) :
    ReturnsInHanded {} Try.checked os 5 .any (Rows.checkerOrderSpec.pre6 enc Try.prog Try.f5 Rows.checkerOrderRow.domain false) (Rows.checkerOrderSpec.post enc Try.prog Try.f5 false true false false) := by
  refine returnsInHanded_of_change (C := Try.checked) own started (by kernel_rfl) Try.func5
    (ChangeSpec.witness6 (enc := enc) (C := Try.checked) false ⟨#[], #[.slice none 0 0, .int .i64 0, .int .i64 0], []⟩ 8 (by kernel_rfl) (by kernel_rfl) (by kernel_rfl) (by kernel_rfl)) ?_
  intro W base args ds gs before hval0 hW hcnd _
  have hval : ∀ (j : Nat) t v, Try.f5.params[j]? = some t → args[j]? = some v → Value.okWide Try.prog W .any base t v := hval0
  have hW' := hW
  obtain ⟨p, q, hA0, hV, rfl, hfz, hnd⟩ := hW
  have hA : DataW.TrodAll enc Try.prog W 0 (fun _ => true) true Try.f5.params.toList args.toList ds p := hA0
  rw [Try.params5] at hA hval
  obtain ⟨v0, vs0, d0, ds0, p0, q0, hargs, rfl, rfl, h0, r0⟩ := trodAll_cons hA
  obtain ⟨v1, vs1, d1, ds1, p1, q1, rfl, rfl, rfl, h1, r1⟩ := trodAll_cons r0
  obtain ⟨v2, vs2, d2, ds2, p2, q2, rfl, rfl, rfl, h2, r2⟩ := trodAll_cons r1
  obtain ⟨rfl, rfl, rfl⟩ := trodAll_nil r2
  obtain rfl : args = #[v0, v1, v2] := by cases args; simp_all
  obtain ⟨rfl, rfl⟩ := trodVars_none hV
  have k0 := hval 0 26 v0 rfl rfl
  obtain ⟨a1, rfl, rfl, rfl, w1⟩ := open_int Try.underlying3 (hval 1 3 v1 rfl rfl) h1
  obtain ⟨a2, rfl, rfl, rfl, w2⟩ := open_int Try.underlying3 (hval 2 3 v2 rfl rfl) h2
  clear hA0 hval0
  refine (walk W v0 k0 h0 a1 a2).mono fun e W' ⟨he, hg⟩ => ?_
  subst he
  exact ⟨_, rfl, post_of_below (pv := []) hW' (fun _ _ _ => (trodAll_cons_mk (shut_bool Try.underlying4 _) trodAll_mk0)) (fun sp hsp => (trodAll_cons_mk (arg_stays (by kernel_rfl) (by kernel_rfl) (of_decide_eq_true (by kernel_rfl)) h0 hg (fun p hp => hW'.lt p hp) (fun x hx => by simp [hx]) hsp) (trodAll_cons_mk (shut_int Try.underlying3 w1) (trodAll_cons_mk (shut_int Try.underlying3 w2) trodAll_mk0)))) (fun _ _ => rfl) (by simp) hg (ok_one (by kernel_rfl) rfl (okWide_bool_mk Try.underlying4 _))⟩
theorem over : Rows.checkerOrderRow.holds Try.pinned (OpenSpec.ofChange Rows.checkerOrderSpec) :=
  OpenClaim.holds_of_wide 5 Try.f5 rfl rfl rfl rfl rfl rfl rfl ⟨rfl, rfl, rfl, rfl, rfl⟩ rfl rfl rfl rfl rfl (by kernel_rfl) Try.func5 (by kernel_rfl)
    (of_decide_eq_true (by kernel_rfl)) (by unfold Func.isWrapper; first | (rw [if_pos (by decide +kernel)]; kernel_rfl) | (rw [if_neg (by decide +kernel)]; exact ⟨rfl, rfl⟩))
    (fun os started H enc _ => lifted os started H enc)
/-- THE STATEMENT -/
theorem proved : Rows.CheckerOrderSaid :=
  over
#print axioms proved
end Go.Proofs.Ytackdnelcpbfjaa.checkerOrder
