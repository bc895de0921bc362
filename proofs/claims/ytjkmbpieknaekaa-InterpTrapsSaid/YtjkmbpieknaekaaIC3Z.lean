/-
  The Go function fullinglaw6.InterpTraps returns true whatever its three arguments are, and leaves all memory that was there as it was. Conditions: none.
-/
import Derived.OpenShut
import Derived.ProofKit
import Derived.Test.YtjkmbpieknaekaaIC3C
import Derived.WalkKit
set_option linter.unusedSimpArgs false
set_option linter.unusedVariables false
set_option linter.unusedSectionVars false
set_option linter.defProp false
namespace Go.Proofs.Ytjkmbpieknaekaa.interpTraps
set_option maxRecDepth 20000
set_option linter.unusedVariables false
set_option linter.unusedSimpArgs false
set_option linter.unusedSectionVars false
set_option linter.defProp false
set_option maxRecDepth 20000
open Go Go.Ab
namespace tyInterpTraps
def tyF := And.intro @tq2 (And.intro @tq3 (And.intro @tq9 (And.intro @tq22 (And.intro @tq23 (And.intro @tq25 (And.intro @tq30 (And.intro @tq35 (And.intro @tq36 (And.intro @tq37 (And.intro @tq39 (And.intro @tq41 (And.intro @tq46 (And.intro @tq52 (And.intro @tq56 (And.intro @tq61 (And.intro @ag2 (@ag4)))))))))))))))))
end tyInterpTraps
open tyInterpTraps Go.ChangeShapes Go.WideShapes Go.ChangeAt Go.RowKit
theorem own : ownKnob Try.prog.godebug = none := by kernel_rfl
noncomputable def code9 : { c : SC // slim 113 (Try.f9.body.getD .skip) = c } := by
  refine ⟨?_, ?_⟩
  rotate_left
  · simp only [Try.f9, Option.getD_some, slim, slimR, slimL, slimD, slimG, Nat.blt, Nat.ble]
    rfl
open tr (levT levT_ok)
theorem bs2 (H : Hp) (a b : Int) : buildSliceA Try.prog H 52 2 [(0, .int .i64 a), (1, .int .i64 b)] = some (.sl H.next 0 2 1, H.alloc (.cells [.int .i64 a, .int .i64 b] 0 true)) := by kernel_rfl
/-- A call of Run, all its arguments in memory. -/
theorem kRunT (p : Pr) (nm : Nm) (al : List Int) (fuel : Int) (hx : RunA.ok ⟨p, nm, al, fuel⟩) {H : Hp} {bl : List (Nat × List AV)} {r m z q imm : Nat} {tip : Bool} (hb : BlkIn (fun _ => True) H bl) (hr : rdB bl 20 (.agg [.nilS, .sl r 0 m z]) = some (.agg p.cells)) (hq : q < H.next) (hg : H.get q = some (.cells (al.map fun n => .int .i64 n) imm tip)) (hi : imm ≤ al.length) : WpCall Try.prog (cfgN pls levT) 21 [.agg [.nilS, .sl r 0 m z], .str nm, .sl q 0 al.length 1, .int .i64 fuel] H fun v H' => v = ocV (runG ⟨p, nm, al, fuel⟩) ∧ Icy (fun _ => True) H H' :=
  enM_wp (x := (⟨p, nm, al, fuel⟩ : RunA)) (enc := runE) (out := fun x => ocV (runG x)) runE_inj (fun _ => rfl) rfl hx (n := 20) (by omega) (.cons (rdB_ok hb 20 _ _ hr) (.cons (.str _) (.cons (.up (.intsM (n := 0) al trivial hq hg hi) (by omega)) (.cons (.int _ _) .nil)))) (fun y _ e => by
    simp only [runE, intRows, List.map_cons, List.map_nil, wk_sl', List.cons.injEq, reduceCtorEq, false_and, and_false] at e)
set_option maxRecDepth 100000 in
set_option maxHeartbeats 16000000 in
theorem law (n a b : Int) : WpCall Try.prog (cfgN pls levT) 9 [.int .i64 n, .int .i64 a, .int .i64 b] H0 fun v _ => v = .bool true := by
  have hw : Plain (cfgN pls levT) 9 := plainN (fun _ => rfl) rfl
  have hk := pickG_range (n := n) (m := 9) (by omega) (by omega)
  have hc := pickG_range (n := a) (m := 1000001) (by omega) (by omega)
  have hm := pickG_range (n := b) (m := 12) (by omega) (by omega)
  have k1 := fun H => pick_en (l := levT) (fun _ => rfl) n 9 (by decide) H
  have k2 := fun H => pick_en (l := levT) (fun _ => rfl) a 1000001 (by decide) H
  have k3 := fun H => pick_en (l := levT) (fun _ => rfl) b 12 (by decide) H
  generalize pickG n 9 = k at *
  generalize pickG a 1000001 = c at *
  generalize pickG b 12 = m at *
  have hrun := tr.runT hk hm hc.1 (by omega)
  have hok := tr.pc_run hc.1 (by omega) k m
  have kr := fun (H : Hp) (bl : List (Nat × List AV)) (r q imm : Nat) (tip : Bool) hb hr hq hg hi => kRunT (tr.pc c) [102] [k, m] 20 hok (H := H) (bl := bl) (r := r) (m := 1) (z := 9) (q := q) (imm := imm) (tip := tip) hb hr hq hg hi
  rw [hrun] at kr
  clear hrun hok
  refine WpCall.slim (M := 113) (rs := [.tmp 6]) (hw.call _) hw.ice hw.froz Try.func9 rfl rfl code9.2 rfl ?_; dsimp only [code9, envOf, Nat.reduceAdd]
  repeat' (first
     | (apply Rx.nl ?_; clear hK K) | apply Rx.o ?_ | apply Rx.on ?_ | (apply Rx.call ?_; first | refine Rx.k (k1 _) ?_ | refine Rx.k (k2 _) ?_ | refine Rx.k (k3 _) ?_) | apply Rx.gu ?_ | (apply Rx.gd (fun hg hgp => ?_) (fun hg hgp => ?_) <;> try (cases hg; done)) | (apply Rx.cd (fun hb hbp => ?_) (fun hb hbp => ?_) <;> try (cases hb; done)) | apply Wp.seq ?_ | (apply Wp.ops' fun K hK => ?_) | apply Rx.sk ?_ | apply Rx.rt ?_)
  refine WpL.call rfl eVk eAk ?_; simp only [List.cons_append, List.nil_append, List.append_nil]
  refine WpCall.mono ?_ (WpCall.left tr.parse_left)
  rintro _ HP ⟨rfl, hnx, hbs⟩
  simp only [tr.rs, List.map_cons, List.map_nil, List.cons.injEq, and_true] at hbs
  obtain ⟨g186, g13, g16, g162, g47, g160, g86, g94, g151⟩ := hbs
  dsimp only [setO]
  have hv0 : Ab.extract tr.vp 0 = some (.agg [.nilS, .sl 186 0 1 9]) := rfl
  have hv1 : Ab.extract tr.vp 1 = some (.agg [.int .i64 0, .int .i64 0]) := rfl
  simp only [tr.b186, tr.b13, tr.b16, tr.b162, tr.b47, tr.b160, tr.b86, tr.b94, tr.b151] at g186 g13 g16 g162 g47 g160 g86 g94 g151
  have e186 : (186 == HP.next) = false := by rw [hnx]; rfl
  have d186 : (186 == HP.next + 1) = false := by rw [hnx]; rfl
  have e162 : (162 == HP.next) = false := by rw [hnx]; rfl
  have d162 : (162 == HP.next + 1) = false := by rw [hnx]; rfl
  have e160 : (160 == HP.next) = false := by rw [hnx]; rfl
  have d160 : (160 == HP.next + 1) = false := by rw [hnx]; rfl
  have e94 : (94 == HP.next) = false := by rw [hnx]; rfl
  have d94 : (94 == HP.next + 1) = false := by rw [hnx]; rfl
  have f94 : (HP.next == 94) = false := by rw [hnx]; rfl
  have h94 : (HP.next + 1 == 94) = false := by rw [hnx]; rfl
  have i1 : indexAddrA Try.prog 23 (.sl 186 0 1 9) (.int .i64 0) = some (.ptr 186 0) := by kernel_rfl
  have i2 : indexAddrA Try.prog 36 (.sl 162 0 1 17) (.int .i64 0) = some (.ptr 162 0) := by kernel_rfl
  have i3 : indexAddrA Try.prog 36 (.sl 160 0 3 17) (.int .i64 0) = some (.ptr 160 0) := by kernel_rfl
  have i4 : indexAddrA Try.prog 36 (.sl 94 0 1 17) (.int .i64 0) = some (.ptr 94 0) := by kernel_rfl
  have hn1 : 187 ≤ HP.next := Nat.le_of_eq hnx.symm
  have hn2 : HP.next ≤ 187 := Nat.le_of_eq hnx
  clear hnx
  have gh0 := @bs2
  repeat' (first
     | (apply Rx.nl ?_; clear hK K) | apply Ry.o ?_ | apply Ry.on ?_ | apply Ry.gu ?_ | (apply Ry.gd (fun hg hgp => ?_) (fun hg hgp => ?_) <;> try (cases hg; done)) | (apply Ry.cd (fun hb hbp => ?_) (fun hb hbp => ?_) <;> try (cases hb; done)) | apply Wp.seq ?_ | (apply Wp.ops' fun K hK => ?_) | apply Rx.sk ?_ | apply Rx.rt ?_)
  refine WpL.call rfl eVk eAk ?_; simp only [List.cons_append, List.nil_append, List.append_nil]
  generalize hH2 : Hp.alloc _ (HB.cells [AV.int .i64 k, AV.int .i64 m] 0 true) = H2
  have hlt : HP.next + 2 < H2.next := by rw [← hH2]; exact Nat.lt_succ_self _
  have o2 : ∀ r, r < 187 → r ≠ 94 → H2.get r = HP.get r := fun r h1 h2 => by
    rw [← hH2]; simp only [Hp.get_alloc, Hp.get_set, Hp.next_alloc, Hp.next_set]
    rw [if_neg (by omega), if_neg h2, if_neg (by omega), if_neg (by omega), if_neg (by omega), if_neg (by omega)]
  have hq : H2.get (HP.next + 2) = some (.cells (([k, m] : List Int).map fun n => .int .i64 n) 0 true) := by rw [← hH2, Hp.get_alloc, if_pos (by simp only [Hp.next_alloc, Hp.next_set])]; rfl
  have h94' : H2.get 94 = some (.cells (tr.b94c c) 0 true) := by
    rw [← hH2]; simp only [Hp.get_alloc, Hp.get_set, Hp.next_alloc, Hp.next_set]
    rw [if_neg (by omega), if_pos trivial]; rfl
  have hb : BlkIn (fun _ => True) H2 (tr.bl c) := .cons trivial (by omega) (by rw [o2 186 (by omega) (by omega)]; exact g186) (.cons trivial (by omega) (by rw [o2 13 (by omega) (by omega)]; exact g13) (.cons trivial (by omega) (by rw [o2 16 (by omega) (by omega)]; exact g16) (.cons trivial (by omega) (by rw [o2 162 (by omega) (by omega)]; exact g162) (.cons trivial (by omega) (by rw [o2 47 (by omega) (by omega)]; exact g47) (.cons trivial (by omega) (by rw [o2 160 (by omega) (by omega)]; exact g160) (.cons trivial (by omega) (by rw [o2 86 (by omega) (by omega)]; exact g86) (.cons trivial (by omega) h94' (.cons trivial (by omega) (by rw [o2 151 (by omega) (by omega)]; exact g151) .nil))))))))
  refine WpCall.mono ?_ (kr H2 (tr.bl c) 186 (HP.next + 2) 0 true hb (tr.read c) hlt hq (Nat.zero_le _))
  clear kr hb hq h94' o2 hH2 g186 g13 g16 g162 g47 g160 g86 g94 g151 e186 e162 e160 e94 d186 d162 d160 d94 f94 h94 i1 i2 i3 i4 hlt hn1 hn2 k1 k2 k3 hv0 hv1
  rintro _ H3 ⟨rfl, _⟩
  have hwc : IntKind.wrap .i64 (16 + c) = 16 + c := i64_id (by omega) (by omega)
  have hlen : ∀ n : Int, 0 ≤ n → (((tr.nums n.toNat).map fun n => [AV.int .i64 n]).length : Int) = n := fun n h => by simp [tr.nums]; omega
  have hlk := hlen k hk.1
  have hlm := hlen m hm.1
  clear hlen
  by_cases hmk : m < k
  · rw [if_pos hmk]
    simp only [ocV, intRows]
    generalize List.map (fun n => [AV.int IntKind.i64 n]) (tr.nums m.toNat) = ol at *
    dsimp only [setO]
    repeat' (first
       | (apply Rx.nl ?_; clear hK K) | apply Ry.o ?_ | apply Ry.on ?_ | (apply Ry.call ?_; first | refine Rx.k (kEx6 (l6 := [enPick, tr.enScan]) _) ?_) | apply Ry.gu ?_ | (apply Ry.gd (fun hg hgp => ?_) (fun hg hgp => ?_) <;> try (cases hg; done)) | (apply Ry.cd (fun hb hbp => ?_) (fun hb hbp => ?_) <;> try (cases hb; done)) | apply Wp.seq ?_ | (apply Wp.ops' fun K hK => ?_) | apply Rx.sk ?_ | apply Rx.rt ?_)
    all_goals (refine ⟨eI, _, eR, ?_⟩; try simp only [oneOr])
  · rw [if_neg hmk]
    simp only [ocV, intRows]
    generalize List.map (fun n => [AV.int IntKind.i64 n]) (tr.nums k.toNat) = ol at *
    dsimp only [setO]
    repeat' (first
       | (apply Rx.nl ?_; clear hK K) | apply Ry.o ?_ | apply Ry.on ?_ | (apply Ry.call ?_; first | refine Rx.k (kEx6 (l6 := [enPick, tr.enScan]) _) ?_) | apply Ry.gu ?_ | (apply Ry.gd (fun hg hgp => ?_) (fun hg hgp => ?_) <;> try (cases hg; done)) | (apply Ry.cd (fun hb hbp => ?_) (fun hb hbp => ?_) <;> try (cases hb; done)) | apply Wp.seq ?_ | (apply Wp.ops' fun K hK => ?_) | apply Rx.sk ?_ | apply Rx.rt ?_)
    all_goals (refine ⟨eI, _, eR, ?_⟩; try simp only [oneOr])
theorem con (n a b : Int) : Con Try.prog (fun _ => 0) 9 [.int .i64 n, .int .i64 a, .int .i64 b] (.bool true) :=
  Con.lev fit (pls := pls) (levT_ok _) (.cons (.int _ _) (.cons (.int _ _) (.cons (.int _ _) .nil))) (.bool _) (law n a b)
theorem walk (a0 : Int) (a1 : Int) (a2 : Int) (w0 : (Lit.int .i64 a0).wf = true) (w1 : (Lit.int .i64 a1).wf = true) (w2 : (Lit.int .i64 a2).wf = true) (w : World) :
    Calls Try.prog 9 #[.int .i64 a0, .int .i64 a1, .int .i64 a2] w fun e w' => e = .returned (.bool true) ∧ Below w.heap.size w w' :=
  Con.walk (ρ := fun _ => 0) (F := fun _ _ => none) (con a0 a1 a2) (fun _ _ _ h => by simp at h) (VRs.cons (.int .i64 a0) (VRs.cons (.int .i64 a1) (VRs.cons (.int .i64 a2) (VRs.nil _))))
set_option maxRecDepth 100000 in
theorem lifted (os : Os) (started : os.Started) (H : Type) (enc : TypeId × Value → H) :
    ReturnsInHanded {} Try.checked os 9 .any (Rows.interpTrapsSpec.pre6 enc Try.prog Try.f9 Rows.interpTrapsRow.domain false) (Rows.interpTrapsSpec.post enc Try.prog Try.f9 false true false false) := by
  refine returnsInHanded_of_change (C := Try.checked) own started (by kernel_rfl) Try.func9
    (ChangeSpec.witness6 (enc := enc) (C := Try.checked) false ⟨#[], #[.int .i64 0, .int .i64 0, .int .i64 0], []⟩ 8 (by kernel_rfl) (by kernel_rfl) (by kernel_rfl) (by kernel_rfl)) ?_
  intro W base args ds gs before hval0 hW hcnd _
  have hval : ∀ (j : Nat) t v, Try.f9.params[j]? = some t → args[j]? = some v → Value.okWide Try.prog W .any base t v := hval0
  have hW' := hW
  obtain ⟨p, q, hA0, hV, rfl, hfz, hnd⟩ := hW
  have hA : DataW.TrodAll enc Try.prog W 0 (fun _ => true) true Try.f9.params.toList args.toList ds p := hA0
  rw [Try.params9] at hA hval
  obtain ⟨v0, vs0, d0, ds0, p0, q0, hargs, rfl, rfl, h0, r0⟩ := trodAll_cons hA
  obtain ⟨v1, vs1, d1, ds1, p1, q1, rfl, rfl, rfl, h1, r1⟩ := trodAll_cons r0
  obtain ⟨v2, vs2, d2, ds2, p2, q2, rfl, rfl, rfl, h2, r2⟩ := trodAll_cons r1
  obtain ⟨rfl, rfl, rfl⟩ := trodAll_nil r2
  obtain rfl : args = #[v0, v1, v2] := by cases args; simp_all
  obtain ⟨rfl, rfl⟩ := trodVars_none hV
  obtain ⟨a0, rfl, rfl, rfl, w0⟩ := open_int Try.underlying3 (hval 0 3 v0 rfl rfl) h0
  obtain ⟨a1, rfl, rfl, rfl, w1⟩ := open_int Try.underlying3 (hval 1 3 v1 rfl rfl) h1
  obtain ⟨a2, rfl, rfl, rfl, w2⟩ := open_int Try.underlying3 (hval 2 3 v2 rfl rfl) h2
  clear hA0 hval0
  simp only [List.append_nil] at hW'
  refine (walk a0 a1 a2 w0 w1 w2 W).mono fun e W' ⟨he, hg⟩ => ?_
  subst he
  exact ⟨_, rfl, post_of_below (pa := []) (pv := []) hW' (fun _ _ _ => (trodAll_cons_mk (shut_bool Try.underlying4 _) trodAll_mk0)) (fun sp _ => (trodAll_cons_mk (shut_int Try.underlying3 w0) (trodAll_cons_mk (shut_int Try.underlying3 w1) (trodAll_cons_mk (shut_int Try.underlying3 w2) trodAll_mk0)))) (fun _ _ => rfl) rfl
    hg (ok_one (by kernel_rfl) rfl (okWide_bool_mk Try.underlying4 _))⟩
theorem over : Rows.interpTrapsRow.holds Try.pinned (OpenSpec.ofChange Rows.interpTrapsSpec) :=
  OpenClaim.holds_of_wide 9 Try.f9 rfl rfl rfl rfl rfl rfl rfl ⟨rfl, rfl, rfl, rfl, rfl⟩ rfl rfl rfl rfl rfl (by kernel_rfl) Try.func9 (by kernel_rfl)
    (of_decide_eq_true (by kernel_rfl)) (by unfold Func.isWrapper; first | (rw [if_pos (by decide +kernel)]; kernel_rfl) | (rw [if_neg (by decide +kernel)]; exact ⟨rfl, rfl⟩))
    (fun os started H enc _ => lifted os started H enc)
/-- ████ THE STATEMENT ████ -/
theorem proved : Rows.InterpTrapsSaid :=
  over
#print axioms proved
end Go.Proofs.Ytjkmbpieknaekaa.interpTraps
