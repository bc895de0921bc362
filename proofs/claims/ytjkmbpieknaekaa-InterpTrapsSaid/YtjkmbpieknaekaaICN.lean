/- Parts: W4k, P4a. -/
import Derived.Test.YtjkmbpieknaekaaICM
set_option linter.unusedSimpArgs false
set_option linter.unusedVariables false
set_option linter.unusedSectionVars false
set_option linter.defProp false
namespace Go.Proofs.Ytjkmbpieknaekaa
set_option maxRecDepth 20000
set_option linter.unusedSimpArgs false
set_option linter.unusedVariables false
set_option linter.unusedSectionVars false
set_option linter.defProp false
set_option maxRecDepth 20000
open Go Go.Ab
namespace tyW4k
def tyF := And.intro @tq3 (And.intro @tq9 (And.intro @tq35 (And.intro @tq2 (And.intro @tq37 (@tq39)))))
end tyW4k
open tyW4k
noncomputable def code89 : { c : SC // slim 23 (Try.f89.body.getD .skip) = c } := by
  refine ⟨?_, ?_⟩
  rotate_left
  · simp only [Try.f89, Option.getD_some, slim, slimR, slimL, slimD, slimG, Nat.blt, Nat.ble]
    rfl
noncomputable def code106 : { c : SC // slim 27 (Try.f106.body.getD .skip) = c } := by
  refine ⟨?_, ?_⟩
  rotate_left
  · simp only [Try.f106, Option.getD_some, slim, slimR, slimL, slimD, slimG, Nat.blt, Nat.ble]
    rfl
noncomputable def code91 : { c : SC // slim 10 (Try.f91.body.getD .skip) = c } := by
  refine ⟨?_, ?_⟩
  rotate_left
  · simp only [Try.f91, Option.getD_some, slim, slimR, slimL, slimD, slimG, Nat.blt, Nat.ble]
    rfl
def opB (k kids : Int) : Bool := if k = 20 ∨ k = 21 then decide (kids = 1) else decide (4 ≤ k) && decide (k ≤ 18) && decide (kids = 2)
theorem validOp_wp {cfg : Cfg} (hw : Plain cfg 89) (k kids : Int) (H : Hp) :
    WpCall Try.prog cfg 89 [.int .i64 k, .int .i64 kids] H fun v H' => v = .bool (opB k kids) ∧ H' = H := by
  refine WpCall.slim (M := 23) (rs := [.tmp 4]) (hw.call _) hw.ice hw.froz Try.func89 rfl rfl code89.2 rfl ?_; dsimp only [code89, envOf, Nat.reduceAdd]
  repeat' (first
     | (apply Rx.nl ?_; clear hK K) | apply Rx.o ?_ | apply Rx.gu ?_ | (apply Rx.gd (fun hg hgp => ?_) (fun hg hgp => ?_) <;> try (cases hg; done)) | (apply Rx.cd (fun hb hbp => ?_) (fun hb hbp => ?_) <;> try (cases hb; done)) | apply Wp.seq ?_ | (apply Wp.ops' fun K hK => ?_) | apply Rx.sk ?_ | apply Rx.rt ?_)
  all_goals
    all_goals (refine ⟨eI, _, eR, ?_⟩; try simp only [oneOr])
  all_goals (refine ⟨?_, by first | rfl | trivial⟩; simp_all [opB] <;> omega)
set_option maxHeartbeats 4000000 in
theorem isZero_wp {cfg : Cfg} (hw : Plain cfg 106) (x : Ex) (H : Hp) :
    WpCall Try.prog cfg 106 [.agg x.cells] H fun v H' => v = .bool (zeroE x) ∧ FrB 0 H H' := by
  refine WpCall.slim (M := 27) (rs := [.tmp 2]) (hw.call _) hw.ice hw.froz Try.func106 rfl rfl code106.2 rfl ?_; dsimp only [code106, envOf, Nat.reduceAdd]
  repeat' (first
     | (apply Rx.nl ?_; clear hK K) | apply Rx.o ?_ | apply Rx.gu ?_ | (apply Rx.gd (fun hg hgp => ?_) (fun hg hgp => ?_) <;> try (cases hg; done)) | apply Wp.seq ?_ | (apply Wp.ops' fun K hK => ?_) | apply Rx.sk ?_ | apply Rx.rt ?_)
  all_goals
    all_goals (refine ⟨eI, _, eR, ?_⟩; try simp only [oneOr])
  all_goals (refine ⟨?_, (FrB.refl _ _).alloc _⟩; simp_all [zeroE])
def nameF (s : List UInt8) (want : Bool) : Bool := if want then nameB s else decide (s = [])
theorem nameField_wp {cfg : Cfg} (hx : Lexers cfg) (hv : Plain cfg 57) (hw : Plain cfg 91) (s : List UInt8) (want : Bool) (hs : s.length < 2 ^ 60) (H : Hp) :
    WpCall Try.prog cfg 91 [.str s, .bool want] H fun v H' => v = .bool (nameF s want) ∧ FrB 0 H H' := by
  cases want
  · refine WpCall.slim (M := 10) (rs := [.tmp 4]) (hw.call _) hw.ice hw.froz Try.func91 rfl rfl code91.2 rfl ?_; dsimp only [code91, envOf, Nat.reduceAdd]
    repeat' (first
       | (apply Rx.nl ?_; clear hK K) | apply Rx.o ?_ | (apply Rx.cd (fun hb hbp => ?_) (fun hb hbp => ?_) <;> try (cases hb; done)) | apply Wp.seq ?_ | (apply Wp.ops' fun K hK => ?_) | apply Rx.sk ?_ | apply Rx.rt ?_)
    all_goals (refine ⟨eI, _, eR, ?_⟩; try simp only [oneOr])
    exact ⟨by simp [nameF], FrB.refl _ _⟩
  · refine WpCall.slim (M := 10) (rs := [.tmp 4]) (hw.call _) hw.ice hw.froz Try.func91 rfl rfl code91.2 rfl ?_; dsimp only [code91, envOf, Nat.reduceAdd]
    repeat' (first
       | (apply Rx.nl ?_; clear hK K) | apply Rx.o ?_ | (apply Rx.cd (fun hb hbp => ?_) (fun hb hbp => ?_) <;> try (cases hb; done)) | apply Wp.seq ?_ | (apply Wp.ops' fun K hK => ?_) | apply Rx.sk ?_ | apply Rx.rt ?_)
    refine WpL.call rfl eVk eAk ?_; simp only [List.cons_append, List.nil_append, List.append_nil]
    refine WpCall.mono ?_ (validName_wp hx hv s hs H)
    rintro v H2 ⟨rfl, hf2⟩
    dsimp only [setO]
    repeat' (first
       | (apply Rx.nl ?_; clear hK K) | apply Rx.o ?_ | (apply Rx.cd (fun hb hbp => ?_) (fun hb hbp => ?_) <;> try (cases hb; done)) | apply Wp.seq ?_ | (apply Wp.ops' fun K hK => ?_) | apply Rx.sk ?_ | apply Rx.rt ?_)
    all_goals (refine ⟨eI, _, eR, ?_⟩; try simp only [oneOr])
    exact ⟨by simp [nameF], hf2⟩
theorem validNames_wp {cfg : Cfg} (hx : Lexers cfg) (hv : Plain cfg 57) (hw : Plain cfg 58) (l : List (List UInt8)) (hz : strsSz l < 2 ^ 60) (H : Hp) :
    WpCall Try.prog cfg 58 [lstS l] H fun v H' => v = .bool (l.all nameB) ∧ FrB 0 H H' := by
  have hl : l.length < 2 ^ 60 := by have := strsSz_len l; omega
  refine WpCall.slim (M := 15) (rs := [.tmp 2]) (hw.call _) hw.ice hw.froz Try.func58 rfl rfl code58.2 rfl ?_; dsimp only [code58, envOf, Nat.reduceAdd]
  repeat' (first
     | (apply Rx.nl ?_; clear hK K) | apply Rx.o ?_ | (apply Rx.cd (fun hb hbp => ?_) (fun hb hbp => ?_) <;> try (cases hb; done)) | apply Wp.seq ?_ | (apply Wp.ops' fun K hK => ?_) | apply Wp.block ?_ | apply Rx.sk ?_ | apply Rx.rt ?_ | apply Rx.xt ?_)
  refine Wp.loopN (fun i E H2 => l.all nameB = (l.drop i).all nameB ∧ E.at 5 = .lst (l.map fun s => [.str s]) ∧ E.at 6 = .int .i64 l.length ∧ E.at 7 = .int .i64 i ∧ FrB 0 H H2) l.length ?_ ?_
  · rintro i E H2 hi2 ⟨hc, h5, h6, h7, hf2⟩
    repeat' (first
       | (apply Rx.nl ?_; clear hK K) | apply Rx.o ?_ | (apply Rx.cd (fun hb hbp => ?_) (fun hb hbp => ?_) <;> try (cases hb; done)) | apply Wp.seq ?_ | (apply Wp.ops' fun K hK => ?_) | apply Wp.block ?_ | apply Rx.sk ?_ | apply Rx.rt ?_ | apply Rx.xt ?_)
    · have hlt : i < l.length := by simpa using hb
      have hgx : l[i]? = some l[i] := List.getElem?_eq_getElem hlt
      have hsm := strsSz_mem (List.getElem_mem hlt)
      have hdr : (l.drop i).all nameB = (nameB l[i] && (l.drop (i + 1)).all nameB) := by rw [List.drop_eq_getElem_cons hlt, List.all_cons]
      repeat' (first
         | (apply Rx.nl ?_; clear hK K) | apply Rx.o ?_ | (apply Rx.cd (fun hb hbp => ?_) (fun hb hbp => ?_) <;> try (cases hb; done)) | apply Wp.seq ?_ | (apply Wp.ops' fun K hK => ?_) | apply Wp.block ?_ | apply Rx.sk ?_ | apply Rx.rt ?_ | apply Rx.xt ?_)
      refine WpL.call rfl eVk eAk ?_; simp only [List.cons_append, List.nil_append, List.append_nil]
      refine WpCall.mono ?_ (validName_wp hx hv l[i] (by omega) H2)
      rintro v H3 ⟨rfl, hf3⟩
      dsimp only [setO]
      repeat' (first
         | (apply Rx.nl ?_; clear hK K) | apply Rx.o ?_ | (apply Rx.cd (fun hb hbp => ?_) (fun hb hbp => ?_) <;> try (cases hb; done)) | apply Wp.seq ?_ | (apply Wp.ops' fun K hK => ?_) | apply Wp.block ?_ | apply Rx.sk ?_ | apply Rx.rt ?_ | apply Rx.xt ?_)
      · all_goals (refine ⟨eI, _, eR, ?_⟩; try simp only [oneOr])
        exact ⟨by rw [hc, hdr]; simp_all, hf2.trans hf3⟩
      · refine ⟨hlt, by rw [hc, hdr]; simp_all, eE, eE, ?_, hf2.trans hf3⟩
        simp only [at_set, Nat.reduceBEq, cond_true, wrap_succ (show i < 2 ^ 62 by omega)]
    · all_goals (refine ⟨eI, _, eR, ?_⟩; try simp only [oneOr])
      have hie : i = l.length := by simp at hb; omega
      exact ⟨by rw [hc, hie]; simp, hf2⟩
  · exact ⟨by simp, eE, eE, eE, FrB.refl _ _⟩
end Go.Proofs.Ytjkmbpieknaekaa
namespace Go.Proofs.Ytjkmbpieknaekaa
set_option maxRecDepth 20000
set_option linter.unusedSimpArgs false
set_option linter.unusedVariables false
set_option linter.unusedSectionVars false
set_option linter.defProp false
set_option maxRecDepth 20000
open Go Go.Ab
namespace tyP4a
def tyF := And.intro @tq2 (And.intro @tq3 (And.intro @tq9 (And.intro @tq37 (And.intro @tq39 (And.intro @tq4 (@tq137))))))
end tyP4a
open tyP4a
noncomputable def code90 : { c : SC // slim 27 (Try.f90.body.getD .skip) = c } := by
  refine ⟨?_, ?_⟩
  rotate_left
  · simp only [Try.f90, Option.getD_some, slim, slimR, slimL, slimD, slimG, Nat.blt, Nat.ble]
    rfl
noncomputable def code60 : { c : SC // slim 87 (Try.f60.body.getD .skip) = c } := by
  refine ⟨?_, ?_⟩
  rotate_left
  · simp only [Try.f60, Option.getD_some, slim, slimR, slimL, slimD, slimG, Nat.blt, Nat.ble]
    rfl
noncomputable def code92 : { c : SC // slim 10 (Try.f92.body.getD .skip) = c } := by
  refine ⟨?_, ?_⟩
  rotate_left
  · simp only [Try.f92, Option.getD_some, slim, slimR, slimL, slimD, slimG, Nat.blt, Nat.ble]
    rfl
theorem lexers0 {l : List En} (h : ∀ f, f ∈ [120, 115, 113, 104, 116, 114, 105, 88] → (∀ args, lookN l f args = none) ∧ iceN l f = false) : Lexers (cfgN pls l) where
  let_ := plainN (h _ (by simp)).1 (h _ (by simp)).2
  dig := plainN (h _ (by simp)).1 (h _ (by simp)).2
  word := plainN (h _ (by simp)).1 (h _ (by simp)).2
  space := plainN (h _ (by simp)).1 (h _ (by simp)).2
  num := plainN (h _ (by simp)).1 (h _ (by simp)).2
  sym := plainN (h _ (by simp)).1 (h _ (by simp)).2
  first := plainN (h _ (by simp)).1 (h _ (by simp)).2
  scan := plainN (h _ (by simp)).1 (h _ (by simp)).2
  plan _ := by first | rfl | kernel_rfl
  keep := rfl
theorem lex0 : Lexers (cfgN pls []) := lexers0 fun f _ => ⟨fun _ => rfl, rfl⟩
theorem pvalid_con (ρ : Nat → Int) (s : List UInt8) (hs : s.length < 2 ^ 60) : Con Try.prog ρ 57 [.str s] (.bool (nameB s)) :=
  Con.lev fit (pls := pls) (l := []) trivial (.cons (.str _) .nil) (.bool _) (WpCall.mono (fun v H h => h.1) (validName_wp lex0 (plain0 _) s hs H0))
theorem pop_con (ρ : Nat → Int) (x : Int × Nat) : Con Try.prog ρ 89 [.int .i64 x.1, .int .i64 x.2] (.bool (opB x.1 x.2)) :=
  Con.lev fit (pls := pls) (l := []) trivial (.cons (.int _ _) (.cons (.int _ _) .nil)) (.bool _) (WpCall.mono (fun v H h => h.1) (validOp_wp (plain0 _) x.1 x.2 H0))
theorem pzero_con (ρ : Nat → Int) (x : Ex) : Con Try.prog ρ 106 [.agg x.cells] (.bool (zeroE x)) :=
  Con.lev fit (pls := pls) (l := []) trivial (.cons (.agg x.pure) .nil) (.bool _) (WpCall.mono (fun v H h => h.1) (isZero_wp (plain0 _) x H0))
theorem pnames_con (ρ : Nat → Int) (l : List (List UInt8)) (hl : strsSz l < 2 ^ 60) : Con Try.prog ρ 58 [lstS l] (.bool (l.all nameB)) :=
  Con.lev fit (pls := pls) (l := []) trivial (.cons (strs_pure _) .nil) (.bool _) (WpCall.mono (fun v H h => h.1) (validNames_wp lex0 (plain0 _) (plain0 _) l hl H0))
theorem pfield_con (ρ : Nat → Int) (s : List UInt8) (w : Bool) (hs : s.length < 2 ^ 60) : Con Try.prog ρ 91 [.str s, .bool w] (.bool (nameF s w)) :=
  Con.lev fit (pls := pls) (l := []) trivial (.cons (.str _) (.cons (.bool _) .nil)) (.bool _) (WpCall.mono (fun v H h => h.1) (nameField_wp lex0 (plain0 _) (plain0 _) s w hs H0))
/-- Which fields a kind of statement uses. -/
def fldB (k : Int) : List Bool :=
  if k = 1 then [true, false, false, false, true, false, false, false]
  else if k = 2 then [true, false, false, true, true, false, false, false]
  else if k = 3 then [false, false, false, false, true, false, true, true]
  else if k = 4 then [false, false, false, false, true, false, true, false]
  else if k = 5 then [false, false, false, false, true, false, false, false]
  else if k = 6 then [true, true, false, false, false, true, false, false]
  else if k = 7 then [false, false, true, false, false, false, false, false]
  else [false, false, false, false, false, false, false, false]
def fldOk (k : Int) : Bool := decide (1 ≤ k) && decide (k ≤ 7)
def fldA (k : Int) : AV := .tup [.agg ((fldB k).map .bool), .bool (fldOk k)]
theorem agg8 (a b c d e f g h : AV) : aggA 8 [a, b, c, d, e, f, g, h] = some (.agg [a, b, c, d, e, f, g, h]) := rfl
set_option maxHeartbeats 4000000 in
theorem fields_con (ρ : Nat → Int) (k : Int) : Con Try.prog ρ 90 [.int .i64 k] (fldA k) := Con.lev fit (pls := pls) (l := []) trivial (.cons (.int _ _) .nil) (.tup (.cons (.agg fun v hv => by
    obtain ⟨b, _, rfl⟩ := List.mem_map.1 hv
    exact .bool b) (.cons (.bool _) .nil))) (by
  have hw := plain0 90
  have b1 : buildA Try.prog 137 [(0, .bool true), (4, .bool true)] = some (.agg [.bool true, .bool false, .bool false, .bool false, .bool true, .bool false, .bool false, .bool false]) := by kernel_rfl
  have b2 : buildA Try.prog 137 [(0, .bool true), (3, .bool true), (4, .bool true)] = some (.agg [.bool true, .bool false, .bool false, .bool true, .bool true, .bool false, .bool false, .bool false]) := by kernel_rfl
  have b3 : buildA Try.prog 137 [(4, .bool true), (6, .bool true), (7, .bool true)] = some (.agg [.bool false, .bool false, .bool false, .bool false, .bool true, .bool false, .bool true, .bool true]) := by kernel_rfl
  have b4 : buildA Try.prog 137 [(4, .bool true), (6, .bool true)] = some (.agg [.bool false, .bool false, .bool false, .bool false, .bool true, .bool false, .bool true, .bool false]) := by kernel_rfl
  have b5 : buildA Try.prog 137 [(4, .bool true)] = some (.agg [.bool false, .bool false, .bool false, .bool false, .bool true, .bool false, .bool false, .bool false]) := by kernel_rfl
  have b6 : buildA Try.prog 137 [(0, .bool true), (1, .bool true), (5, .bool true)] = some (.agg [.bool true, .bool true, .bool false, .bool false, .bool false, .bool true, .bool false, .bool false]) := by kernel_rfl
  have b7 : buildA Try.prog 137 [(2, .bool true)] = some (.agg [.bool false, .bool false, .bool true, .bool false, .bool false, .bool false, .bool false, .bool false]) := by kernel_rfl
  have b0 : buildA Try.prog 137 [] = some (.agg [.bool false, .bool false, .bool false, .bool false, .bool false, .bool false, .bool false, .bool false]) := by kernel_rfl
  refine WpCall.slim (M := 27) (rs := [.cell 2 137, .tmp 3]) (hw.call _) hw.ice hw.froz Try.func90 rfl rfl code90.2 rfl ?_; dsimp only [code90, envOf, Nat.reduceAdd]
  repeat' (first
     | (apply Rx.nl ?_; clear hK K) | apply Rx.o ?_ | apply Rx.on ?_ | (apply Rx.cd (fun hb hbp => ?_) (fun hb hbp => ?_) <;> try (cases hb; done)) | apply Wp.seq ?_ | (apply Wp.ops' fun K hK => ?_) | apply Wp.block ?_ | apply Rx.sk ?_ | apply Rx.rt ?_)
  all_goals
    refine ⟨eI, _, (by (try simp only [sB, sO, Nat.reduceBEq, Nat.reduceAdd, Nat.reduceLeDiff, tyF, resultsA, resultA, agg8, *]); first | done | with_reducible rfl), ?_⟩; try simp only [oneOr]
  all_goals
    first
    | (simp_all [fldA, fldB, fldOk]; done)
    | (have h0 : fldOk k = false := by
         simp only [fldOk, Bool.and_eq_false_iff, decide_eq_false_iff_not]; omega
       simp_all [fldA, fldB]; done))
theorem opB_eq (k : Int) (n : Nat) : opB k n = ((decide ((n : Int) = 2) && isBinB k) || (decide ((n : Int) = 1) && (decide (k = 20) || decide (k = 21)))) := by
  unfold opB isBinB
  by_cases h : k = 20 ∨ k = 21
  · rw [if_pos h]
    rcases h with rfl | rfl <;> simp
  · rw [if_neg h]
    have h1 : ¬ k = 20 := fun e => h (.inl e)
    have h2 : ¬ k = 21 := fun e => h (.inr e)
    simp only [h1, h2, decide_false, Bool.or_false, Bool.and_false]
    cases decide (4 ≤ k) <;> cases decide (k ≤ 18) <;> cases decide ((n : Int) = 2) <;> rfl
noncomputable def enPN : En := ⟨57, false, spP (fun s => s.length < 2 ^ 60) bsE fun s => .bool (nameB s)⟩
theorem enPN_ok (ρ : Nat → Int) : EnOk Try.prog ρ enPN := spP_ok fun x hx => pvalid_con ρ x hx
def opE (x : Int × Nat) : List AV := [.int .i64 x.1, .int .i64 x.2]
theorem opE_inj (x y : Int × Nat) (h : opE x = opE y) : x = y := by
  simp only [opE, List.cons.injEq, AV.int.injEq, and_true, true_and] at h
  exact Prod.ext h.1 (by omega)
noncomputable def enPO : En := ⟨89, false, spP (fun _ => True) opE fun x => .bool (opB x.1 x.2)⟩
theorem enPO_ok (ρ : Nat → Int) : EnOk Try.prog ρ enPO := spP_ok fun x _ => pop_con ρ x
noncomputable def enPZ : En := ⟨106, false, spP (fun _ => True) exE fun x => .bool (zeroE x)⟩
theorem enPZ_ok (ρ : Nat → Int) : EnOk Try.prog ρ enPZ := spP_ok fun x _ => pzero_con ρ x
set_option maxHeartbeats 8000000 in
/-- The visitor of expressions. -/
theorem wfeVisit {l : List En} (hv : ∀ ar, lookN l 57 ar = enPN.sp ar) (ho : ∀ ar, lookN l 89 ar = enPO.sp ar) (hp : (∀ ar, lookN l 60 ar = none) ∧ iceN l 60 = false) {base : Nat} {I : Hp → Prop} (hI : OfLow base I) :
    VisitE (cfgN pls l) base I 60 [] fun x _ => wfX x := by
  intro x d H hz hbase hi
  have hw : Plain (cfgN pls l) 60 := plainN hp.1 hp.2
  have kv : ∀ s : List UInt8, s.length < 2 ^ 60 → ∀ H, WpCall Try.prog (cfgN pls l) 57 [.str s] H fun v H' => v = .bool (nameB s) ∧ H' = H := fun s h1 H => WpCall.en (enc := bsE) (out := fun x => .bool (nameB x)) bsE_inj (x := s) (hv _) h1
  have ko : ∀ (k : Int) (n : Nat), ∀ H, WpCall Try.prog (cfgN pls l) 89 [.int .i64 k, .int .i64 n] H fun v H' => v = .bool (opB k n) ∧ H' = H := fun k n H => WpCall.en (enc := opE) (out := fun x => .bool (opB x.1 x.2)) opE_inj (x := (k, n)) (ho _) trivial
  have hsz := x.sz_eq
  refine WpCall.slim (M := 87) (rs := [.tmp 4]) (hw.call _) hw.ice hw.froz Try.func60 rfl rfl code60.2 rfl ?_; dsimp only [code60, envOf, Nat.reduceAdd]
  repeat' (first
     | (apply Rx.nl ?_; clear hK K) | apply Rx.o ?_ | (apply Rx.call ?_; first | refine Rx.k (kv _ (by omega) _) ?_ | refine Rx.k (ko _ _ _) ?_) | apply Rx.gu ?_ | (apply Rx.gd (fun hg hgp => ?_) (fun hg hgp => ?_) <;> try (cases hg; done)) | (apply Rx.cd (fun hb hbp => ?_) (fun hb hbp => ?_) <;> try (cases hb; done)) | apply Wp.seq ?_ | (apply Wp.ops' fun K hK => ?_) | apply Wp.block ?_ | apply Rx.sk ?_ | apply Rx.rt ?_)
  all_goals
    all_goals (refine ⟨eI, _, eR, ?_⟩; try simp only [oneOr])
    refine ⟨?_, (FrB.refl _ _).alloc _, hI _ _ hi ((Low.refl _ _).alloc hbase _)⟩
    rw [wfX]
    (try rw [opB_eq])
    (try simp only [Bool.not_eq_true', Bool.not_eq_false'] at *); simp only [*, decide_true, decide_false, Bool.false_or, Bool.or_false, Bool.true_or, Bool.or_true, Bool.false_and, Bool.and_false, Bool.true_and, Bool.and_true, Bool.not_true, Bool.not_false, if_true, if_false, Int.reduceEq]
end Go.Proofs.Ytjkmbpieknaekaa
