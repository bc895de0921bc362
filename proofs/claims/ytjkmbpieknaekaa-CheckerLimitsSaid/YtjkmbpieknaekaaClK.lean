/- Parts: P4a. -/
import Derived.Test.YtjkmbpieknaekaaClJ
set_option linter.unusedSimpArgs false
set_option linter.unusedVariables false
set_option linter.unusedSectionVars false
set_option linter.defProp false
namespace Go.Proofs.Ytjkmbpieknaekaa
set_option maxRecDepth 20000
set_option linter.unusedSimpArgs false
set_option linter.unusedVariables false
set_option linter.unusedSectionVars false
set_option linter.defProp false
open Go Go.Ab
namespace tyP4a
def tyF := And.intro @sz2 (And.intro @pt2 (And.intro @bt2 (And.intro @zr2 (And.intro @sz3 (And.intro @pt3 (And.intro @bt3 (And.intro @zr3 (And.intro @sz9 (And.intro @pt9 (And.intro @bt9 (And.intro @zr9 (And.intro @ln9 (And.intro @ix9 (And.intro @sz37 (And.intro @pt37 (And.intro @bt37 (And.intro @zr37 (And.intro @ix37l (And.intro @ix37s (And.intro @ln37l (And.intro @ln37s (And.intro @ln37n (And.intro @sz39 (And.intro @pt39 (And.intro @bt39 (And.intro @zr39 (And.intro @fa39_0p (And.intro @fa39_0c (And.intro @fd39_0 (And.intro @fa39_1p (And.intro @fa39_1c (And.intro @fd39_1 (And.intro @fa39_2p (And.intro @fa39_2c (And.intro @fd39_2 (And.intro @fa39_3p (And.intro @fa39_3c (And.intro @fd39_3 (And.intro @fa39_4p (And.intro @fa39_4c (And.intro @fd39_4 (And.intro @sz4 (And.intro @pt4 (And.intro @bt4 (And.intro @zr4 (And.intro @sz137 (And.intro @pt137 (And.intro @bt137 (And.intro @zr137 (And.intro @fa137_0p (And.intro @fa137_0c (And.intro @fd137_0 (And.intro @fa137_1p (And.intro @fa137_1c (And.intro @fd137_1 (And.intro @fa137_2p (And.intro @fa137_2c (And.intro @fd137_2 (And.intro @fa137_3p (And.intro @fa137_3c (And.intro @fd137_3 (And.intro @fa137_4p (And.intro @fa137_4c (And.intro @fd137_4 (And.intro @fa137_5p (And.intro @fa137_5c (And.intro @fd137_5 (And.intro @fa137_6p (And.intro @fa137_6c (And.intro @fd137_6 (And.intro @fa137_7p (And.intro @fa137_7c (@fd137_7)))))))))))))))))))))))))))))))))))))))))))))))))))))))))))))))))))))))))
end tyP4a
open tyP4a
noncomputable def code90 : { c : SC // slim 27 (Try.f90.body.getD .skip) = c } := by
  refine ⟨?_, ?_⟩
  rotate_left
  · simp only [Try.f90, Option.getD_some, slim, slimR, slimL, slimD, slimG, Nat.blt, Nat.ble]
    rfl
noncomputable def code60 : { c : SC // slim 87 (Try.f60.body.getD .skip) = c } := by
  refine ⟨?_, ?_⟩
  rotate_left
  · simp only [Try.f60, Option.getD_some, slim, slimR, slimL, slimD, slimG, Nat.blt, Nat.ble]
    rfl
noncomputable def code92 : { c : SC // slim 10 (Try.f92.body.getD .skip) = c } := by
  refine ⟨?_, ?_⟩
  rotate_left
  · simp only [Try.f92, Option.getD_some, slim, slimR, slimL, slimD, slimG, Nat.blt, Nat.ble]
    rfl
theorem lexers0 {l : List En} (h : ∀ f, f ∈ [120, 115, 113, 104, 116, 114, 105, 88] → (∀ args, lookN l f args = none) ∧ iceN l f = false) : Lexers (cfgN pls l) where
  let_ := plainN (h _ (by simp)).1 (h _ (by simp)).2
  dig := plainN (h _ (by simp)).1 (h _ (by simp)).2
  word := plainN (h _ (by simp)).1 (h _ (by simp)).2
  space := plainN (h _ (by simp)).1 (h _ (by simp)).2
  num := plainN (h _ (by simp)).1 (h _ (by simp)).2
  sym := plainN (h _ (by simp)).1 (h _ (by simp)).2
  first := plainN (h _ (by simp)).1 (h _ (by simp)).2
  scan := plainN (h _ (by simp)).1 (h _ (by simp)).2
  plan _ := by first | rfl | kernel_rfl
  keep := rfl
theorem lex0 : Lexers (cfgN pls []) := lexers0 fun f _ => ⟨fun _ => rfl, rfl⟩
theorem pvalid_con (ρ : Nat → Int) (s : List UInt8) (hs : s.length < 2 ^ 60) : Con Try.prog ρ 57 [.str s] (.bool (nameB s)) :=
  Con.lev fit (pls := pls) (l := []) trivial (.cons (.str _) .nil) (.bool _) (WpCall.mono (fun v H h => h.1) (validName_wp lex0 (plain0 _) s hs H0))
theorem pop_con (ρ : Nat → Int) (x : Int × Nat) : Con Try.prog ρ 89 [.int .i64 x.1, .int .i64 x.2] (.bool (opB x.1 x.2)) :=
  Con.lev fit (pls := pls) (l := []) trivial (.cons (.int _ _) (.cons (.int _ _) .nil)) (.bool _) (WpCall.mono (fun v H h => h.1) (validOp_wp (plain0 _) x.1 x.2 H0))
theorem pzero_con (ρ : Nat → Int) (x : Ex) : Con Try.prog ρ 106 [.agg x.cells] (.bool (zeroE x)) :=
  Con.lev fit (pls := pls) (l := []) trivial (.cons (.agg x.pure) .nil) (.bool _) (WpCall.mono (fun v H h => h.1) (isZero_wp (plain0 _) x H0))
theorem pnames_con (ρ : Nat → Int) (l : List (List UInt8)) (hl : strsSz l < 2 ^ 60) : Con Try.prog ρ 58 [lstS l] (.bool (l.all nameB)) :=
  Con.lev fit (pls := pls) (l := []) trivial (.cons (strs_pure _) .nil) (.bool _) (WpCall.mono (fun v H h => h.1) (validNames_wp lex0 (plain0 _) (plain0 _) l hl H0))
theorem pfield_con (ρ : Nat → Int) (s : List UInt8) (w : Bool) (hs : s.length < 2 ^ 60) : Con Try.prog ρ 91 [.str s, .bool w] (.bool (nameF s w)) :=
  Con.lev fit (pls := pls) (l := []) trivial (.cons (.str _) (.cons (.bool _) .nil)) (.bool _) (WpCall.mono (fun v H h => h.1) (nameField_wp lex0 (plain0 _) (plain0 _) s w hs H0))
/-- Which fields a kind of statement uses. -/
def fldB (k : Int) : List Bool :=
  if k = 1 then [true, false, false, false, true, false, false, false]
  else if k = 2 then [true, false, false, true, true, false, false, false]
  else if k = 3 then [false, false, false, false, true, false, true, true]
  else if k = 4 then [false, false, false, false, true, false, true, false]
  else if k = 5 then [false, false, false, false, true, false, false, false]
  else if k = 6 then [true, true, false, false, false, true, false, false]
  else if k = 7 then [false, false, true, false, false, false, false, false]
  else [false, false, false, false, false, false, false, false]
def fldOk (k : Int) : Bool := decide (1 ≤ k) && decide (k ≤ 7)
def fldA (k : Int) : AV := .tup [.agg ((fldB k).map .bool), .bool (fldOk k)]
theorem agg8 (a b c d e f g h : AV) : aggA 8 [a, b, c, d, e, f, g, h] = some (.agg [a, b, c, d, e, f, g, h]) := rfl
set_option maxHeartbeats 4000000 in
theorem fields_con (ρ : Nat → Int) (k : Int) : Con Try.prog ρ 90 [.int .i64 k] (fldA k) := Con.lev fit (pls := pls) (l := []) trivial (.cons (.int _ _) .nil) (.tup (.cons (.agg fun v hv => by
    obtain ⟨b, _, rfl⟩ := List.mem_map.1 hv
    exact .bool b) (.cons (.bool _) .nil))) (by
  have hw := plain0 90
  have b1 : buildA Try.prog 137 [(0, .bool true), (4, .bool true)] = some (.agg [.bool true, .bool false, .bool false, .bool false, .bool true, .bool false, .bool false, .bool false]) := by kernel_rfl
  have b2 : buildA Try.prog 137 [(0, .bool true), (3, .bool true), (4, .bool true)] = some (.agg [.bool true, .bool false, .bool false, .bool true, .bool true, .bool false, .bool false, .bool false]) := by kernel_rfl
  have b3 : buildA Try.prog 137 [(4, .bool true), (6, .bool true), (7, .bool true)] = some (.agg [.bool false, .bool false, .bool false, .bool false, .bool true, .bool false, .bool true, .bool true]) := by kernel_rfl
  have b4 : buildA Try.prog 137 [(4, .bool true), (6, .bool true)] = some (.agg [.bool false, .bool false, .bool false, .bool false, .bool true, .bool false, .bool true, .bool false]) := by kernel_rfl
  have b5 : buildA Try.prog 137 [(4, .bool true)] = some (.agg [.bool false, .bool false, .bool false, .bool false, .bool true, .bool false, .bool false, .bool false]) := by kernel_rfl
  have b6 : buildA Try.prog 137 [(0, .bool true), (1, .bool true), (5, .bool true)] = some (.agg [.bool true, .bool true, .bool false, .bool false, .bool false, .bool true, .bool false, .bool false]) := by kernel_rfl
  have b7 : buildA Try.prog 137 [(2, .bool true)] = some (.agg [.bool false, .bool false, .bool true, .bool false, .bool false, .bool false, .bool false, .bool false]) := by kernel_rfl
  have b0 : buildA Try.prog 137 [] = some (.agg [.bool false, .bool false, .bool false, .bool false, .bool false, .bool false, .bool false, .bool false]) := by kernel_rfl
  refine WpCall.slim (M := 27) (rs := [.cell 2 137, .tmp 3]) (hw.call _) hw.ice hw.froz Try.func90 rfl rfl code90.2 rfl ?_; dsimp only [code90, envOf, Nat.reduceAdd]
  repeat' (first
     | (refine WpL.nil (hK _ _ ?_); clear hK K; try dsimp only [thenQ, blockQ]) | refine Rx.move (hk := ?_) | refine Rx.assign (hk := ?_) | refine Rx.bin (hk := ?_) | refine Rx.alloc (hk := ?_) | refine Rx.store (hk := ?_) | refine Rx.build (hk := ?_) | (refine Rx.cond (h1 := fun hb => ?_) (h2 := fun hb => ?_) <;> (try simp only [Bool.not_true, Bool.not_false, reduceCtorEq] at hb) <;> (try (cases hb; done)) <;> (try have hbp := hb) <;> (try simp only [decide_eq_true_eq, decide_eq_false_iff_not] at hbp)) | refine Wp.seq ?_ | (refine Wp.ops' fun K hK => ?_) | refine Wp.block ?_ | (refine Wp.skip ?_; try dsimp only [thenQ, blockQ]) | (refine Wp.ret ?_; try dsimp only [thenQ, blockQ]) | (refine Wp.exit ?_; try simp only [thenQ, blockQ, reduceIte]))
  all_goals
    refine ⟨by first | exact .inl rfl | exact .inr rfl | exact .inl trivial | exact .inr trivial, _, (by (try simp only [sB, sO, Nat.reduceBEq, Nat.reduceAdd, Nat.reduceLeDiff, tyF, resultsA, resultA, agg8, *]); first | done | with_reducible rfl), ?_⟩; try simp only [oneOr]
  all_goals
    first
    | (simp_all [fldA, fldB, fldOk]; done)
    | (have h0 : fldOk k = false := by
         simp only [fldOk, Bool.and_eq_false_iff, decide_eq_false_iff_not]; omega
       simp_all [fldA, fldB]; done))
theorem opB_eq (k : Int) (n : Nat) : opB k n = ((decide ((n : Int) = 2) && isBinB k) || (decide ((n : Int) = 1) && (decide (k = 20) || decide (k = 21)))) := by
  unfold opB isBinB
  by_cases h : k = 20 ∨ k = 21
  · rw [if_pos h]
    rcases h with rfl | rfl <;> simp
  · rw [if_neg h]
    have h1 : ¬ k = 20 := fun e => h (.inl e)
    have h2 : ¬ k = 21 := fun e => h (.inr e)
    simp only [h1, h2, decide_false, Bool.or_false, Bool.and_false]
    cases decide (4 ≤ k) <;> cases decide (k ≤ 18) <;> cases decide ((n : Int) = 2) <;> rfl
noncomputable def enPN : En := ⟨57, false, spP (fun s => s.length < 2 ^ 60) bsE fun s => .bool (nameB s)⟩
theorem enPN_ok (ρ : Nat → Int) : EnOk Try.prog ρ enPN := spP_ok fun x hx => pvalid_con ρ x hx
def opE (x : Int × Nat) : List AV := [.int .i64 x.1, .int .i64 x.2]
theorem opE_inj (x y : Int × Nat) (h : opE x = opE y) : x = y := by
  simp only [opE, List.cons.injEq, AV.int.injEq, and_true, true_and] at h
  exact Prod.ext h.1 (by omega)
noncomputable def enPO : En := ⟨89, false, spP (fun _ => True) opE fun x => .bool (opB x.1 x.2)⟩
theorem enPO_ok (ρ : Nat → Int) : EnOk Try.prog ρ enPO := spP_ok fun x _ => pop_con ρ x
noncomputable def enPZ : En := ⟨106, false, spP (fun _ => True) exE fun x => .bool (zeroE x)⟩
theorem enPZ_ok (ρ : Nat → Int) : EnOk Try.prog ρ enPZ := spP_ok fun x _ => pzero_con ρ x
set_option maxHeartbeats 8000000 in
/-- The visitor of expressions. -/
theorem wfeVisit {l : List En} (hv : ∀ ar, lookN l 57 ar = enPN.sp ar) (ho : ∀ ar, lookN l 89 ar = enPO.sp ar) (hp : (∀ ar, lookN l 60 ar = none) ∧ iceN l 60 = false) {base : Nat} {I : Hp → Prop} (hI : OfLow base I) :
    VisitE (cfgN pls l) base I 60 [] fun x _ => wfX x := by
  intro x d H hz hbase hi
  have hw : Plain (cfgN pls l) 60 := plainN hp.1 hp.2
  have kv : ∀ s : List UInt8, s.length < 2 ^ 60 → ∀ H, WpCall Try.prog (cfgN pls l) 57 [.str s] H fun v H' => v = .bool (nameB s) ∧ H' = H := fun s h1 H => WpCall.en (enc := bsE) (out := fun x => .bool (nameB x)) bsE_inj (x := s) (hv _) h1
  have ko : ∀ (k : Int) (n : Nat), ∀ H, WpCall Try.prog (cfgN pls l) 89 [.int .i64 k, .int .i64 n] H fun v H' => v = .bool (opB k n) ∧ H' = H := fun k n H => WpCall.en (enc := opE) (out := fun x => .bool (opB x.1 x.2)) opE_inj (x := (k, n)) (ho _) trivial
  have hsz := x.sz_eq
  refine WpCall.slim (M := 87) (rs := [.tmp 4]) (hw.call _) hw.ice hw.froz Try.func60 rfl rfl code60.2 rfl ?_; dsimp only [code60, envOf, Nat.reduceAdd]
  repeat' (first
     | (refine WpL.nil (hK _ _ ?_); clear hK K; try dsimp only [thenQ, blockQ]) | refine Rx.move (hk := ?_) | refine Rx.assign (hk := ?_) | refine Rx.load (hk := ?_) | refine Rx.bin (hk := ?_) | refine Rx.fieldAddr (hk := ?_) | refine Rx.len (hk := ?_) | refine Rx.pick (hk := ?_) | refine Rx.box (hk := ?_) | (refine Rx.call (hk := ?_); simp only [List.cons_append, List.nil_append, List.append_nil]; refine WpCall.mono ?_ (kv _ (by omega) _); rintro _ _ ⟨rfl, rfl⟩; try dsimp only [setO]) | (refine Rx.call (hk := ?_); simp only [List.cons_append, List.nil_append, List.append_nil]; refine WpCall.mono ?_ (ko _ _ _); rintro _ _ ⟨rfl, rfl⟩; try dsimp only [setO]) | (refine Rx.guardU (hk := ?_); dsimp only [setO]) | (refine Rx.guard (h1 := fun hg => ?_) (h2 := fun hg => ?_) <;> (try simp only [Bool.not_true, Bool.not_false, reduceCtorEq] at hg) <;> (try (cases hg; done)) <;> (try have hgp := hg) <;> (try simp only [decide_eq_true_eq, decide_eq_false_iff_not] at hgp) <;> (try dsimp only [setO])) | (refine Rx.cond (h1 := fun hb => ?_) (h2 := fun hb => ?_) <;> (try simp only [Bool.not_true, Bool.not_false, reduceCtorEq] at hb) <;> (try (cases hb; done)) <;> (try have hbp := hb) <;> (try simp only [decide_eq_true_eq, decide_eq_false_iff_not] at hbp)) | refine Wp.seq ?_ | (refine Wp.ops' fun K hK => ?_) | refine Wp.block ?_ | (refine Wp.skip ?_; try dsimp only [thenQ, blockQ]) | (refine Wp.ret ?_; try dsimp only [thenQ, blockQ])
     | (refine Wp.exit ?_; try simp only [thenQ, blockQ, reduceIte]))
  all_goals
    all_goals (refine ⟨by first | exact .inl rfl | exact .inr rfl | exact .inl trivial | exact .inr trivial, _, (by (try simp only [sB, Nat.reduceBEq, resultsA, resultA, *]); first | done | with_reducible rfl), ?_⟩; try simp only [oneOr])
    refine ⟨?_, (FrB.refl _ _).alloc _, hI _ _ hi ((Low.refl _ _).alloc hbase _)⟩
    rw [wfX]
    (try rw [opB_eq])
    (try simp only [Bool.not_eq_true', Bool.not_eq_false'] at *); simp only [*, decide_true, decide_false, Bool.false_or, Bool.or_false, Bool.true_or, Bool.or_true, Bool.false_and, Bool.and_false, Bool.true_and, Bool.and_true, Bool.not_true, Bool.not_false, if_true, if_false, Int.reduceEq]
end Go.Proofs.Ytjkmbpieknaekaa
