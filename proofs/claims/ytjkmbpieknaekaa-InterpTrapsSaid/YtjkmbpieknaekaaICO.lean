/- Parts: P4b, P4c, P4d, P4h, SemT, SemV, RunK, SameO, GX, GSz, SemM, GRun, AbArg. -/
import Derived.Deep.Slices
import Derived.Test.YtjkmbpieknaekaaICN
import Derived.WideKeyArgs
import Derived.WideShapes
set_option linter.unusedSimpArgs false
set_option linter.unusedVariables false
set_option linter.unusedSectionVars false
set_option linter.defProp false
namespace Go.Proofs.Ytjkmbpieknaekaa
set_option maxRecDepth 20000
set_option linter.unusedSimpArgs false
set_option linter.unusedVariables false
set_option linter.unusedSectionVars false
set_option linter.defProp false
set_option maxRecDepth 20000
open Go Go.Ab
namespace tyP4b
def tyF := And.intro @tq2 (And.intro @tq3 (And.intro @tq4 (And.intro @tq9 (And.intro @tq36 (And.intro @tq37 (And.intro @tq39 (And.intro @tq46 (@tq137))))))))
end tyP4b
open tyP4b
noncomputable def code61 : { c : SC // slim 111 (Try.f61.body.getD .skip) = c } := by
  refine ⟨?_, ?_⟩
  rotate_left
  · simp only [Try.f61, Option.getD_some, slim, slimR, slimL, slimD, slimG, Nat.blt, Nat.ble]
    rfl
mutual
theorem walkE_wf : ∀ (x : Ex) (d : Int), walkE (fun x _ => wfX x) x d = wfE x
  | .mk k n s o ks, d => by rw [walkE, wfE, walkEs_wf ks, Bool.and_comm]
theorem walkEs_wf : ∀ (l : List Ex) (d : Int), walkEs (fun x _ => wfX x) l d = wfEs l
  | [], _ => rfl
  | x :: l, d => by rw [walkEs, wfEs, walkE_wf x, walkEs_wf l]
end
/-- The walk with that visitor. -/
theorem wfWalk {l : List En} (hv : ∀ ar, lookN l 57 ar = enPN.sp ar) (ho : ∀ ar, lookN l 89 ar = enPO.sp ar) (hp : (∀ ar, lookN l 60 ar = none) ∧ iceN l 60 = false) (hq : (∀ ar, lookN l 59 ar = none) ∧ iceN l 59 = false)
    (x : Ex) (hx : x.sz < 2 ^ 60) (H : Hp) : WpCall Try.prog (cfgN pls l) 59 [.agg x.cells, .int .i64 0, .clo 60 []] H fun v H' => v = .bool (wfE x) ∧ FrB 0 H H' := by
  have hI : OfLow 0 fun _ : Hp => True := fun _ _ _ _ => trivial
  refine WpCall.mono ?_ (walkExpr_wp (plainN hq.1 hq.2) hI (wfeVisit hv ho hp hI) (x.sz + 1) x (Nat.lt_succ_self _) 0 H hx (Nat.zero_le _) trivial)
  rintro v H' ⟨rfl, h2, _⟩
  exact ⟨by rw [walkE_wf], h2⟩
def fieldE (x : Ex) (w : Bool) : Bool := bif w then wfE x else zeroE x
noncomputable def levP1 : List En := [enPN, enPO, enPZ]
theorem levP1_ok (ρ : Nat → Int) : EnsOk Try.prog ρ levP1 := ⟨enPN_ok ρ, enPO_ok ρ, enPZ_ok ρ, trivial⟩
theorem exprField_con (ρ : Nat → Int) (x : Ex) (w : Bool) (hx : x.sz < 2 ^ 60) : Con Try.prog ρ 92 [.agg x.cells, .bool w] (.bool (fieldE x w)) := Con.lev fit (pls := pls) (levP1_ok ρ) (.cons (.agg x.pure) (.cons (.bool _) .nil)) (.bool _) (by
  have hw : Plain (cfgN pls levP1) 92 := plainN (fun _ => rfl) rfl
  have kz : ∀ y : Ex, ∀ H, WpCall Try.prog (cfgN pls levP1) 106 [.agg y.cells] H fun v H' => v = .bool (zeroE y) ∧ H' = H := fun y H => WpCall.en (enc := exE) (out := fun x => .bool (zeroE x)) exE_inj (x := y) rfl trivial
  cases w
  · refine WpCall.slim (M := 10) (rs := [.tmp 4]) (hw.call _) hw.ice hw.froz Try.func92 rfl rfl code92.2 rfl ?_; dsimp only [code92, envOf, Nat.reduceAdd]
    repeat' (first
       | (apply Rx.nl ?_; clear hK K) | apply Rx.o ?_ | (apply Rx.call ?_; first | refine Rx.k (kz _ _) ?_) | (apply Rx.cd (fun hb hbp => ?_) (fun hb hbp => ?_) <;> try (cases hb; done)) | apply Wp.seq ?_ | (apply Wp.ops' fun K hK => ?_) | apply Rx.sk ?_ | apply Rx.rt ?_)
    all_goals (refine ⟨eI, _, eR, ?_⟩; try simp only [oneOr])
    rfl
  · refine WpCall.slim (M := 10) (rs := [.tmp 4]) (hw.call _) hw.ice hw.froz Try.func92 rfl rfl code92.2 rfl ?_; dsimp only [code92, envOf, Nat.reduceAdd]
    repeat' (first
       | (apply Rx.nl ?_; clear hK K) | apply Rx.o ?_ | (apply Rx.cd (fun hb hbp => ?_) (fun hb hbp => ?_) <;> try (cases hb; done)) | apply Wp.seq ?_ | (apply Wp.ops' fun K hK => ?_) | apply Rx.sk ?_ | apply Rx.rt ?_)
    refine WpL.call rfl eVk eAk ?_; simp only [List.cons_append, List.nil_append, List.append_nil]
    refine WpCall.mono ?_ (wfWalk (fun _ => rfl) (fun _ => rfl) ⟨fun _ => rfl, rfl⟩ ⟨fun _ => rfl, rfl⟩ x hx _)
    rintro v H ⟨rfl, _⟩
    dsimp only [setO]
    repeat' (first
       | (apply Rx.nl ?_; clear hK K) | apply Rx.o ?_ | (apply Rx.cd (fun hb hbp => ?_) (fun hb hbp => ?_) <;> try (cases hb; done)) | apply Wp.seq ?_ | (apply Wp.ops' fun K hK => ?_) | apply Rx.sk ?_ | apply Rx.rt ?_)
    all_goals (refine ⟨eI, _, eR, ?_⟩; try simp only [oneOr])
    rfl)
def fld (k : Int) (i : Nat) : Bool := (fldB k).getD i false
theorem fld_eq (k : Int) : (fldB k).map AV.bool = [.bool (fld k 0), .bool (fld k 1), .bool (fld k 2), .bool (fld k 3), .bool (fld k 4), .bool (fld k 5), .bool (fld k 6), .bool (fld k 7)] := by
  have h : ∃ a b c d e f g h, fldB k = [a, b, c, d, e, f, g, h] := by
    unfold fldB
    repeat' split
    all_goals exact ⟨_, _, _, _, _, _, _, _, rfl⟩
  obtain ⟨a, b, c, d, e, f, g, h, e1⟩ := h
  simp only [fld, e1]; rfl
/-- A statement, apart from those in it; asx the checker puts it. -/
def wfSp (x : St) : Bool :=
  fldOk x.kind && nameF x.name (fld x.kind 0) && nameF x.to (fld x.kind 1) && fieldE x.at_ (fld x.kind 3) && fieldE x.value (fld x.kind 4) &&
  !decide (x.n < 0) && !decide (1000000 < x.n) && (fld x.kind 2 || decide (x.n = 0)) && (fld x.kind 5 || !decide ((0 : Int) < x.args.length)) && (fld x.kind 6 || !decide ((0 : Int) < x.thn.length)) && (fld x.kind 7 || !decide ((0 : Int) < x.els.length)) && wfEs x.args
def badB (x : St) : Bool := decide (x.n < 0) || decide (1000000 < x.n) || (!fld x.kind 2 && !decide (x.n = 0)) || (!fld x.kind 5 && decide ((0 : Int) < x.args.length)) || (!fld x.kind 6 && decide ((0 : Int) < x.thn.length)) || (!fld x.kind 7 && decide ((0 : Int) < x.els.length))
noncomputable def enPF : En := ⟨90, false, spP (fun _ => True) (fun n : Int => [.int .i64 n]) fldA⟩
theorem enPF_ok (ρ : Nat → Int) : EnOk Try.prog ρ enPF := spP_ok fun x _ => fields_con ρ x
def sbE (x : List UInt8 × Bool) : List AV := [.str x.1, .bool x.2]
theorem sbE_inj (x y : List UInt8 × Bool) (h : sbE x = sbE y) : x = y := by
  simp only [sbE, List.cons.injEq, AV.str.injEq, AV.bool.injEq, and_true] at h
  exact Prod.ext h.1 h.2
noncomputable def enPM : En := ⟨91, false, spP (fun x => x.1.length < 2 ^ 60) sbE fun x => .bool (nameF x.1 x.2)⟩
theorem enPM_ok (ρ : Nat → Int) : EnOk Try.prog ρ enPM := spP_ok fun x hx => pfield_con ρ x.1 x.2 hx
def ebE (x : Ex × Bool) : List AV := [.agg x.1.cells, .bool x.2]
theorem ebE_inj (x y : Ex × Bool) (h : ebE x = ebE y) : x = y := by
  simp only [ebE, List.cons.injEq, AV.agg.injEq, AV.bool.injEq, and_true] at h
  exact Prod.ext (Ex.inj h.1) h.2
noncomputable def enPX : En := ⟨92, false, spP (fun x => x.1.sz < 2 ^ 60) ebE fun x => .bool (fieldE x.1 x.2)⟩
theorem enPX_ok (ρ : Nat → Int) : EnOk Try.prog ρ enPX := spP_ok fun x hx => exprField_con ρ x.1 x.2 hx
noncomputable def enPS : En := ⟨58, false, spP (fun l => strsSz l < 2 ^ 60) (fun l : List (List UInt8) => [lstS l]) fun l => .bool (l.all nameB)⟩
theorem enPS_ok (ρ : Nat → Int) : EnOk Try.prog ρ enPS := spP_ok fun x hx => pnames_con ρ x hx
theorem lsE_inj (x y : List (List UInt8)) (h : ([lstS x] : List AV) = [lstS y]) : x = y := by
  simp only [List.cons.injEq, AV.lst.injEq, and_true] at h
  exact strs_inj h
noncomputable def levP2 : List En := [enPN, enPO, enPF, enPM, enPX, enPS]
theorem levP2_ok (ρ : Nat → Int) : EnsOk Try.prog ρ levP2 := ⟨enPN_ok ρ, enPO_ok ρ, enPF_ok ρ, enPM_ok ρ, enPX_ok ρ, enPS_ok ρ, trivial⟩
theorem fldv1 : fld 1 0 = true ∧ fld 1 1 = false ∧ fld 1 2 = false ∧ fld 1 3 = false ∧ fld 1 4 = true ∧ fld 1 5 = false ∧ fld 1 6 = false ∧ fld 1 7 = false ∧ fldOk 1 = true := by refine ⟨rfl, rfl, rfl, rfl, rfl, rfl, rfl, rfl, rfl⟩
theorem fldv2 : fld 2 0 = true ∧ fld 2 1 = false ∧ fld 2 2 = false ∧ fld 2 3 = true ∧ fld 2 4 = true ∧ fld 2 5 = false ∧ fld 2 6 = false ∧ fld 2 7 = false ∧ fldOk 2 = true := by refine ⟨rfl, rfl, rfl, rfl, rfl, rfl, rfl, rfl, rfl⟩
theorem fldv3 : fld 3 0 = false ∧ fld 3 1 = false ∧ fld 3 2 = false ∧ fld 3 3 = false ∧ fld 3 4 = true ∧ fld 3 5 = false ∧ fld 3 6 = true ∧ fld 3 7 = true ∧ fldOk 3 = true := by refine ⟨rfl, rfl, rfl, rfl, rfl, rfl, rfl, rfl, rfl⟩
theorem fldv4 : fld 4 0 = false ∧ fld 4 1 = false ∧ fld 4 2 = false ∧ fld 4 3 = false ∧ fld 4 4 = true ∧ fld 4 5 = false ∧ fld 4 6 = true ∧ fld 4 7 = false ∧ fldOk 4 = true := by refine ⟨rfl, rfl, rfl, rfl, rfl, rfl, rfl, rfl, rfl⟩
theorem fldv5 : fld 5 0 = false ∧ fld 5 1 = false ∧ fld 5 2 = false ∧ fld 5 3 = false ∧ fld 5 4 = true ∧ fld 5 5 = false ∧ fld 5 6 = false ∧ fld 5 7 = false ∧ fldOk 5 = true := by refine ⟨rfl, rfl, rfl, rfl, rfl, rfl, rfl, rfl, rfl⟩
theorem fldv6 : fld 6 0 = true ∧ fld 6 1 = true ∧ fld 6 2 = false ∧ fld 6 3 = false ∧ fld 6 4 = false ∧ fld 6 5 = true ∧ fld 6 6 = false ∧ fld 6 7 = false ∧ fldOk 6 = true := by refine ⟨rfl, rfl, rfl, rfl, rfl, rfl, rfl, rfl, rfl⟩
theorem fldv7 : fld 7 0 = false ∧ fld 7 1 = false ∧ fld 7 2 = true ∧ fld 7 3 = false ∧ fld 7 4 = false ∧ fld 7 5 = false ∧ fld 7 6 = false ∧ fld 7 7 = false ∧ fldOk 7 = true := by refine ⟨rfl, rfl, rfl, rfl, rfl, rfl, rfl, rfl, rfl⟩
set_option maxRecDepth 100000 in
set_option maxHeartbeats 16000000 in
/-- The visitor of statements. -/
theorem wfsVisit : VisitS (cfgN pls levP2) 0 (fun (_ : Unit) _ => True) 61 [] fun x _ s => (wfSp x, s) := by
  intro x d s H hz _ _
  have hw : Plain (cfgN pls levP2) 61 := plainN (fun _ => rfl) rfl
  have kf : ∀ k H, WpCall Try.prog (cfgN pls levP2) 90 [.int .i64 k] H fun v H' => v = .tup [.agg [.bool (fld k 0), .bool (fld k 1), .bool (fld k 2), .bool (fld k 3), .bool (fld k 4), .bool (fld k 5), .bool (fld k 6), .bool (fld k 7)], .bool (fldOk k)] ∧ H' = H := fun k H => by
    have := WpCall.en (P := Try.prog) (pls := pls) (l := levP2) (enc := fun n : Int => [.int .i64 n]) (ok := fun _ => True) (out := fldA) intE_inj (g := 90) (x := k) rfl trivial (H := H)
    unfold fldA at this
    rw [fld_eq] at this
    exact this
  have km : ∀ (s : List UInt8) (w : Bool), s.length < 2 ^ 60 → ∀ H, WpCall Try.prog (cfgN pls levP2) 91 [.str s, .bool w] H fun v H' => v = .bool (nameF s w) ∧ H' = H := fun s w h H => WpCall.en (enc := sbE) (out := fun x => .bool (nameF x.1 x.2)) sbE_inj (x := (s, w)) rfl h
  have kx : ∀ (y : Ex) (w : Bool), y.sz < 2 ^ 60 → ∀ H, WpCall Try.prog (cfgN pls levP2) 92 [.agg y.cells, .bool w] H fun v H' => v = .bool (fieldE y w) ∧ H' = H := fun y w h H => WpCall.en (enc := ebE) (out := fun x => .bool (fieldE x.1 x.2)) ebE_inj (x := (y, w)) rfl h
  have hsz := x.sz_eq
  have hlen := exprsSz_len x.args
  have hx0 : ∀ a b, Ab.extract (.tup [a, b]) 0 = some a := fun _ _ => rfl
  have hx1 : ∀ a b, Ab.extract (.tup [a, b]) 1 = some b := fun _ _ => rfl
  refine WpCall.slim (M := 111) (rs := [.tmp 4]) (hw.call _) hw.ice hw.froz Try.func61 rfl rfl code61.2 rfl ?_; dsimp only [code61, envOf, Nat.reduceAdd]
  repeat' (first
     | (apply Rx.nl ?_; clear hK K) | apply Rx.o ?_ | apply Rx.on ?_ | (apply Rx.call ?_; first | refine Rx.k (kf _ _) ?_ | refine Rx.k (km _ _ (by omega) _) ?_ | refine Rx.k (kx _ _ (by omega) _) ?_) | apply Rx.gu ?_ | (apply Rx.gd (fun hg hgp => ?_) (fun hg hgp => ?_) <;> try (cases hg; done)) | apply Wp.seq ?_ | (apply Wp.ops' fun K hK => ?_) | apply Wp.block ?_ | apply Rx.sk ?_ | apply Rx.rt ?_ | apply Rx.xt ?_)
  all_goals (first | (refine Rx.cd (t := true) (h1 := fun _ _ => ?_) (h2 := fun hzz _ => ?_) <;> try (cases hzz; done)) | skip)
  all_goals
    repeat' (first
       | (apply Rx.nl ?_; clear hK K) | apply Rx.o ?_ | apply Rx.on ?_ | apply Rx.gu ?_ | (apply Rx.gd (fun hg hgp => ?_) (fun hg hgp => ?_) <;> try (cases hg; done)) | apply Wp.seq ?_ | (apply Wp.ops' fun K hK => ?_) | apply Wp.block ?_ | apply Rx.sk ?_ | apply Rx.rt ?_ | apply Rx.xt ?_)
  all_goals (first | (refine ⟨eI, _, eR, ?_⟩; (try simp only [oneOr]); refine ⟨by rw [wfSp]; (try simp only [Bool.not_eq_true', Bool.not_eq_false'] at *); simp only [*, decide_true, decide_false, Bool.false_or, Bool.or_false, Bool.true_or, Bool.or_true, Bool.false_and, Bool.and_false, Bool.true_and, Bool.and_true, Bool.not_true, Bool.not_false, if_true, if_false, Int.reduceEq], (((FrB.refl _ _).alloc _).alloc _).set (.inl (by (try simp only [Hp.next_alloc]); omega)) _, trivial⟩; done) | skip)
  have hfr : FrB 0 H (((H.alloc (.cells x.cells 0 true)).alloc (.cells [.bool false, .bool false, .bool false, .bool false, .bool false, .bool false, .bool false, .bool false] 0 true)).set (H.next + 1) (.cells [.bool (fld x.kind 0), .bool (fld x.kind 1), .bool (fld x.kind 2), .bool (fld x.kind 3), .bool (fld x.kind 4), .bool (fld x.kind 5), .bool (fld x.kind 6), .bool (fld x.kind 7)] 0 true)) := (((FrB.refl _ _).alloc _).alloc _).set (.inl (by omega)) _
  refine Wp.fresh [2, 4, 5, 48] fun E' hcE => ?_
  (try simp only [forall_cons, forall_nil, and_true, sB, sO, Nat.reduceBEq, Nat.reduceAdd, Nat.reduceLeDiff, tyF, *] at hcE)
  generalize hHb : Hp.set _ (H.next + 1) _ = Hb at hfr ⊢
  have gb : Hb.get H.next = some (.cells x.cells 0 true) := by rw [← hHb, Hp.get_set, if_neg (by omega), Hp.get_alloc, if_neg (by simp only [Hp.next_alloc]; omega), Hp.get_alloc, if_pos rfl]
  have gf : Hb.get (H.next + 1) = some (.cells [.bool (fld x.kind 0), .bool (fld x.kind 1), .bool (fld x.kind 2), .bool (fld x.kind 3), .bool (fld x.kind 4), .bool (fld x.kind 5), .bool (fld x.kind 6), .bool (fld x.kind 7)] 0 true) := by rw [← hHb, Hp.get_set, if_pos rfl]
  have nb : H.next + 2 ≤ Hb.next := by rw [← hHb]; exact Nat.le_refl _
  clear hHb
  refine Rx.cd (h1 := fun hb hbp => ?_) (h2 := fun hb hbp => ?_)
  · repeat' (first
       | (apply Rx.nl ?_; clear hK K) | apply Rx.o ?_ | apply Rx.on ?_ | apply Rx.gu ?_ | (apply Rx.gd (fun hg hgp => ?_) (fun hg hgp => ?_) <;> try (cases hg; done)) | apply Wp.seq ?_ | (apply Wp.ops' fun K hK => ?_) | apply Wp.block ?_ | apply Rx.sk ?_ | apply Rx.rt ?_ | apply Rx.xt ?_)
    all_goals (refine ⟨eI, _, eR, ?_⟩; try simp only [oneOr])
    refine ⟨by rw [wfSp]; (try simp only [Bool.not_eq_true', Bool.not_eq_false'] at *); simp only [*, decide_true, decide_false, Bool.false_or, Bool.or_false, Bool.true_or, Bool.or_true, Bool.false_and, Bool.and_false, Bool.true_and, Bool.and_true, Bool.not_true, Bool.not_false, if_true, if_false, Int.reduceEq], hfr, trivial⟩
  refine Wp.skip ?_
  dsimp only [thenQ, blockQ]
  refine Wp.seq ?_
  first
  | refine Wp.ops' fun K hK0 => ?_
  | (simp only [slimR, slimL, slimD, slimG, Nat.blt, Nat.ble]; refine Wp.ops' fun K hK0 => ?_)
  | (refine Wp.seq ?_; refine Wp.ops' fun K hK0 => ?_)
  have hK : ∀ E2 H2, (E2.at 2 = .ptr H.next 0 ∧ E2.at 4 = .bool false ∧ E2.at 99 = .bool (badB x) ∧ H2 = Hb) → K E2 H2 := by
    rintro E2 H2 ⟨k2, k4, k99, rfl⟩
    apply hK0
    clear hK0 K
    dsimp only [thenQ, blockQ]
    have hgood : (fldOk x.kind && nameF x.name (fld x.kind 0) && nameF x.to (fld x.kind 1) && fieldE x.at_ (fld x.kind 3) && fieldE x.value (fld x.kind 4)) = true := by (try simp only [Bool.not_eq_true', Bool.not_eq_false'] at *); simp only [*, decide_true, decide_false, Bool.false_or, Bool.or_false, Bool.true_or, Bool.or_true, Bool.false_and, Bool.and_false, Bool.true_and, Bool.and_true, Bool.not_true, Bool.not_false, if_true, if_false, Int.reduceEq]
    have hsp : wfSp x = (!badB x && wfEs x.args) := by
      have e : wfSp x = ((fldOk x.kind && nameF x.name (fld x.kind 0) && nameF x.to (fld x.kind 1) && fieldE x.at_ (fld x.kind 3) && fieldE x.value (fld x.kind 4)) && (!badB x && wfEs x.args)) := by
        simp only [wfSp, badB, Bool.not_or, Bool.not_and, Bool.not_not, Bool.and_assoc]
      rw [e, hgood, Bool.true_and]
    repeat' (first
       | (apply Rx.nl ?_; clear hK K) | apply Rx.o ?_ | apply Rx.on ?_ | apply Rx.gu ?_ | (apply Rx.gd (fun hg hgp => ?_) (fun hg hgp => ?_) <;> try (cases hg; done)) | (apply Rx.cd (fun hb hbp => ?_) (fun hb hbp => ?_) <;> try (cases hb; done)) | apply Wp.seq ?_ | (apply Wp.ops' fun K hK => ?_) | apply Wp.block ?_ | apply Rx.sk ?_ | apply Rx.rt ?_ | apply Rx.xt ?_)
    · all_goals (refine ⟨eI, _, eR, ?_⟩; try simp only [oneOr])
      refine ⟨by rw [hsp]; (try simp only [Bool.not_eq_true', Bool.not_eq_false'] at *); simp only [*, decide_true, decide_false, Bool.false_or, Bool.or_false, Bool.true_or, Bool.or_true, Bool.false_and, Bool.and_false, Bool.true_and, Bool.and_true, Bool.not_true, Bool.not_false, if_true, if_false, Int.reduceEq], hfr, trivial⟩
    refine Wp.forI [2, 4, 101, 102] [] 103 x.args.length (fun i E H2 => wfEs x.args = wfEs (x.args.drop i) ∧ FrB 0 H H2) eE ⟨by simp, hfr⟩ ?_
    rintro i E H3 hi hcE hrH hnH hsI ⟨hJ, hf2⟩
    (try simp only [forall_cons, forall_nil, and_true, sB, sO, Nat.reduceBEq, Nat.reduceAdd, Nat.reduceLeDiff, tyF, *] at hcE)
    (try simp only [forall_cons, forall_nil, and_true, sB, sO, Nat.reduceBEq, Nat.reduceAdd, Nat.reduceLeDiff, tyF, *] at hrH)
    (try simp only [Hp.next_alloc, Hp.next_set, H0_next, Nat.zero_add, Nat.reduceAdd] at hnH)
    repeat' (first
       | (apply Rx.nl ?_; clear hK K) | apply Rx.o ?_ | apply Rx.on ?_ | apply Rx.gu ?_ | (apply Rx.gd (fun hg hgp => ?_) (fun hg hgp => ?_) <;> try (cases hg; done)) | (apply Rx.cd (fun hb hbp => ?_) (fun hb hbp => ?_) <;> try (cases hb; done)) | apply Wp.seq ?_ | (apply Wp.ops' fun K hK => ?_) | apply Wp.block ?_ | apply Rx.sk ?_ | apply Rx.rt ?_ | apply Rx.xt ?_)
    · have hlt : i < x.args.length := by simpa using hb
      have hgx : x.args[i]? = some x.args[i] := List.getElem?_eq_getElem hlt
      have hsm := exprsSz_mem (List.getElem_mem hlt)
      have hdr : wfEs (x.args.drop i) = (wfE x.args[i] && wfEs (x.args.drop (i + 1))) := by rw [List.drop_eq_getElem_cons hlt]; rfl
      repeat' (first
         | (apply Rx.nl ?_; clear hK K) | apply Rx.o ?_ | apply Rx.on ?_ | apply Rx.gu ?_ | (apply Rx.gd (fun hg hgp => ?_) (fun hg hgp => ?_) <;> try (cases hg; done)) | (apply Rx.cd (fun hb hbp => ?_) (fun hb hbp => ?_) <;> try (cases hb; done)) | apply Wp.seq ?_ | (apply Wp.ops' fun K hK => ?_) | apply Wp.block ?_ | apply Rx.sk ?_ | apply Rx.rt ?_ | apply Rx.xt ?_)
      refine WpL.call rfl eVk eAk ?_; simp only [List.cons_append, List.nil_append, List.append_nil]
      refine WpCall.mono ?_ (wfWalk (fun _ => rfl) (fun _ => rfl) ⟨fun _ => rfl, rfl⟩ ⟨fun _ => rfl, rfl⟩ x.args[i] (by omega) _)
      rintro v H4 ⟨rfl, hf4⟩
      dsimp only [setO]
      have hf5 : FrB 0 H H4 := hf2.trans ((((FrB.refl _ _).alloc _).set (.inl (Nat.le_refl _)) _).trans hf4)
      have n4 := hf4.next
      simp only [Hp.next_set, Hp.next_alloc] at n4
      repeat' (first
         | (apply Rx.nl ?_; clear hK K) | apply Rx.o ?_ | apply Rx.on ?_ | apply Rx.gu ?_ | (apply Rx.gd (fun hg hgp => ?_) (fun hg hgp => ?_) <;> try (cases hg; done)) | (apply Rx.cd (fun hb hbp => ?_) (fun hb hbp => ?_) <;> try (cases hb; done)) | apply Wp.seq ?_ | (apply Wp.ops' fun K hK => ?_) | apply Wp.block ?_ | apply Rx.sk ?_ | apply Rx.rt ?_ | apply Rx.xt ?_)
      all_goals (first | (refine ⟨eI, _, eR, ?_⟩; (try simp only [oneOr]); refine ⟨by rw [hsp, hJ, hdr]; (try simp only [Bool.not_eq_true', Bool.not_eq_false'] at *); simp only [*, decide_true, decide_false, Bool.false_or, Bool.or_false, Bool.true_or, Bool.or_true, Bool.false_and, Bool.and_false, Bool.true_and, Bool.and_true, Bool.not_true, Bool.not_false, if_true, if_false, Int.reduceEq], hf5, trivial⟩; done) | skip)
      refine ⟨by omega, eL, eL, eN, (by simp only [sB, Nat.reduceBEq, *]; exact i64_succ (n := x.args.length) (by omega) (by omega)), ?_⟩
      exact ⟨by rw [hJ, hdr]; (try simp only [Bool.not_eq_true', Bool.not_eq_false'] at *); simp only [*, decide_true, decide_false, Bool.false_or, Bool.or_false, Bool.true_or, Bool.or_true, Bool.false_and, Bool.and_false, Bool.true_and, Bool.and_true, Bool.not_true, Bool.not_false, if_true, if_false, Int.reduceEq], hf5⟩
    · all_goals (refine ⟨eI, _, eR, ?_⟩; try simp only [oneOr])
      refine ⟨by rw [hsp, hJ, show i = x.args.length by simp at hb; omega, List.drop_length]; (try simp only [Bool.not_eq_true', Bool.not_eq_false'] at *); simp only [wfEs, *, decide_true, decide_false, Bool.false_or, Bool.or_false, Bool.true_or, Bool.or_true, Bool.false_and, Bool.and_false, Bool.true_and, Bool.and_true, Bool.not_true, Bool.not_false, if_true, if_false, Int.reduceEq], hf2, trivial⟩
  clear hK0
  repeat' (first
     | (apply Rx.nl ?_; clear hK K) | apply Rx.o ?_ | apply Rx.on ?_ | apply Rx.gu ?_ | (apply Rx.gd (fun hg hgp => ?_) (fun hg hgp => ?_) <;> try (cases hg; done)) | apply Wp.seq ?_ | (apply Wp.ops' fun K hK => ?_) | apply Wp.block ?_ | apply Rx.sk ?_ | apply Rx.rt ?_ | apply Rx.xt ?_)
  all_goals
    refine ⟨eE, eE, ?_, rfl⟩
    rw [badB]
    (try simp only [Bool.not_eq_true', Bool.not_eq_false'] at *)
    simp only [sB, Nat.reduceBEq, *, decide_true, decide_false, Bool.false_or, Bool.or_false, Bool.true_or, Bool.or_true, Bool.false_and, Bool.and_false, Bool.true_and, Bool.and_true, Bool.not_true, Bool.not_false]
end Go.Proofs.Ytjkmbpieknaekaa
namespace Go.Proofs.Ytjkmbpieknaekaa
set_option maxRecDepth 20000
set_option linter.unusedSimpArgs false
set_option linter.unusedVariables false
set_option linter.unusedSectionVars false
set_option linter.defProp false
open Go Go.Ab
theorem len0 (n : Nat) : (!decide ((0 : Int) < n)) = decide ((n : Int) = 0) := by
  cases n with
  | zero => rfl
  | succ n => simp; omega
theorem rng0 (n : Int) : (!decide (n < 0) && !decide (1000000 < n) && decide (n = 0)) = decide (n = 0) := by
  by_cases h : n = 0
  · subst h; rfl
  · simp [h]
theorem neg0 (n : Int) : (!decide (n < 0)) = decide (0 ≤ n) := by
  by_cases h : n < 0
  · simp [h]
  · simp [h]; omega
theorem big0 (n : Int) : (!decide (1000000 < n)) = decide (n ≤ 1000000) := by
  by_cases h : 1000000 < n
  · simp [h]
  · simp [h]; omega
theorem wfSp_eq (x : St) : wfSp x = wfStX x := by
  have hk : x.kind = 1 ∨ x.kind = 2 ∨ x.kind = 3 ∨ x.kind = 4 ∨ x.kind = 5 ∨ x.kind = 6 ∨ x.kind = 7 ∨ fldOk x.kind = false := by
    simp only [fldOk, Bool.and_eq_false_iff, decide_eq_false_iff_not]; omega
  rcases hk with hk | hk | hk | hk | hk | hk | hk | hk
  case inr.inr.inr.inr.inr.inr.inr =>
    have h : wfStK x = false := by
      simp only [fldOk, Bool.and_eq_false_iff, decide_eq_false_iff_not] at hk
      unfold wfStK
      rw [if_neg (by omega), if_neg (by omega), if_neg (by omega), if_neg (by omega), if_neg (by omega), if_neg (by omega), if_neg (by omega)]
    rw [wfSp, wfStX, hk, h]
    simp
  all_goals
    have hr := rng0 x.n
    simp only [wfSp, wfStX, wfStK, hk, fldv1, fldv2, fldv3, fldv4, fldv5, fldv6, fldv7, flatB, onlyB, nameF, fieldE, cond_true, cond_false, if_true, if_false, Int.reduceEq, Bool.true_and, Bool.and_true, Bool.false_or, Bool.true_or, len0, Bool.false_eq_true, reduceCtorEq]
    first
    | (rw [neg0, big0]; ac_rfl)
    | (rw [← hr]; ac_rfl)
mutual
theorem walk1_wf : ∀ (x : St) (d : Int), walk1 (fun x _ (s : Unit) => (wfSp x, s)) x d () = (wfSt x, ())
  | .mk k nm to n a v args th el, d => by
    rw [walk1, wfSt, wfSp_eq]
    cases h : wfStX (.mk k nm to n a v args th el) with
    | false => simp
    | true =>
      simp only [walkS_wf th, Bool.true_and]
      cases h2 : wfSs th with
      | false => simp
      | true => simp only [walkS_wf el, Bool.true_and]
theorem walkS_wf : ∀ (l : List St) (d : Int), walkS (fun x _ (s : Unit) => (wfSp x, s)) l d () = (wfSs l, ())
  | [], _ => rfl
  | x :: l, d => by
    rw [walkS, wfSs, walk1_wf x]
    cases h : wfSt x with
    | false => simp
    | true => simp only [walkS_wf l, Bool.true_and]
end
end Go.Proofs.Ytjkmbpieknaekaa
namespace Go.Proofs.Ytjkmbpieknaekaa
set_option maxRecDepth 20000
set_option linter.unusedSimpArgs false
set_option linter.unusedVariables false
set_option linter.unusedSectionVars false
set_option linter.defProp false
set_option maxRecDepth 20000
open Go Go.Ab
namespace tyP4d
def tyF := And.intro @tq2 (And.intro @tq3 (And.intro @tq9 (And.intro @tq22 (And.intro @tq23 (And.intro @tq25 (And.intro @tq35 (And.intro @tq36 (And.intro @tq37 (And.intro @tq39 (And.intro @tq41 (And.intro @tq44 (@tq46))))))))))))
end tyP4d
open tyP4d
noncomputable def code32 : { c : SC // slim 55 (Try.f32.body.getD .skip) = c } := by
  refine ⟨?_, ?_⟩
  rotate_left
  · simp only [Try.f32, Option.getD_some, slim, slimR, slimL, slimD, slimG, Nat.blt, Nat.ble]
    rfl
theorem fnNames_all (f : Fu) (b : List UInt8 → Bool) : (fnNames f).all b = (b f.name && f.params.all b && f.locals.all b) := by
  rw [fnNames, List.all_append, List.all_append, List.all_cons, List.all_nil, Bool.and_true]
set_option maxRecDepth 100000 in
set_option maxHeartbeats 8000000 in
theorem wellFormed_con (ρ : Nat → Int) (p : Pr) (hz : p.sz < 2 ^ 36) : Con Try.prog ρ 32 [.agg p.cells] (.bool (wfP p)) := Con.lev fit (pls := pls) (levP2_ok ρ) (.cons (.agg p.pure) .nil) (.bool _) (by
  have hw : Plain (cfgN pls levP2) 32 := plainN (fun _ => rfl) rfl
  have kn : ∀ s : List UInt8, s.length < 2 ^ 60 → ∀ H, WpCall Try.prog (cfgN pls levP2) 57 [.str s] H fun v H' => v = .bool (nameB s) ∧ H' = H := fun s h1 H => WpCall.en (enc := bsE) (out := fun x => .bool (nameB x)) bsE_inj (x := s) rfl h1
  have ks : ∀ l : List (List UInt8), strsSz l < 2 ^ 60 → ∀ H, WpCall Try.prog (cfgN pls levP2) 58 [lstS l] H fun v H' => v = .bool (l.all nameB) ∧ H' = H := fun l h1 H => WpCall.en (enc := fun l : List (List UInt8) => [lstS l]) (out := fun l => .bool (l.all nameB)) lsE_inj (x := l) rfl h1
  have hpz : p.sz = 1 + arrsSz p.arrays + fnsSz p.funcs := rfl
  have hla := arrsSz_len p.arrays
  have hlf := fnsSz_len p.funcs
  refine WpCall.slim (M := 55) (rs := [.tmp 2]) (hw.call _) hw.ice hw.froz Try.func32 rfl rfl code32.2 rfl ?_; dsimp only [code32, envOf, Nat.reduceAdd]
  repeat' (first
     | (apply Rx.nl ?_; clear hK K) | apply Rx.o ?_ | apply Rx.on ?_ | apply Rx.gu ?_ | (apply Rx.gd (fun hg hgp => ?_) (fun hg hgp => ?_) <;> try (cases hg; done)) | (apply Rx.cd (fun hb hbp => ?_) (fun hb hbp => ?_) <;> try (cases hb; done)) | apply Wp.seq ?_ | (apply Wp.ops' fun K hK => ?_) | apply Wp.block ?_ | apply Rx.sk ?_ | apply Rx.rt ?_ | apply Rx.xt ?_)
  refine Wp.forI [1, 8, 9] [0] 10 p.arrays.length (fun i E H => p.arrays.all (fun a => nameB a.name) = (p.arrays.drop i).all (fun a => nameB a.name)) eE (by simp) ?_
  rintro i E H2 hi hcE hrH hnH hsI hJ
  (try simp only [forall_cons, forall_nil, and_true, sB, sO, Nat.reduceBEq, Nat.reduceAdd, Nat.reduceLeDiff, tyF, *] at hcE)
  (try simp only [forall_cons, forall_nil, and_true, sB, sO, Nat.reduceBEq, Nat.reduceAdd, Nat.reduceLeDiff, tyF, *] at hrH)
  (try simp only [Hp.next_alloc, Hp.next_set, H0_next, Nat.zero_add, Nat.reduceAdd] at hnH)
  have hB0 : (0 == H2.next) = false := ne_beq (by omega)
  have hC0 : (H2.next == 0) = false := ne_beq (by omega)
  repeat' (first
     | (apply Rx.nl ?_; clear hK K) | apply Rx.o ?_ | apply Rx.on ?_ | apply Rx.gu ?_ | (apply Rx.gd (fun hg hgp => ?_) (fun hg hgp => ?_) <;> try (cases hg; done)) | (apply Rx.cd (fun hb hbp => ?_) (fun hb hbp => ?_) <;> try (cases hb; done)) | apply Wp.seq ?_ | (apply Wp.ops' fun K hK => ?_) | apply Wp.block ?_ | apply Rx.sk ?_ | apply Rx.rt ?_ | apply Rx.xt ?_)
  · have hlt : i < p.arrays.length := by simpa using hb
    have hgx : p.arrays[i]? = some p.arrays[i] := List.getElem?_eq_getElem hlt
    have hsm := arrsSz_mem (List.getElem_mem hlt)
    have hdr : (p.arrays.drop i).all (fun a => nameB a.name) = (nameB p.arrays[i].name && (p.arrays.drop (i + 1)).all (fun a => nameB a.name)) := by rw [List.drop_eq_getElem_cons hlt, List.all_cons]
    repeat' (first
       | (apply Rx.nl ?_; clear hK K) | apply Rx.o ?_ | apply Rx.on ?_ | (apply Rx.call ?_; first | refine Rx.k (kn _ (by omega) _) ?_) | apply Rx.gu ?_ | (apply Rx.gd (fun hg hgp => ?_) (fun hg hgp => ?_) <;> try (cases hg; done)) | (apply Rx.cd (fun hb hbp => ?_) (fun hb hbp => ?_) <;> try (cases hb; done)) | apply Wp.seq ?_ | (apply Wp.ops' fun K hK => ?_) | apply Wp.block ?_ | apply Rx.sk ?_ | apply Rx.rt ?_ | apply Rx.xt ?_)
    all_goals (first | (refine ⟨eI, _, eR, ?_⟩; (try simp only [oneOr]); rw [wfP, hJ, hdr]; (try simp only [Bool.not_eq_true', Bool.not_eq_false'] at *); simp only [*, decide_true, decide_false, Bool.false_or, Bool.or_false, Bool.true_or, Bool.or_true, Bool.false_and, Bool.and_false, Bool.true_and, Bool.and_true, Bool.not_true, Bool.not_false, if_true, if_false, Int.reduceEq]; done) | skip)
    refine ⟨by omega, eL, eL, eN, (by simp only [sB, Nat.reduceBEq, *]; exact i64_succ (n := p.arrays.length) (by omega) (by omega)), ?_⟩
    rw [hJ, hdr]; (try simp only [Bool.not_eq_true', Bool.not_eq_false'] at *); simp only [*, decide_true, decide_false, Bool.false_or, Bool.or_false, Bool.true_or, Bool.or_true, Bool.false_and, Bool.and_false, Bool.true_and, Bool.and_true, Bool.not_true, Bool.not_false, if_true, if_false, Int.reduceEq]
  · have hie : i = p.arrays.length := by simp at hb; omega
    rw [hie, List.drop_length] at hJ
    have hJ' : p.arrays.all (fun a => nameB a.name) = true := hJ
    clear hJ hie hsI hi
    refine Wp.forI [20, 21] [0] 22 p.funcs.length (fun i E H => p.funcs.all wfFn = (p.funcs.drop i).all wfFn) eE (by simp) ?_
    rintro i E H3 hi hcE hrH hnH hsI hJ
    (try simp only [forall_cons, forall_nil, and_true, sB, sO, Nat.reduceBEq, Nat.reduceAdd, Nat.reduceLeDiff, tyF, *] at hcE)
    (try simp only [forall_cons, forall_nil, and_true, sB, sO, Nat.reduceBEq, Nat.reduceAdd, Nat.reduceLeDiff, tyF, *] at hrH)
    (try simp only [Hp.next_alloc, Hp.next_set, H0_next, Nat.zero_add, Nat.reduceAdd] at hnH)
    have hB0 : (0 == H3.next) = false := ne_beq (by omega)
    have hC0 : (H3.next == 0) = false := ne_beq (by omega)
    repeat' (first
       | (apply Rx.nl ?_; clear hK K) | apply Rx.o ?_ | apply Rx.on ?_ | apply Rx.gu ?_ | (apply Rx.gd (fun hg hgp => ?_) (fun hg hgp => ?_) <;> try (cases hg; done)) | (apply Rx.cd (fun hb hbp => ?_) (fun hb hbp => ?_) <;> try (cases hb; done)) | apply Wp.seq ?_ | (apply Wp.ops' fun K hK => ?_) | apply Wp.block ?_ | apply Rx.sk ?_ | apply Rx.rt ?_ | apply Rx.xt ?_)
    · have hlt : i < p.funcs.length := by simpa using hb
      have hgx : p.funcs[i]? = some p.funcs[i] := List.getElem?_eq_getElem hlt
      have hsm := fnsSz_mem (List.getElem_mem hlt)
      have hsz : p.funcs[i].sz = 1 + p.funcs[i].name.length + strsSz p.funcs[i].params + strsSz p.funcs[i].locals + stmtsSz p.funcs[i].body + p.funcs[i].value.sz := rfl
      have hdr : (p.funcs.drop i).all wfFn = (wfFn p.funcs[i] && (p.funcs.drop (i + 1)).all wfFn) := by rw [List.drop_eq_getElem_cons hlt, List.all_cons]
      have hfn : wfFn p.funcs[i] = (nameB p.funcs[i].name && p.funcs[i].params.all nameB && p.funcs[i].locals.all nameB && wfSs p.funcs[i].body && wfE p.funcs[i].value) := by rw [wfFn, fnNames_all]
      repeat' (first
         | (apply Rx.nl ?_; clear hK K) | apply Rx.o ?_ | apply Rx.on ?_ | (apply Rx.call ?_; first | refine Rx.k (kn _ (by omega) _) ?_ | refine Rx.k (ks _ (by omega) _) ?_) | apply Rx.gu ?_ | (apply Rx.gd (fun hg hgp => ?_) (fun hg hgp => ?_) <;> try (cases hg; done)) | (apply Rx.cd (fun hb hbp => ?_) (fun hb hbp => ?_) <;> try (cases hb; done)) | apply Wp.seq ?_ | (apply Wp.ops' fun K hK => ?_) | apply Wp.block ?_ | apply Rx.sk ?_ | apply Rx.rt ?_ | apply Rx.xt ?_)
      · refine WpL.call rfl eVk eAk ?_; simp only [List.cons_append, List.nil_append, List.append_nil]
        refine WpCall.mono ?_ (wfWalk (fun _ => rfl) (fun _ => rfl) ⟨fun _ => rfl, rfl⟩ ⟨fun _ => rfl, rfl⟩ p.funcs[i].value (by omega) _)
        rintro v H4 ⟨rfl, hf4⟩
        have hn4 := hf4.next
        simp only [Hp.next_set, Hp.next_alloc] at hn4
        have g4 : H4.get H3.next = some (.cells p.funcs[i].cells 0 true) := by rw [hf4.get _ (Nat.zero_le _) (by simp only [Hp.next_set, Hp.next_alloc]; omega), Hp.get_set, if_pos rfl]
        have g40 : H4.get 0 = some (.cells p.cells 0 true) := by rw [hf4.get _ (Nat.zero_le _) (by simp only [Hp.next_set, Hp.next_alloc]; omega), Hp.get_set, if_neg (by omega), Hp.get_alloc, if_neg (by omega)]; exact hrH
        dsimp only [setO]
        repeat' (first
           | (apply Rx.nl ?_; clear hK K) | apply Rx.o ?_ | apply Rx.on ?_ | apply Rx.gu ?_ | (apply Rx.gd (fun hg hgp => ?_) (fun hg hgp => ?_) <;> try (cases hg; done)) | (apply Rx.cd (fun hb hbp => ?_) (fun hb hbp => ?_) <;> try (cases hb; done)) | apply Wp.seq ?_ | (apply Wp.ops' fun K hK => ?_) | apply Wp.block ?_ | apply Rx.sk ?_ | apply Rx.rt ?_ | apply Rx.xt ?_)
        · refine WpL.call rfl eVk eAk ?_; simp only [List.cons_append, List.nil_append, List.append_nil]
          refine WpCall.mono ?_ (walkStmts_wp (plainN (fun _ => rfl) rfl) (I := fun (_ : Unit) _ => True) (fun _ _ _ _ _ => trivial) wfsVisit (stmtsSz p.funcs[i].body + 1) p.funcs[i].body (by omega) 0 () H4 (by omega) (Nat.zero_le _) trivial)
          rintro v H5 ⟨rfl, hf5, _⟩
          have hn5 := hf5.next
          have g50 : H5.get 0 = some (.cells p.cells 0 true) := by rw [hf5.get _ (Nat.zero_le _) (by omega)]; exact g40
          rw [walkS_wf]
          dsimp only [setO]
          repeat' (first
             | (apply Rx.nl ?_; clear hK K) | apply Rx.o ?_ | apply Rx.on ?_ | apply Rx.gu ?_ | (apply Rx.gd (fun hg hgp => ?_) (fun hg hgp => ?_) <;> try (cases hg; done)) | (apply Rx.cd (fun hb hbp => ?_) (fun hb hbp => ?_) <;> try (cases hb; done)) | apply Wp.seq ?_ | (apply Wp.ops' fun K hK => ?_) | apply Wp.block ?_ | apply Rx.sk ?_ | apply Rx.rt ?_ | apply Rx.xt ?_)
          all_goals (first | (refine ⟨eI, _, eR, ?_⟩; (try simp only [oneOr]); rw [wfP, hJ', hJ, hdr, hfn]; (try simp only [Bool.not_eq_true', Bool.not_eq_false'] at *); simp only [*, decide_true, decide_false, Bool.false_or, Bool.or_false, Bool.true_or, Bool.or_true, Bool.false_and, Bool.and_false, Bool.true_and, Bool.and_true, Bool.not_true, Bool.not_false, if_true, if_false, Int.reduceEq]; done) | skip)
          refine ⟨by omega, eL, eL, eN, (by simp only [sB, Nat.reduceBEq, *]; exact i64_succ (n := p.funcs.length) (by omega) (by omega)), ?_⟩
          rw [hJ, hdr, hfn]; (try simp only [Bool.not_eq_true', Bool.not_eq_false'] at *); simp only [*, decide_true, decide_false, Bool.false_or, Bool.or_false, Bool.true_or, Bool.or_true, Bool.false_and, Bool.and_false, Bool.true_and, Bool.and_true, Bool.not_true, Bool.not_false, if_true, if_false, Int.reduceEq]
        all_goals skip
        all_goals (first | (refine ⟨eI, _, eR, ?_⟩; (try simp only [oneOr]); rw [wfP, hJ', hJ, hdr, hfn]; (try simp only [Bool.not_eq_true', Bool.not_eq_false'] at *); simp only [*, decide_true, decide_false, Bool.false_or, Bool.or_false, Bool.true_or, Bool.or_true, Bool.false_and, Bool.and_false, Bool.true_and, Bool.and_true, Bool.not_true, Bool.not_false, if_true, if_false, Int.reduceEq]; done) | skip)
      all_goals skip
      all_goals (first | (refine ⟨eI, _, eR, ?_⟩; (try simp only [oneOr]); rw [wfP, hJ', hJ, hdr, hfn]; (try simp only [Bool.not_eq_true', Bool.not_eq_false'] at *); simp only [*, decide_true, decide_false, Bool.false_or, Bool.or_false, Bool.true_or, Bool.or_true, Bool.false_and, Bool.and_false, Bool.true_and, Bool.and_true, Bool.not_true, Bool.not_false, if_true, if_false, Int.reduceEq]; done) | skip)
    · all_goals (refine ⟨eI, _, eR, ?_⟩; try simp only [oneOr])
      have hie : i = p.funcs.length := by simp at hb; omega
      rw [hie, List.drop_length] at hJ
      have hJ2 : p.funcs.all wfFn = true := hJ
      rw [wfP, hJ', hJ2]; rfl)
end Go.Proofs.Ytjkmbpieknaekaa
namespace Go.Proofs.Ytjkmbpieknaekaa
set_option maxRecDepth 20000
set_option linter.unusedSimpArgs false
set_option linter.unusedVariables false
set_option linter.unusedSectionVars false
set_option linter.defProp false
set_option maxRecDepth 20000
open Go Go.Ab
namespace tyP4h
def tyF := And.intro @tq22 (And.intro @tq23 (@tq25))
end tyP4h
open tyP4h
noncomputable def code14 : { c : SC // slim 16 (Try.f14.body.getD .skip) = c } := by
  refine ⟨?_, ?_⟩
  rotate_left
  · simp only [Try.f14, Option.getD_some, slim, slimR, slimL, slimD, slimG, Nat.blt, Nat.ble]
    rfl
noncomputable def enLim : En := ⟨31, false, spP (fun p => p.sz < 2 ^ 36) prE fun p => .bool (limP p)⟩
theorem limits_con (ρ : Nat → Int) (p : Pr) (hz : p.sz < 2 ^ 36) : Con Try.prog ρ 31 (prE p) (.bool (limP p)) := Con.lev fit (pls := pls) (l := []) trivial (.cons (.agg p.pure) .nil) (.bool _) (limits_wp ⟨plain0 _, plain0 _, plain0 _, plain0 _⟩ (plain0 _) (plain0 _) (plain0 _) p (by omega))
theorem enLim_ok (ρ : Nat → Int) : EnOk Try.prog ρ enLim := spP_ok fun p hp => limits_con ρ p hp
noncomputable def enWfP : En := ⟨32, false, spP (fun p => p.sz < 2 ^ 36) prE fun p => .bool (wfP p)⟩
theorem enWfP_ok (ρ : Nat → Int) : EnOk Try.prog ρ enWfP := spP_ok fun p hp => wellFormed_con ρ p hp
noncomputable def enDups : En := ⟨33, false, spP (fun p => p.sz < 2 ^ 36) prE fun p => .bool (dupB p)⟩
theorem enDups_ok (ρ : Nat → Int) : EnOk Try.prog ρ enDups := spP_ok fun p hp => duplicates_con ρ p hp
noncomputable def enRsl : En := ⟨34, false, spP (fun p => p.sz < 2 ^ 36) prE fun p => .int .i64 (resP p)⟩
theorem enRsl_ok (ρ : Nat → Int) : EnOk Try.prog ρ enRsl := spP_ok fun p hp => resolve_con ρ p hp
noncomputable def levChk : List En := [enLim, enWfP, enDups, enRsl]
theorem levChk_ok (ρ : Nat → Int) : EnsOk Try.prog ρ levChk := ⟨enLim_ok ρ, enWfP_ok ρ, enDups_ok ρ, enRsl_ok ρ, trivial⟩
set_option maxHeartbeats 8000000 in
theorem pcheck_con (ρ : Nat → Int) (p : Pr) (hz : p.sz < 2 ^ 36) : Con Try.prog ρ 14 (prE p) (.int .i64 (refCheck p)) := Con.lev fit (pls := pls) (levChk_ok ρ) (.cons (.agg p.pure) .nil) (.int _ _) (by
  have hw : Plain (cfgN pls levChk) 14 := plainN (fun _ => rfl) rfl
  have kl : ∀ H, WpCall Try.prog (cfgN pls levChk) 31 [.agg p.cells] H fun v H' => v = .bool (limP p) ∧ H' = H := fun H => WpCall.en (enc := prE) (out := fun p => .bool (limP p)) prE_inj (x := p) rfl hz
  have kw : ∀ H, WpCall Try.prog (cfgN pls levChk) 32 [.agg p.cells] H fun v H' => v = .bool (wfP p) ∧ H' = H := fun H => WpCall.en (enc := prE) (out := fun p => .bool (wfP p)) prE_inj (x := p) rfl hz
  have kd : ∀ H, WpCall Try.prog (cfgN pls levChk) 33 [.agg p.cells] H fun v H' => v = .bool (dupB p) ∧ H' = H := fun H => WpCall.en (enc := prE) (out := fun p => .bool (dupB p)) prE_inj (x := p) rfl hz
  have kr : ∀ H, WpCall Try.prog (cfgN pls levChk) 34 [.agg p.cells] H fun v H' => v = .int .i64 (resP p) ∧ H' = H := fun H => WpCall.en (enc := prE) (out := fun p => .int .i64 (resP p)) prE_inj (x := p) rfl hz
  rw [prE, ← proCheck_eq]
  refine WpCall.slim (M := 16) (rs := [.tmp 2]) (hw.call _) hw.ice hw.froz Try.func14 rfl rfl code14.2 rfl ?_; dsimp only [code14, envOf, Nat.reduceAdd]
  repeat' (first
     | (apply Rx.nl ?_; clear hK K) | apply Rx.o ?_ | (apply Rx.call ?_; first | refine Rx.k (kl _) ?_ | refine Rx.k (kw _) ?_ | refine Rx.k (kd _) ?_ | refine Rx.k (kr _) ?_) | (apply Rx.cd (fun hb hbp => ?_) (fun hb hbp => ?_) <;> try (cases hb; done)) | apply Wp.seq ?_ | (apply Wp.ops' fun K hK => ?_) | apply Wp.block ?_ | apply Rx.sk ?_ | apply Rx.rt ?_)
  all_goals
    all_goals (refine ⟨eI, _, eR, ?_⟩; try simp only [oneOr])
    rw [proCheck]
    (try simp only [Bool.not_eq_true', Bool.not_eq_false'] at *); simp only [Bool.true_eq_false, Bool.false_eq_true, *, decide_true, decide_false, Bool.false_or, Bool.or_false, Bool.true_or, Bool.or_true, Bool.false_and, Bool.and_false, Bool.true_and, Bool.and_true, Bool.not_true, Bool.not_false, if_true, if_false, Int.reduceEq])
end Go.Proofs.Ytjkmbpieknaekaa
namespace Go.Proofs.Ytjkmbpieknaekaa
set_option maxRecDepth 20000
set_option linter.unusedSimpArgs false
set_option linter.unusedVariables false
set_option linter.unusedSectionVars false
set_option linter.defProp false
open Go Go.Ab
/-- Fuel that is there. -/
def Fz (s : MS) : Prop := 0 ≤ s.fuel ∧ s.fuel ≤ 1000
/-- At most c outputs, and 200 for each unit of fuel. -/
def Cost (c : Nat) (s t : MS) : Prop := 0 ≤ t.fuel ∧ t.fuel ≤ s.fuel ∧ (t.out.length : Int) ≤ s.out.length + c + 200 * (s.fuel - t.fuel)
theorem Cost.fz {c : Nat} {s t : MS} (h : Cost c s t) (hs : Fz s) : Fz t := ⟨h.1, Int.le_trans h.2.1 hs.2⟩
theorem Cost.trans {c d : Nat} {s t u : MS} (h : Cost c s t) (h2 : Cost d t u) : Cost (c + d) s u := by
  unfold Cost at *; omega
theorem Cost.mono {c d : Nat} {s t : MS} (h : Cost c s t) (hc : c ≤ d) : Cost d s t := by
  unfold Cost at *; omega
theorem Cost.to_eq {s t u : MS} {c : Nat} (h : Cost c s t) (h1 : u.out = t.out) (h2 : u.fuel = t.fuel) : Cost c s u := by
  unfold Cost at *; rw [h1, h2]; exact h
theorem Cost.rfl' {c : Nat} {s : MS} (h : Fz s) : Cost c s s := by unfold Cost Fz at *; omega
theorem tickM_fuel {s : MS} (h : Fz s) : ((tickM s).fin = 0 ∧ s.fin = 0 ∧ 0 < s.fuel ∧ (tickM s).fuel = s.fuel - 1) ∨ ((tickM s).fin ≠ 0 ∧ (tickM s).fuel = s.fuel) := by
  obtain ⟨h1, h2⟩ := h
  unfold tickM
  by_cases e : s.fin ≠ 0
  · rw [if_pos e]; exact .inr ⟨e, rfl⟩
  rw [if_neg e]
  by_cases e2 : s.fuel = 0
  · rw [if_pos e2]; exact .inr ⟨by simp, rfl⟩
  rw [if_neg e2]
  have e' : s.fin = 0 := by simpa using e
  exact .inl ⟨e', e', by omega, by show w64 (s.fuel - 1) = _; unfold w64; rw [i64_id (by omega) (by omega)]⟩
theorem tickM_cost {s : MS} (h : Fz s) : Cost 0 s (tickM s) := by
  have ho := tickM_out s
  unfold Cost Fz at *
  rw [ho]
  rcases tickM_fuel h with ⟨_, _, a, b⟩ | ⟨_, b⟩ <;> rw [b] <;> omega
theorem storeM_fuel (nm : Nm) (a v : Int) (s : MS) : (storeM nm a v s).fuel = s.fuel := by
  unfold storeM
  simp only []
  split <;> split <;> simp [trapM_keep]
theorem outM_cost (v : Int) {s : MS} (h : Fz s) : Cost 1 s (outM v s) := by
  unfold outM
  split
  · unfold Cost Fz at *; simp; omega
  · exact Cost.rfl' h
theorem expr_cost {n : Nat} {x : Ex} {vs : List (Nm × Int)} {s : MS} {r : Int × MS} (he : exprM n x vs s = some r) (h : Fz s) : Cost 0 s r.2 := by
  have k := exprM_keep _ _ _ _ _ he
  exact (Cost.rfl' h).to_eq k.1 k.2.2
theorem args_cost {n : Nat} {l : List Ex} {vs : List (Nm × Int)} {s : MS} {r : List Int × MS} (he : argsM n l vs s = some r) (h : Fz s) : Cost 0 s r.2 := by
  have k := argsM_keep _ _ _ _ he
  exact (Cost.rfl' h).to_eq k.1 k.2.2.1
theorem costM (p : Pr) (fi : List (Nm × Int)) (hp : ∀ f ∈ p.funcs, nS f.body ≤ 200) : ∀ n : Nat,
    (∀ x vs s r, stmtM p fi n x vs s = some r → n1 x ≤ 200 → Fz s → Cost (n1 x) s r.2) ∧ (∀ l vs s r, stmtsM p fi n l vs s = some r → nS l ≤ 200 → Fz s → Cost (nS l) s r.2) ∧
    (∀ x vs s r, whileM p fi n x vs s = some r → n1 x ≤ 200 → Fz s → Cost 0 s r.2) ∧ (∀ k al s r, callM p fi n k al s = some r → Fz s → Cost 200 s r.2)
  | 0 => ⟨fun x vs s r h => by simp [stmtM] at h, fun l vs s r h => by simp [stmtsM] at h, fun x vs s r h => by simp [whileM] at h, fun k al s r h => by simp [callM] at h⟩
  | n + 1 => by
    obtain ⟨I1, I2, I3, I4⟩ := costM p fi hp n
    refine ⟨fun x vs s r h hn hz => ?_, fun l vs s r h hn hz => ?_, fun x vs s r h hn hz => ?_, fun k al s r h hz => ?_⟩
    · have hx := n1_eq x
      unfold stmtM at h
      split at h
      · simp only [Option.bind_eq_some_iff, Option.some.injEq] at h
        obtain ⟨r1, he, rfl⟩ := h
        exact (expr_cost he hz).mono (by omega)
      split at h
      · simp only [Option.bind_eq_some_iff, Option.some.injEq] at h
        obtain ⟨r1, he, r2, he2, rfl⟩ := h
        have a := expr_cost he hz
        have b := expr_cost he2 (a.fz hz)
        exact ((a.trans b).to_eq (storeM_out _ _ _ _) (storeM_fuel _ _ _ _)).mono (by omega)
      split at h
      · simp only [Option.bind_eq_some_iff] at h
        obtain ⟨r1, he, h⟩ := h
        have a := expr_cost he hz
        split at h
        · exact (a.trans (I2 _ _ _ _ h (by omega) (a.fz hz))).mono (by omega)
        · exact (a.trans (I2 _ _ _ _ h (by omega) (a.fz hz))).mono (by omega)
      split at h
      · exact (I3 _ _ _ _ h hn hz).mono (by omega)
      split at h
      · simp only [Option.bind_eq_some_iff, Option.some.injEq] at h
        obtain ⟨r1, he, rfl⟩ := h
        have a := expr_cost he hz
        exact (a.trans (outM_cost _ (a.fz hz))).mono (by omega)
      split at h
      · simp only [Option.bind_eq_some_iff] at h
        obtain ⟨r1, he, h⟩ := h
        have a := args_cost he hz
        have b := tickM_cost (a.fz hz)
        split at h
        · rename_i hf
          simp only [Option.bind_eq_some_iff, Option.some.injEq] at h
          obtain ⟨r2, hc, rfl⟩ := h
          have c := I4 _ _ _ _ hc (b.fz (a.fz hz))
          have ho := tickM_out r1.2
          rcases tickM_fuel (a.fz hz) with ⟨_, _, t1, t2⟩ | ⟨t1, _⟩
          · unfold Cost at a c ⊢
            rw [ho, t2] at c
            simp only
            omega
          · exact absurd hf t1
        · simp only [Option.some.injEq] at h; subst h; exact (a.trans b).mono (by omega)
      split at h
      · simp only [Option.some.injEq] at h; subst h
        exact ((Cost.rfl' hz).to_eq (trapM_keep _ _).1 (trapM_keep _ _).2.2)
      · simp only [Option.some.injEq] at h; subst h; exact Cost.rfl' hz
    · unfold stmtsM at h
      split at h
      · simp only [Option.some.injEq] at h; subst h; exact Cost.rfl' hz
      · rename_i x l
        rw [nS] at hn ⊢
        split at h
        · simp only [Option.some.injEq] at h; subst h; exact Cost.rfl' hz
        · simp only [Option.bind_eq_some_iff] at h
          obtain ⟨r1, he, h⟩ := h
          have a := I1 _ _ _ _ he (by omega) hz
          exact a.trans (I2 _ _ _ _ h (by omega) (a.fz hz))
    · have hx := n1_eq x
      unfold whileM at h
      simp only [Option.bind_eq_some_iff] at h
      obtain ⟨r1, he, h⟩ := h
      have a := expr_cost he hz
      split at h
      · have b := tickM_cost (a.fz hz)
        have ho := tickM_out r1.2
        split at h
        · rename_i hf
          simp only [Option.bind_eq_some_iff] at h
          obtain ⟨r2, hc, h⟩ := h
          have c := I2 _ _ _ _ hc (by omega) (b.fz (a.fz hz))
          have d := I3 _ _ _ _ h hn (c.fz (b.fz (a.fz hz)))
          rcases tickM_fuel (a.fz hz) with ⟨_, _, t1, t2⟩ | ⟨t1, _⟩
          · unfold Cost at a c d ⊢
            rw [ho, t2] at c
            omega
          · exact absurd hf t1
        · exact (a.trans (b.trans (I3 _ _ _ _ h hn (b.fz (a.fz hz))))).mono (by omega)
      · simp only [Option.some.injEq] at h; subst h; exact a
    · unfold callM at h
      split at h
      · simp at h
      · simp only [Option.bind_eq_some_iff] at h
        obtain ⟨f, hf, vs, hv, r1, hs, he⟩ := h
        have hb := hp f (List.mem_of_getElem? hf)
        have a := I2 _ _ _ _ hs hb hz
        exact ((a.mono hb).trans (expr_cost he (a.fz hz))).mono (by omega)
theorem depEs_get {l : List Ex} {i : Nat} {k : Ex} (h : l[i]? = some k) : 1 + depE k ≤ depEs l := by
  induction l generalizing i with
  | nil => simp at h
  | cons e es ih =>
    rw [depEs]
    cases i with
    | zero => simp at h; subst h; omega
    | succ i => have := ih (by simpa using h); omega
theorem wfEs_get {l : List Ex} {i : Nat} {k : Ex} (hw : wfEs l = true) (h : l[i]? = some k) : wfE k = true := by
  induction l generalizing i with
  | nil => simp at h
  | cons e es ih =>
    rw [wfEs, Bool.and_eq_true] at hw
    cases i with
    | zero => simp at h; subst h; exact hw.1
    | succ i => exact ih hw.2 (by simpa using h)
theorem get_of {α : Type} (l : List α) {i : Nat} (h : i < l.length) : ∃ k, l[i]? = some k := ⟨l[i], List.getElem?_eq_getElem h⟩
theorem exprM_ends : ∀ (n : Nat) (x : Ex) (vs : List (Nm × Int)) (s : MS), wfE x = true → depE x < n → ∃ r, exprM n x vs s = some r
  | 0, x, vs, s, hw, hd => by omega
  | n + 1, x, vs, s, hw, hd => by
    rw [wfE_eq, Bool.and_eq_true] at hw
    rw [depE_eq] at hd
    have go : ∀ i, i < x.kids.length → ∃ k, x.kids[i]? = some k ∧ ∀ s, ∃ r, exprM n k vs s = some r := fun i hi => by
      obtain ⟨k, hk⟩ := get_of x.kids hi
      have := depEs_get hk
      exact ⟨k, hk, fun s => exprM_ends n k vs s (wfEs_get hw.1 hk) (by omega)⟩
    have hx := hw.2
    rw [wfX] at hx
    unfold exprM
    by_cases e0 : s.fin ≠ 0
    · rw [if_pos e0]; exact ⟨_, rfl⟩
    rw [if_neg e0]
    by_cases e1 : x.kind = 1
    · rw [if_pos e1]; exact ⟨_, rfl⟩
    rw [if_neg e1] at hx ⊢
    by_cases e2 : x.kind = 2
    · rw [if_pos e2]; exact ⟨_, rfl⟩
    rw [if_neg e2] at hx ⊢
    by_cases e3 : x.kind = 3
    · rw [if_pos e3] at hx ⊢
      simp only [Bool.and_eq_true, decide_eq_true_eq] at hx
      obtain ⟨k, hk, hr⟩ := go 0 (by omega)
      obtain ⟨r, hr⟩ := hr s
      rw [hk, Option.bind_some, hr, Option.bind_some]
      split <;> exact ⟨_, rfl⟩
    rw [if_neg e3] at hx ⊢
    by_cases e5 : x.kind = 5
    · have e4 : ¬ x.kind = 4 := by omega
      rw [if_neg e4, if_pos e5] at hx
      rw [if_pos e5]
      simp only [Bool.and_eq_true, decide_eq_true_eq] at hx
      obtain ⟨k, hk, hr⟩ := go 0 (by omega)
      obtain ⟨k1, hk1, hr1⟩ := go 1 (by omega)
      obtain ⟨k2, hk2, hr2⟩ := go 2 (by omega)
      obtain ⟨r, hr⟩ := hr s
      rw [hk, Option.bind_some, hr, Option.bind_some]
      split
      · rw [hk1, Option.bind_some]; exact hr1 _
      · rw [hk2, Option.bind_some]; exact hr2 _
    rw [if_neg e5] at hx ⊢
    by_cases e4 : x.kind = 4
    · rw [if_pos e4] at hx
      simp only [Bool.and_eq_true, Bool.or_eq_true, decide_eq_true_eq] at hx
      have hl : x.kids.length = 2 ∨ x.kids.length = 1 := by rcases hx.2 with h | h <;> omega
      obtain ⟨k, hk, hr⟩ := go 0 (by omega)
      obtain ⟨r, hr⟩ := hr s
      rw [hk, Option.bind_some, hr, Option.bind_some]
      by_cases e6 : x.kids.length = 1
      · rw [if_pos e6]; exact ⟨_, rfl⟩
      · rw [if_neg e6]
        obtain ⟨k1, hk1, hr1⟩ := go 1 (by omega)
        obtain ⟨r1, hr1⟩ := hr1 r.2
        rw [hk1, Option.bind_some, hr1, Option.bind_some]
        split <;> exact ⟨_, rfl⟩
    · rw [if_neg e4] at hx; cases hx
theorem argsM_ends {n : Nat} (hn : 22 ≤ n) : ∀ (l : List Ex) (vs : List (Nm × Int)) (s : MS), wfEs l = true → (l.any fun e => decide ((20 : Int) < depE e)) = false → ∃ r, argsM n l vs s = some r
  | [], vs, s, _, _ => ⟨_, rfl⟩
  | x :: l, vs, s, hw, hd => by
    rw [wfEs, Bool.and_eq_true] at hw
    rw [List.any_cons, Bool.or_eq_false_iff, decide_eq_false_iff_not] at hd
    obtain ⟨r, hr⟩ := exprM_ends n x vs s hw.1 (by omega)
    obtain ⟨r2, hr2⟩ := argsM_ends hn l vs r.2 hw.2 hd.2
    rw [argsM, hr, Option.bind_some, hr2, Option.bind_some]
    exact ⟨_, rfl⟩
theorem bindV_ends : ∀ (l : List Nm) (al : List Int) (vs : List (Nm × Int)), l.length = al.length → ∃ r, bindV l al vs = some r
  | [], _, vs, _ => ⟨_, rfl⟩
  | nm :: l, [], vs, h => by simp at h
  | nm :: l, a :: al, vs, h => bindV_ends l al _ (by simpa using h)
/-- Statements that are in order: well-formed, not deep, what they use is defined. -/
structure EsOk (p : Pr) (l : List St) : Prop where
  wf : wfSs l = true
  dp : deepS l = false
  ch : ∃ c : Sc, c.p = p ∧ chkS c false l = true ∧ chkS c true l = true
structure EOk (p : Pr) (x : St) : Prop where
  wf : wfSt x = true
  dp : deep1 x = false
  ch : ∃ c : Sc, c.p = p ∧ chk1 c false x = true ∧ chk1 c true x = true
theorem EsOk.cons {p : Pr} {x : St} {l : List St} (h : EsOk p (x :: l)) : EOk p x ∧ EsOk p l := by
  obtain ⟨h1, h2, c, hc, h3, h4⟩ := h
  rw [wfSs, Bool.and_eq_true] at h1
  rw [deepS, Bool.or_eq_false_iff] at h2
  rw [chkS, Bool.and_eq_true] at h3 h4
  exact ⟨⟨h1.1, h2.1, c, hc, h3.1, h4.1⟩, ⟨h1.2, h2.2, c, hc, h3.2, h4.2⟩⟩
theorem EOk.subs {p : Pr} {x : St} (h : EOk p x) : EsOk p x.thn ∧ EsOk p x.els := by
  obtain ⟨h1, h2, c, hc, h3, h4⟩ := h
  rw [wfSt_eq] at h1
  rw [deep1_eq] at h2
  rw [chk1_eq] at h3 h4
  simp only [Bool.and_eq_true, Bool.or_eq_false_iff] at h1 h2 h3 h4
  exact ⟨⟨h1.1.2, h2.1.1.2, c, hc, h3.1.2, h4.1.2⟩, ⟨h1.2, h2.1.2, c, hc, h3.2, h4.2⟩⟩
theorem EOk.args {p : Pr} {x : St} (h : EOk p x) : wfEs x.args = true ∧ (x.args.any fun e => decide ((20 : Int) < depE e)) = false := by
  have h1 := h.wf
  have h2 := h.dp
  rw [wfSt_eq, wfStX] at h1
  rw [deep1_eq] at h2
  simp only [Bool.and_eq_true, Bool.or_eq_false_iff] at h1 h2
  exact ⟨h1.1.1.1, h2.2⟩
theorem EOk.value {p : Pr} {x : St} (h : EOk p x) (hk : x.kind = 1 ∨ x.kind = 2 ∨ x.kind = 3 ∨ x.kind = 4 ∨ x.kind = 5) : wfE x.value = true ∧ depE x.value < 22 := by
  have h1 := h.wf
  have h2 := h.dp
  rw [wfSt_eq, wfStX, wfStK] at h1
  rw [deep1_eq] at h2
  simp only [Bool.and_eq_true, Bool.or_eq_false_iff, decide_eq_false_iff_not] at h1 h2
  refine ⟨?_, by omega⟩
  have h3 := h1.1.1.2
  rcases hk with e | e | e | e | e <;> rw [e] at h3 <;> simp at h3 <;> simp [h3]
theorem EOk.at_ {p : Pr} {x : St} (h : EOk p x) (hk : x.kind = 2) : wfE x.at_ = true ∧ depE x.at_ < 22 := by
  have h1 := h.wf
  have h2 := h.dp
  rw [wfSt_eq, wfStX, wfStK] at h1
  rw [deep1_eq] at h2
  simp only [Bool.and_eq_true, Bool.or_eq_false_iff, decide_eq_false_iff_not] at h1 h2
  refine ⟨?_, by omega⟩
  have h3 := h1.1.1.2
  rw [hk] at h3; simp at h3; simp [h3]
theorem EOk.call {p : Pr} {x : St} (h : EOk p x) (hk : x.kind = 6) : 0 ≤ findF p.funcs x.to 0 ∧ x.args.length = parN p x.to := by
  obtain ⟨c, hc, h3, h4⟩ := h.ch
  rw [chk1_eq] at h3 h4
  simp only [Bool.and_eq_true, cond_true, cond_false, defStX, defStK, arK, hk, hc] at h3 h4
  simp at h3 h4
  exact ⟨h3.1.1.2.2, by have := h4.1.1; omega⟩
section
variable (p : Pr) (fi : List (Nm × Int))
def StsEnd (g m N : Nat) : Prop := ∀ n, N ≤ n → ∀ l vs s, EsOk p l → nS l ≤ m → Fz s → s.fuel ≤ g → ∃ r, stmtsM p fi n l vs s = some r
def CallEnd (g N : Nat) : Prop := ∀ n, N ≤ n → ∀ f k al s, 0 ≤ k → p.funcs[k.toNat]? = some f → f.params.length = al.length → Fz s → s.fuel + 1 ≤ g → ∃ r, callM p fi n k al s = some r
end
structure PrOk (p : Pr) (fi : List (Nm × Int)) : Prop where
  body : ∀ f ∈ p.funcs, EsOk p f.body ∧ nS f.body ≤ 200 ∧ wfE f.value = true ∧ depE f.value < 22
  fn : ∀ s, 0 ≤ findF p.funcs s 0 → lkV fi s = findF p.funcs s 0
theorem PrOk.cost {p : Pr} {fi : List (Nm × Int)} (h : PrOk p fi) : ∀ f ∈ p.funcs, nS f.body ≤ 200 := fun f hf => (h.body f hf).2.1
theorem while_ends {p : Pr} {fi : List (Nm × Int)} (hp : PrOk p fi) {g m N : Nat} (hm : m ≤ 200) (hN : 22 ≤ N) (hS : StsEnd p fi g m N) : ∀ (j : Nat), j ≤ g → ∀ n, N + j + 3 ≤ n → ∀ x vs s, EOk p x → x.kind = 4 → n1 x ≤ m + 1 → n1 x ≤ 200 → Fz s → s.fuel ≤ j → ∃ r, whileM p fi n x vs s = some r
  | j, hj, 0, hn => by omega
  | j, hj, n + 1, hn => fun x vs s hx hk h1 h2 hz hf => by
    have e1 := n1_eq x
    obtain ⟨hv, hd⟩ := hx.value (by omega)
    obtain ⟨r1, he⟩ := exprM_ends n x.value vs s hv (by omega)
    have a := expr_cost he hz
    have az := a.fz hz
    unfold whileM
    rw [he, Option.bind_some]
    split
    · split
      · rename_i ht
        rcases tickM_fuel az with ⟨_, _, t1, t2⟩ | ⟨t1, _⟩
        · have b := tickM_cost az
          have bz := b.fz az
          have af := a.2.1
          obtain ⟨r2, hc⟩ := hS n (by omega) x.thn vs (tickM r1.2) hx.subs.1 (by omega) bz (by omega)
          have c := (costM p fi hp.cost n).2.1 _ _ _ _ hc (by omega) bz
          have cf := c.2.1
          rw [hc, Option.bind_some]
          match j, hj, hf with
          | 0, _, hf => omega
          | j + 1, hj, hf => exact while_ends hp hm hN hS j (by omega) n (by omega) x _ _ hx hk h1 h2 (c.fz bz) (by omega)
        · exact absurd ht t1
      · rename_i ht
        match n, hn with
        | 0, hn => omega
        | n + 1, hn =>
          unfold whileM
          have hne : exprM n x.value vs (tickM r1.2) = some (0, tickM r1.2) := by
            match n, hn with
            | 0, hn => omega
            | n + 1, hn => unfold exprM; rw [if_pos ht]
          rw [hne, Option.bind_some, if_neg (by simp)]
          exact ⟨_, rfl⟩
    · exact ⟨_, rfl⟩
theorem stmt_ends {p : Pr} {fi : List (Nm × Int)} (hp : PrOk p fi) {g m N : Nat} (hm : m + 1 ≤ 200) (hN : 22 ≤ N) (hS : StsEnd p fi g m N) (hC : CallEnd p fi g N) : ∀ n, N + g + 4 ≤ n → ∀ x vs s, EOk p x → n1 x ≤ m + 1 → Fz s → s.fuel ≤ g → ∃ r, stmtM p fi n x vs s = some r
  | 0, hn => by omega
  | n + 1, hn => fun x vs s hx h1 hz hf => by
    have e1 := n1_eq x
    unfold stmtM
    by_cases k1 : x.kind = 1
    · rw [if_pos k1]
      obtain ⟨hv, hd⟩ := hx.value (by omega)
      obtain ⟨r1, he⟩ := exprM_ends n x.value vs s hv (by omega)
      rw [he]; exact ⟨_, rfl⟩
    rw [if_neg k1]
    by_cases k2 : x.kind = 2
    · rw [if_pos k2]
      obtain ⟨ha, hda⟩ := hx.at_ k2
      obtain ⟨hv, hd⟩ := hx.value (by omega)
      obtain ⟨r1, he⟩ := exprM_ends n x.at_ vs s ha (by omega)
      obtain ⟨r2, he2⟩ := exprM_ends n x.value vs r1.2 hv (by omega)
      rw [he, Option.bind_some, he2]; exact ⟨_, rfl⟩
    rw [if_neg k2]
    by_cases k3 : x.kind = 3
    · rw [if_pos k3]
      obtain ⟨hv, hd⟩ := hx.value (by omega)
      obtain ⟨r1, he⟩ := exprM_ends n x.value vs s hv (by omega)
      have a := expr_cost he hz
      have az := a.fz hz
      have af := a.2.1
      rw [he, Option.bind_some]
      split
      · exact hS n (by omega) _ _ _ hx.subs.1 (by omega) az (by omega)
      · exact hS n (by omega) _ _ _ hx.subs.2 (by omega) az (by omega)
    rw [if_neg k3]
    by_cases k4 : x.kind = 4
    · rw [if_pos k4]
      exact while_ends hp (by omega) hN hS g (Nat.le_refl _) n (by omega) x vs s hx k4 h1 (by omega) hz hf
    rw [if_neg k4]
    by_cases k5 : x.kind = 5
    · rw [if_pos k5]
      obtain ⟨hv, hd⟩ := hx.value (by omega)
      obtain ⟨r1, he⟩ := exprM_ends n x.value vs s hv (by omega)
      rw [he]; exact ⟨_, rfl⟩
    rw [if_neg k5]
    by_cases k6 : x.kind = 6
    · rw [if_pos k6]
      obtain ⟨hw, hd⟩ := hx.args
      obtain ⟨r1, he⟩ := argsM_ends (show 22 ≤ n by omega) x.args vs s hw hd
      have a := args_cost he hz
      have az := a.fz hz
      have af := a.2.1
      have hl := (argsM_keep _ _ _ _ he).2.2.2
      rw [he, Option.bind_some]
      split
      · rename_i ht
        rcases tickM_fuel az with ⟨_, _, t1, t2⟩ | ⟨t1, _⟩
        · obtain ⟨c1, c2⟩ := hx.call k6
          obtain ⟨i, hi, hfe⟩ := findF_lt p.funcs x.to 0 c1
          have hlk := hp.fn x.to c1
          obtain ⟨f, hfn⟩ := get_of p.funcs hi
          have hfe' : findF p.funcs x.to 0 = (i : Int) := by simpa using hfe
          have hpar : f.params.length = r1.1.length := by
            rw [hl, c2, parN, hfe', Int.toNat_natCast, hfn]; rfl
          obtain ⟨r2, hc⟩ := hC n (by omega) f (lkV fi x.to) r1.1 (tickM r1.2) (by omega) (by rw [hlk, hfe', Int.toNat_natCast]; exact hfn) hpar ((tickM_cost az).fz az) (by omega)
          rw [hc]; exact ⟨_, rfl⟩
        · exact absurd ht t1
      · exact ⟨_, rfl⟩
    rw [if_neg k6]
    split <;> exact ⟨_, rfl⟩
theorem sts_ends {p : Pr} {fi : List (Nm × Int)} (hp : PrOk p fi) {g N : Nat} (hN : 22 ≤ N) (hC : CallEnd p fi g N) : ∀ m, m ≤ 200 → ∃ M, N ≤ M ∧ StsEnd p fi g m M
  | 0, _ => ⟨N, Nat.le_refl _, fun n hn l vs s hl h1 hz hf => by
    cases l with
    | nil =>
      cases n with
      | zero => omega
      | succ n => exact ⟨_, by unfold stmtsM; rfl⟩
    | cons x l => have := n1_eq x; rw [nS] at h1; omega⟩
  | m + 1, hm => by
    obtain ⟨M, hM, hS⟩ := sts_ends hp hN hC m (by omega)
    refine ⟨M + g + 6, by omega, fun n hn l vs s hl h1 hz hf => ?_⟩
    cases n with
    | zero => omega
    | succ n =>
      cases l with
      | nil => exact ⟨_, by unfold stmtsM; rfl⟩
      | cons x l =>
        obtain ⟨hx, hl⟩ := hl.cons
        have e1 := n1_eq x
        rw [nS] at h1
        unfold stmtsM
        simp only
        split
        · exact ⟨_, rfl⟩
        · have hC' : CallEnd p fi g M := fun n hn => hC n (by omega)
          obtain ⟨r1, he⟩ := stmt_ends hp hm (by omega) hS hC' n (by omega) x vs s hx (by omega) hz hf
          have a := (costM p fi hp.cost n).1 _ _ _ _ he (by omega) hz
          have af := a.2.1
          rw [he, Option.bind_some]
          exact hS n (by omega) l _ _ hl (by omega) (a.fz hz) (by omega)
theorem call_ends {p : Pr} {fi : List (Nm × Int)} (hp : PrOk p fi) : ∀ g, ∃ N, 22 ≤ N ∧ CallEnd p fi g N
  | 0 => ⟨22, Nat.le_refl _, fun n hn f k al s h0 hf hl hz hg => by have := hz.1; simp at hg; omega⟩
  | g + 1 => by
    obtain ⟨N, hN, hC⟩ := call_ends hp g
    obtain ⟨M, hM, hS⟩ := sts_ends hp hN hC 200 (Nat.le_refl _)
    refine ⟨M + 1, by omega, fun n hn f k al s h0 hf hl hz hg => ?_⟩
    cases n with
    | zero => omega
    | succ n =>
      obtain ⟨b1, b2, b3, b4⟩ := hp.body f (List.mem_of_getElem? hf)
      obtain ⟨vs, hv⟩ := bindV_ends f.params al [] hl
      obtain ⟨r, hr⟩ := hS n (by omega) f.body vs s b1 b2 hz (by omega)
      obtain ⟨r2, hr2⟩ := exprM_ends n f.value r.1 r.2 b3 (by omega)
      unfold callM
      rw [if_neg (by omega), hf, Option.bind_some, hv, Option.bind_some, hr, Option.bind_some]
      exact ⟨r2, hr2⟩
end Go.Proofs.Ytjkmbpieknaekaa
namespace Go.Proofs.Ytjkmbpieknaekaa
set_option maxRecDepth 20000
set_option linter.unusedSimpArgs false
set_option linter.unusedVariables false
set_option linter.unusedSectionVars false
set_option linter.defProp false
open Go Go.Ab
theorem fnIx_not (s : Nm) : ∀ (l : List Fu) (i : Nat) (m : List (Nm × Int)), hasS (l.map (·.name)) s = false → lkV (fnIx l i m) s = lkV m s
  | [], _, m, _ => rfl
  | f :: l, i, m, h => by
    rw [List.map_cons, show f.name :: l.map (·.name) = [f.name] ++ l.map (·.name) from rfl, hasS_append, hasS_one, Bool.or_eq_false_iff, decide_eq_false_iff_not] at h
    rw [fnIx, fnIx_not s l _ _ h.2, lk_set, if_neg h.1]
theorem fnIx_find (s : Nm) : ∀ (l : List Fu) (seen : List (List UInt8)) (i : Nat) (m : List (Nm × Int)), dupFrom seen (l.map (·.name)) = false → 0 ≤ findF l s i → lkV (fnIx l i m) s = findF l s i
  | [], _, i, m, _, h => by simp [findF] at h
  | f :: l, seen, i, m, hn, h => by
    rw [List.map_cons, dupFrom, Bool.or_eq_false_iff] at hn
    rw [findF] at h ⊢
    by_cases e : f.name = s
    · have h3 : hasS (l.map (·.name)) s = false := dupFrom_not _ _ hn.2 s (by rw [hasS_append, hasS_one, decide_eq_true e.symm, Bool.or_true])
      rw [if_pos e, fnIx, fnIx_not s l _ _ h3, lk_set, if_pos e.symm]
    · rw [if_neg e] at h ⊢
      rw [fnIx]
      exact fnIx_find s l (seen ++ [f.name]) (i + 1) _ hn.2 h
/-- What a valid program is. -/
structure Valid (p : Pr) : Prop where
  ex : exB p = false
  wf : wfP p = true
  du : dupP p = false
  un : p.funcs.any (undFn p) = false
  ba : p.funcs.any (badFn p) = false
theorem valid_of {p : Pr} (h : refCheck p = 0) : Valid p := by
  rw [refCheck] at h
  by_cases h1 : exB p = true
  · rw [if_pos h1] at h; omega
  rw [if_neg h1] at h
  by_cases h2 : wfP p = false
  · rw [if_pos h2] at h; omega
  rw [if_neg h2] at h
  by_cases h3 : dupP p = true
  · rw [if_pos h3] at h; omega
  rw [if_neg h3] at h
  by_cases h4 : p.funcs.any (undFn p) = true
  · rw [if_pos h4] at h; omega
  rw [if_neg h4] at h
  by_cases h5 : p.funcs.any (badFn p) = true
  · rw [if_pos h5] at h; omega
  exact ⟨by simpa using h1, by simpa using h2, by simpa using h3, by simpa using h4, by simpa using h5⟩
theorem Valid.names {p : Pr} (h : Valid p) : dupFrom [] (arNames p) = false ∧ dupFrom [] (fnNms p) = false := by
  have hd := h.du
  rw [dupP, dupFns_eq, Bool.or_eq_false_iff, Bool.or_eq_false_iff] at hd
  exact ⟨hd.1, hd.2.1⟩
theorem Valid.ok {p : Pr} (h : Valid p) : PrOk p (fnIx p.funcs 0 []) := by
  refine ⟨fun f hf => ?_, fun s hs => fnIx_find s p.funcs [] 0 [] h.names.2 hs⟩
  have h1 := h.ex
  rw [exB, Bool.or_eq_false_iff] at h1
  have h1 := List.any_eq_false.1 h1.2 f hf
  have h2 := h.wf
  rw [wfP, Bool.and_eq_true] at h2
  have h2 := List.all_eq_true.1 h2.2 f hf
  have h4 := List.any_eq_false.1 h.un f hf
  have h5 := List.any_eq_false.1 h.ba f hf
  simp only [exFn, Bool.not_eq_true, Bool.or_eq_false_iff, decide_eq_false_iff_not] at h1
  simp only [wfFn, Bool.and_eq_true] at h2
  simp only [undFn, Bool.not_eq_true, Bool.not_eq_false', Bool.and_eq_true] at h4
  simp only [badFn, Bool.not_eq_true, Bool.not_eq_false'] at h5
  exact ⟨⟨h2.1.2, h1.1.2, scOf p f, rfl, h4.1, h5⟩, by omega, h2.2, by omega⟩
theorem Valid.arr {p : Pr} (h : Valid p) : ∀ a ∈ p.arrays, 0 ≤ a.len ∧ a.len ≤ 16 := fun a ha => by
  have h1 := h.ex
  rw [exB, Bool.or_eq_false_iff, Bool.or_eq_false_iff] at h1
  have h1 := List.any_eq_false.1 h1.1.2 a ha
  simp only [exAr, Bool.not_eq_true, Bool.or_eq_false_iff, decide_eq_false_iff_not] at h1
  omega
theorem nodup_of : ∀ (l seen : List (List UInt8)), dupFrom seen l = false → l.Nodup
  | [], _, _ => List.nodup_nil
  | s :: l, seen, h => by
    rw [dupFrom, Bool.or_eq_false_iff] at h
    refine List.nodup_cons.2 ⟨fun hm => ?_, nodup_of l _ h.2⟩
    have := dupFrom_not _ _ h.2 s (by rw [hasS_append, hasS_one, decide_eq_true rfl, Bool.or_true])
    rw [hasS, List.any_eq_false] at this
    exact this s hm (by simp)
theorem Valid.nodup {p : Pr} (h : Valid p) : (p.arrays.map (·.name)).Nodup := nodup_of _ _ h.names.1
/-- A run of a valid program: it ends, with few outputs. -/
theorem Valid.run {p : Pr} (h : Valid p) {k : Int} {f : Fu} {al : List Int} {fuel : Int} (h0 : 0 ≤ k) (hf : p.funcs[k.toNat]? = some f) (hl : f.params.length = al.length) (hz0 : 0 ≤ fuel) (hz1 : fuel ≤ 1000) :
    ∃ n r, callM p (fnIx p.funcs 0 []) n k al (startM p fuel) = some r ∧ r.2.out.length ≤ 300000 := by
  obtain ⟨N, hN, hC⟩ := call_ends h.ok 1001
  have hz : Fz (startM p fuel) := ⟨hz0, hz1⟩
  obtain ⟨r, hr⟩ := hC N (Nat.le_refl _) f k al (startM p fuel) h0 hf hl hz (by show fuel + 1 ≤ _; omega)
  refine ⟨N, r, hr, ?_⟩
  have c := (costM p _ h.ok.cost N).2.2.2 _ _ _ _ hr hz
  have e1 : (startM p fuel).out.length = 0 := rfl
  have e2 : (startM p fuel).fuel = fuel := rfl
  unfold Cost at c
  rw [e1, e2] at c
  omega
end Go.Proofs.Ytjkmbpieknaekaa
namespace Go.Proofs.Ytjkmbpieknaekaa
set_option maxRecDepth 20000
set_option linter.unusedSimpArgs false
set_option linter.unusedVariables false
set_option linter.unusedSectionVars false
set_option linter.defProp false
open Go Go.Ab
theorem con_of_wk {cfg : Cfg} (fit : Fit Try.prog) {ρ : Nat → Int} (hD : DecOk cfg.dec ρ) (hc : ∀ f args r, cfg.call f args = some r → Con Try.prog ρ f args r) {g : FuncId} {args : List AV} {r : AV} {m n : Nat}
    (hp : PureL args) (h : WpCall Try.prog cfg g args H0 fun v H' => ∃ u, iceV H' m v = some u ∧ wkN n u = r) : Con Try.prog ρ g args r := by
  unfold WpCall at h
  obtain ⟨v, H', h1, u, h2, h3⟩ := h
  refine Con.wk' n (Con.of_made (m := m) fit hD hc hp ?_) h3
  unfold WpCall
  exact ⟨v, H', h1, h2⟩
structure RunA where
  p : Pr
  nm : Nm
  al : List Int
  fuel : Int
def intRows (l : List Int) : AV := .lst (l.map fun n => [.int .i64 n])
def runE (x : RunA) : List AV := [.agg x.p.cells, .str x.nm, intRows x.al, .int .i64 x.fuel]
theorem intRows_inj' : ∀ {a b : List Int}, (a.map fun n => [AV.int .i64 n]) = (b.map fun n => [AV.int .i64 n]) → a = b
  | [], [], _ => rfl
  | [], _ :: _, h => by simp at h
  | _ :: _, [], h => by simp at h
  | x :: a, y :: b, h => by
    simp only [List.map_cons, List.cons.injEq, AV.int.injEq, and_true, true_and] at h
    rw [h.1, intRows_inj' h.2]
theorem intRows_inj {a b : List Int} (h : intRows a = intRows b) : a = b := intRows_inj' (by simpa only [intRows, AV.lst.injEq] using h)
theorem runE_inj (x y : RunA) (h : runE x = runE y) : x = y := by
  obtain ⟨p, nm, al, fuel⟩ := x
  obtain ⟨p', nm', al', fuel'⟩ := y
  simp only [runE, List.cons.injEq, AV.agg.injEq, AV.str.injEq, AV.int.injEq, and_true, true_and] at h
  obtain ⟨h1, rfl, h3, rfl⟩ := h
  rw [Pr.inj h1, intRows_inj h3]
def fixOf (p : Pr) : List (Nm × Int) := fnIx p.funcs 0 []
/-- A call that runs: a function of a valid program, arguments asx many asx parameters. -/
structure RunA.ok (x : RunA) : Prop where
  v : Valid x.p
  sz : x.p.sz < 2 ^ 36
  f0 : 0 ≤ x.fuel
  f1 : x.fuel ≤ 1000
  has : hasV (fixOf x.p) x.nm = true
  k0 : 0 ≤ lkV (fixOf x.p) x.nm
  fn : ∃ f, x.p.funcs[(lkV (fixOf x.p) x.nm).toNat]? = some f ∧ f.params.length = x.al.length
  al : x.al.length < 2 ^ 36
theorem RunA.ok.ends {x : RunA} (h : x.ok) : ∃ r : Int × MS, ∃ n, callM x.p (fixOf x.p) n (lkV (fixOf x.p) x.nm) x.al (startM x.p x.fuel) = some r ∧ r.2.out.length ≤ 300000 := by
  obtain ⟨f, h1, h2⟩ := h.fn
  obtain ⟨n, r, h3⟩ := h.v.run h.k0 h1 h2 h.f0 h.f1
  exact ⟨r, n, h3⟩
noncomputable def runG (x : RunA) : Oc := open Classical in
  if h : ∃ r : Int × MS, ∃ n, callM x.p (fixOf x.p) n (lkV (fixOf x.p) x.nm) x.al (startM x.p x.fuel) = some r ∧ r.2.out.length ≤ 300000 then endM (Classical.choose h) else ⟨0, 0, [], 0⟩
def ocV (o : Oc) : AV := .agg [.int .i64 o.kind, .int .i64 o.code, intRows o.out, .int .i64 o.value]
theorem iceL_ints (H : Hp) (n : Nat) : ∀ l : List Int, iceL (iceV H (n + 1)) (ints l) = some (ints l)
  | [] => rfl
  | a :: l => by
    have := iceL_ints H n l
    have e : iceV H (n + 1) (.int .i64 a) = some (.int .i64 a) := rfl
    simp only [ints, List.map_cons, iceL, e] at this ⊢
    rw [this]
theorem chunk_ints (l : List Int) : chunk 1 l.length (ints l) = l.map fun n => [AV.int .i64 n] := by
  induction l with
  | nil => rfl
  | cons a l ih => simp only [ints, List.map_cons, List.length_cons, chunk] at ih ⊢; simp [ih]
theorem IntsR.iceV {H : Hp} {v : AV} {l : List Int} (h : IntsR H v l) (n : Nat) : ∃ u, iceV H (n + 2) v = some u ∧ ∀ k, wkN (k + 2) u = intRows l := by
  rcases h with ⟨rfl, rfl⟩ | ⟨r, rfl, h2⟩
  · exact ⟨.nilS, rfl, fun k => rfl⟩
  · refine ⟨intRows l, ?_, fun k => ?_⟩
    · have e : Ab.iceV H (n + 2) (.sl r 0 l.length 1) = match H.get r with
        | some (.cells cs _ _) => match iceL (Ab.iceV H (n + 1)) ((cs.drop 0).take (l.length * 1)) with
          | some l' => if l'.length = l.length * 1 then some (.lst (chunk 1 l.length l')) else none
          | none => none
        | _ => none := rfl
      rw [e, h2]
      simp only [List.drop_zero, Nat.mul_one]
      rw [List.take_of_length_le (by simp [ints]), iceL_ints]
      simp only [ints_len, if_true, chunk_ints]
      rfl
    · show AV.lst ((l.map fun n => [AV.int .i64 n]).map fun row => row.map (wkN (k + 1))) = _
      rw [List.map_map]; rfl
noncomputable def enChkQ : En := ⟨14, false, spP (fun p => p.sz < 2 ^ 36) prE fun p => .int .i64 (refCheck p)⟩
theorem enChkQ_ok (ρ : Nat → Int) : EnOk Try.prog ρ enChkQ := spP_ok fun p hp => pcheck_con ρ p hp
theorem stdQ : Std (cfgN pls [enChkQ]) where
  plain f hf := by
    have hne : Nat.beq 14 f = false := by
      cases hb : Nat.beq 14 f with
      | false => rfl
      | true => rw [← Nat.eq_of_beq_eq_true hb] at hf; exact absurd hf (by decide)
    refine plainN (fun args => ?_) ?_
    · simp only [lookN, enChkQ, hne]
    · simp only [iceN, enChkQ, hne]
  keep _ := rfl
  plan := rfl
theorem run_con (ρ : Nat → Int) (x : RunA) (hx : x.ok) (hv0 : refCheck x.p = 0) : Con Try.prog ρ 21 (runE x) (ocV (runG x)) := by
  have he := hx.ends
  have hr : runG x = endM (Classical.choose he) := by unfold runG; rw [dif_pos he]
  obtain ⟨n, hc, ho⟩ := Classical.choose_spec he
  obtain ⟨f, hf, hl⟩ := hx.fn
  rw [hr]
  refine con_of_wk (m := 4) (n := 4) (cfg := cfgN pls [enChkQ]) fit (noDec ρ) (fun g ar r hg => EnsOk.look (l := [enChkQ]) ⟨enChkQ_ok ρ, trivial⟩ g ar r hg) ?_ ?_
  · exact .cons (.agg x.p.pure) (.cons (.str _) (.cons (.map fun n _ => .cons (.int _ _) .nil) (.cons (.int _ _) .nil)))
  · have hsz := hx.sz
    have key := run_ok stdQ x.p (by omega) hx.v.nodup hx.v.arr (fun H => WpCall.mono (fun v H' h => ⟨by rw [h.1, hv0], by rw [h.2]; exact FrB.refl _ _⟩) (WpCall.en (enc := prE) (ok := fun p => p.sz < 2 ^ 36) (out := fun p => .int .i64 (refCheck p)) prE_inj (x := x.p) rfl hsz)) x.nm x.al x.fuel hx.f0 hx.f1 hx.has hx.k0 hf hl hc (by omega) (by have := hx.al; omega) (intRows x.al) H0 (.inr (.inl rfl)) (fun b hb => by simp [intRows, slB] at hb)
    refine WpCall.mono (fun v H' h => ?_) key
    obtain ⟨⟨ov, rfl, h2, _⟩, _⟩ := h
    obtain ⟨u, h3, h4⟩ := IntsR.iceV h2 1
    refine ⟨.agg [.int .i64 (endM (Classical.choose he)).kind, .int .i64 (endM (Classical.choose he)).code, u, .int .i64 (endM (Classical.choose he)).value], ?_, ?_⟩
    · have e : ∀ a b c : Int, Ab.iceV H' 4 (.agg [.int .i64 a, .int .i64 b, ov, .int .i64 c]) = (match iceL (Ab.iceV H' 3) [.int .i64 a, .int .i64 b, ov, .int .i64 c] with | some l => some (.agg l) | none => none) := fun a b c => rfl
      rw [e]
      simp only [iceL, h3]
      rfl
    · show AV.agg [_, _, wkN 3 u, _] = _
      rw [h4 1]; rfl
theorem Valid.check {p : Pr} (h : Valid p) : refCheck p = 0 := by rw [refCheck, h.ex, h.wf, h.du, h.un, h.ba]; rfl
noncomputable def enRun : En := ⟨21, true, spP (fun x => x.ok) runE fun x => ocV (runG x)⟩
theorem enRun_ok (ρ : Nat → Int) : EnOk Try.prog ρ enRun := spP_ok fun x hx => run_con ρ x hx hx.v.check
end Go.Proofs.Ytjkmbpieknaekaa
namespace Go.Proofs.Ytjkmbpieknaekaa
set_option maxRecDepth 20000
set_option linter.unusedSimpArgs false
set_option linter.unusedVariables false
set_option linter.unusedSectionVars false
set_option linter.defProp false
set_option maxRecDepth 20000
open Go Go.Ab
namespace tySameO
def tyF := And.intro @tq2 (And.intro @tq3 (And.intro @tq52 (@tq56)))
end tySameO
open tySameO
noncomputable def code22 : { c : SC // slim 52 (Try.f22.body.getD .skip) = c } := by
  refine ⟨?_, ?_⟩
  rotate_left
  · simp only [Try.f22, Option.getD_some, slim, slimR, slimL, slimD, slimG, Nat.blt, Nat.ble]
    rfl
theorem intRows_pure (l : List Int) : PureA (intRows l) := .map fun n _ => .cons (.int _ _) .nil
theorem ocV_pure (o : Oc) : PureA (ocV o) := .agg (.cons (.int _ _) (.cons (.int _ _) (.cons (intRows_pure _) (.cons (.int _ _) .nil))))
set_option maxRecDepth 100000 in
set_option maxHeartbeats 4000000 in
theorem same_con (ρ : Nat → Int) (o : Oc) (hl : o.out.length < 2 ^ 60) : Con Try.prog ρ 22 [ocV o, ocV o] (.bool true) := Con.lev fit (pls := pls) (l := []) trivial (.cons (ocV_pure o) (.cons (ocV_pure o) .nil)) (.bool _) (by
  have hw := plain0 22
  obtain ⟨k, c, out, val⟩ := o
  rw [ocV, intRows]
  simp only at hl ⊢
  have hlen : (out.map fun n => [AV.int .i64 n]).length = out.length := by simp
  refine WpCall.slim (M := 52) (rs := [.tmp 4]) (hw.call _) hw.ice hw.froz Try.func22 rfl rfl code22.2 rfl ?_; dsimp only [code22, envOf, Nat.reduceAdd]
  repeat' (first
     | (apply Rx.nl ?_; clear hK K) | apply Rx.o ?_ | apply Rx.gu ?_ | (apply Rx.gd (fun hg hgp => ?_) (fun hg hgp => ?_) <;> try (cases hg; done)) | (apply Rx.cd (fun hb hbp => ?_) (fun hb hbp => ?_) <;> try (cases hb; done)) | apply Wp.seq ?_ | (apply Wp.ops' fun K hK => ?_) | (apply Rx.dT 6 [(1, 11), (4, 11), (6, 11), (9, 11)] fun K hK => ?_) | (apply Rx.nq ?_; try intro _) | (apply Rx.nt ?_ ?_ <;> clear hK K) | apply WpT.step ?_ | apply WpT.step0 rfl ?_ | apply Rx.gv ?_ | (apply Rx.gt (fun hg hgp => ?_) (fun hg hgp => ?_) <;> try (cases hg; done)) | apply Wp.block ?_ | apply Rx.sk ?_ | apply Rx.rt ?_ | apply Rx.xt ?_)
  refine Wp.forI [2, 3] [0, 1] 5 out.length (fun i E H => True) eE trivial ?_
  rintro i E H2 hi hcE hrH hnH hsI hJ
  (try simp only [forall_cons, forall_nil, and_true, sB, sO, Nat.reduceBEq, Nat.reduceAdd, Nat.reduceLeDiff, tyF, *] at hcE)
  (try simp only [forall_cons, forall_nil, and_true, sB, sO, Nat.reduceBEq, Nat.reduceAdd, Nat.reduceLeDiff, tyF, *] at hrH)
  (try simp only [Hp.next_alloc, Hp.next_set, H0_next, Nat.zero_add, Nat.reduceAdd] at hnH)
  repeat' (first
     | (apply Rx.nl ?_; clear hK K) | apply Rx.o ?_ | apply Rx.gu ?_ | (apply Rx.gd (fun hg hgp => ?_) (fun hg hgp => ?_) <;> try (cases hg; done)) | (apply Rx.cd (fun hb hbp => ?_) (fun hb hbp => ?_) <;> try (cases hb; done)) | apply Wp.seq ?_ | (apply Wp.ops' fun K hK => ?_) | (apply Rx.dT 6 [(1, 11), (4, 11), (6, 11), (9, 11)] fun K hK => ?_) | (apply Rx.nq ?_; try intro _) | (apply Rx.nt ?_ ?_ <;> clear hK K) | apply WpT.step ?_ | apply WpT.step0 rfl ?_ | apply Rx.gv ?_ | (apply Rx.gt (fun hg hgp => ?_) (fun hg hgp => ?_) <;> try (cases hg; done)) | apply Wp.block ?_ | apply Rx.sk ?_ | apply Rx.rt ?_ | apply Rx.xt ?_)
  · have hlt : i < out.length := by simpa using hb
    have hgx : (out.map fun n => [AV.int .i64 n])[i]? = some [.int .i64 out[i]] := by rw [List.getElem?_map, List.getElem?_eq_getElem hlt]; rfl
    obtain ⟨g0, g1⟩ := hrH
    repeat' (first
       | (apply Rx.nl ?_; clear hK K) | apply Rx.o ?_ | apply Rx.gu ?_ | (apply Rx.gd (fun hg hgp => ?_) (fun hg hgp => ?_) <;> try (cases hg; done)) | (apply Rx.cd (fun hb hbp => ?_) (fun hb hbp => ?_) <;> try (cases hb; done)) | apply Wp.seq ?_ | (apply Wp.ops' fun K hK => ?_) | (apply Rx.dT 6 [(1, 11), (4, 11), (6, 11), (9, 11)] fun K hK => ?_) | (apply Rx.nq ?_; try intro _) | (apply Rx.nt ?_ ?_ <;> clear hK K) | apply WpT.step ?_ | apply WpT.step0 rfl ?_ | apply Rx.gv ?_ | (apply Rx.gt (fun hg hgp => ?_) (fun hg hgp => ?_) <;> try (cases hg; done)) | apply Wp.block ?_ | apply Rx.sk ?_ | apply Rx.rt ?_ | apply Rx.xt ?_)
    · exact eK
    · refine ⟨by omega, eL, eL, eN, (by simp only [sB, Nat.reduceBEq, *]; exact i64_succ (n := out.length) (by omega) (by omega)), ?_⟩
      trivial
  · all_goals (refine ⟨eI, _, eR, ?_⟩; try simp only [oneOr]))
end Go.Proofs.Ytjkmbpieknaekaa
namespace Go.Proofs.Ytjkmbpieknaekaa
set_option maxRecDepth 20000
set_option linter.unusedSimpArgs false
set_option linter.unusedVariables false
set_option linter.unusedSectionVars false
set_option linter.defProp false
set_option maxRecDepth 20000
open Go Go.Ab
namespace tyGX
def tyF := And.intro @tq2 (@tq52)
end tyGX
open tyGX
noncomputable def code19 : { c : SC // slim 14 (Try.f19.body.getD .skip) = c } := by
  refine ⟨?_, ?_⟩
  rotate_left
  · simp only [Try.f19, Option.getD_some, slim, slimR, slimL, slimD, slimG, Nat.blt, Nat.ble]
    rfl
noncomputable def code20 : { c : SC // slim 5 (Try.f20.body.getD .skip) = c } := by
  refine ⟨?_, ?_⟩
  rotate_left
  · simp only [Try.f20, Option.getD_some, slim, slimR, slimL, slimD, slimG, Nat.blt, Nat.ble]
    rfl
theorem con_of_wk2 {cfg : Cfg} (fit : Fit Try.prog) {ρ : Nat → Int} (hD : DecOk cfg.dec ρ) (hc : ∀ f args r, cfg.call f args = some r → Con Try.prog ρ f args r) {g : FuncId} {args : List AV} {r : AV} {n : Nat}
    (hp : PureL args) (h : WpCall Try.prog cfg g args H0 fun v H' => ∃ m u, iceV H' m v = some u ∧ wkN n u = r) : Con Try.prog ρ g args r := by
  unfold WpCall at h
  obtain ⟨v, H', h1, m, u, h2, h3⟩ := h
  refine Con.wk' n (Con.of_made (m := m) fit hD hc hp ?_) h3
  unfold WpCall
  exact ⟨v, H', h1, h2⟩
theorem genP_valid (l : List Int) : Valid (genP l) := valid_of (genP_ok l)
theorem program_con (ρ : Nat → Int) (l : List Int) (hl : l.length < 2 ^ 63) : Con Try.prog ρ 12 [intRows l] (.agg (genP l).cells) := by
  refine con_of_wk2 (n := 60) (cfg := cfgN pls levG) fit (noDec ρ) (fun g ar r hg => EnsOk.look (l := levG) (levG_ok ρ) g ar r hg) (.cons (intRows_pure l) .nil) ?_
  refine WpCall.mono (fun v H' h => ?_) (program_wp stAll l hl H0)
  obtain ⟨ra, rf, x, y, cf, cg, rfl, hP, _, _⟩ := h
  obtain ⟨us, h1, h2⟩ := hP.cells
  have h3 : Ic (fun q => H0.next ≤ q) 100 H' (.agg [.sl ra 0 2 2, .sl rf 0 2 9]) (.agg us) := Ic.up (n := 16) ⟨us, h1, rfl⟩ (by omega)
  obtain ⟨m0, hm⟩ := Ic.iceV h3
  refine ⟨m0, .agg us, hm m0 (Nat.le_refl _), ?_⟩
  show AV.agg (us.map (wkN 59)) = _
  rw [h2 59 (by omega)]
noncomputable def enProg : En := ⟨12, false, spP (fun l => l.length < 2 ^ 63) (fun l => [intRows l]) fun l => .agg (genP l).cells⟩
theorem enProg_ok (ρ : Nat → Int) : EnOk Try.prog ρ enProg := spP_ok fun x hx => program_con ρ x hx
structure WordA where
  a : Int
  b : Int
  w : Int
def waE (x : WordA) : List AV := [.int .i64 x.a, .int .i64 x.b, .int .i64 x.w]
theorem waE_inj (x y : WordA) (h : waE x = waE y) : x = y := by
  obtain ⟨a, b, c⟩ := x
  obtain ⟨a', b', c'⟩ := y
  simp only [waE, List.cons.injEq, AV.int.injEq, and_true, true_and] at h
  obtain ⟨rfl, rfl, rfl⟩ := h
  rfl
def argsW (x : WordA) : List Int := [wordG x.a x.w, wordG x.b x.w]
theorem bsW2 (H : Hp) (a b : Int) : buildSliceA Try.prog H 52 2 [(0, .int .i64 a), (1, .int .i64 b)] = some (.sl H.next 0 2 1, H.alloc (.cells [.int .i64 a, .int .i64 b] 0 true)) := by kernel_rfl
theorem args_con (ρ : Nat → Int) (x : WordA) : Con Try.prog ρ 19 (waE x) (intRows (argsW x)) := Con.of_made (m := 3) (cfg := cfgN pls [enWord]) fit (noDec ρ) (fun g ar r hg => EnsOk.look (l := [enWord]) ⟨enWord_ok ρ, trivial⟩ g ar r hg) (.cons (.int _ _) (.cons (.int _ _) (.cons (.int _ _) .nil))) (by
  have hw : Plain (cfgN pls [enWord]) 19 := plainN (fun _ => rfl) rfl
  obtain ⟨a, b, w⟩ := x
  rw [waE]
  simp only []
  refine WpCall.slim (M := 14) (rs := [.tmp 6]) (hw.call _) hw.ice hw.froz Try.func19 rfl rfl code19.2 rfl ?_; dsimp only [code19, envOf, Nat.reduceAdd]
  have gh0 := @bsW2
  repeat' (first
     | (apply Rx.nl ?_; clear hK K) | apply Rx.o ?_ | (apply Rx.call ?_; first | refine Rx.k (word_en (fun _ => rfl) _ _ _) ?_) | apply Wp.seq ?_ | (apply Wp.ops' fun K hK => ?_) | apply Rx.sk ?_ | apply Rx.rt ?_)
  all_goals (refine ⟨eI, _, eR, ?_⟩; try simp only [oneOr])
  rfl)
noncomputable def enArgs : En := ⟨19, false, spP (fun _ => True) waE fun x => intRows (argsW x)⟩
theorem enArgs_ok (ρ : Nat → Int) : EnOk Try.prog ρ enArgs := spP_ok fun x hx => args_con ρ x
theorem fuel_con (ρ : Nat → Int) (n : Int) : Con Try.prog ρ 20 [.int .i64 n] (.int .i64 (pickG n 12)) := Con.lev fit (pls := pls) (l := [enPick]) ⟨enPick_ok ρ, trivial⟩ (.cons (.int _ _) .nil) (.int _ _) (by
  have hw : Plain (cfgN pls [enPick]) 20 := plainN (fun _ => rfl) rfl
  refine WpCall.slim (M := 5) (rs := [.tmp 2]) (hw.call _) hw.ice hw.froz Try.func20 rfl rfl code20.2 rfl ?_; dsimp only [code20, envOf, Nat.reduceAdd]
  repeat' (first
     | (apply Rx.nl ?_; clear hK K) | apply Rx.o ?_ | (apply Rx.call ?_; first | refine Rx.k (pick_en (fun _ => rfl) _ _ (by decide) _) ?_) | apply Wp.seq ?_ | (apply Wp.ops' fun K hK => ?_) | apply Rx.sk ?_ | apply Rx.rt ?_)
  all_goals (refine ⟨eI, _, eR, ?_⟩; try simp only [oneOr]))
noncomputable def enFuel : En := ⟨20, false, spP (fun _ => True) (fun n : Int => [.int .i64 n]) fun n => .int .i64 (pickG n 12)⟩
theorem enFuel_ok (ρ : Nat → Int) : EnOk Try.prog ρ enFuel := spP_ok fun x hx => fuel_con ρ x
noncomputable def enSame : En := ⟨22, false, spP (fun o => o.out.length < 2 ^ 60) (fun o => [ocV o, ocV o]) fun _ => .bool true⟩
theorem enSame_ok (ρ : Nat → Int) : EnOk Try.prog ρ enSame := spP_ok fun o ho => same_con ρ o ho
end Go.Proofs.Ytjkmbpieknaekaa
namespace Go.Proofs.Ytjkmbpieknaekaa
set_option maxRecDepth 20000
set_option linter.unusedSimpArgs false
set_option linter.unusedVariables false
set_option linter.unusedSectionVars false
set_option linter.defProp false
open Go Go.Ab
theorem nm_len (f : Int) (i : Nat) : ((nmsG f).getD i []).length ≤ 1 := by
  have h : ∀ s ∈ nmsG f, s.length ≤ 1 := by
    intro s hs
    unfold nmsG at hs
    split at hs <;> simp only [List.mem_cons, List.not_mem_nil, or_false] at hs
    · rcases hs with rfl | rfl | rfl | rfl <;> simp
    · rcases hs with rfl | rfl <;> simp
  rw [List.getD_eq_getElem?_getD]
  cases e : (nmsG f)[i]? with
  | none => simp
  | some s => exact h s (List.mem_of_getElem? e)
theorem arr_len (m : Int) : (arrG m).length = 1 := by unfold arrG; split <;> rfl
theorem fg_len (m : Int) : (fgG m).length = 1 := by unfold fgG; split <;> rfl
def bE : Nat → Nat
  | 0 => 2
  | k + 1 => 5 + 3 * bE k
theorem exprG_sz (f : Int) : ∀ (k deep : Nat) (L : List Int), (exprG f k deep L).1.sz ≤ bE k
  | 0, deep, L => by simp [exprG, Ex.sz, exprsSz, bE]
  | k + 1, deep, L => by
    have ih := exprG_sz f k (deep + 1)
    simp only [exprG, bE]
    generalize pickG (nextG L).1 16 = q
    generalize pickG (w64 ((nextG L).1.tdiv 16)) 1000 = m
    split
    · split
      · have := nm_len f (m.tmod (nmsG f).length).toNat
        simp only [Ex.sz, exprsSz]; omega
      · simp only [Ex.sz, exprsSz, List.length_nil]; omega
    · split
      · have := arr_len m
        have := ih (nextG L).2
        simp only [Ex.sz, exprsSz]; omega
      · split
        · have := ih (nextG L).2
          have := ih (exprG f k (deep + 1) (nextG L).2).2
          have := ih (exprG f k (deep + 1) (exprG f k (deep + 1) (nextG L).2).2).2
          simp only [Ex.sz, exprsSz, List.length_nil]; omega
        · split
          · have := ih (nextG L).2
            simp only [Ex.sz, exprsSz, List.length_nil]; omega
          · have := ih (nextG L).2
            have := ih (exprG f k (deep + 1) (nextG L).2).2
            simp only [Ex.sz, exprsSz, List.length_nil]; omega
theorem argsG_sz (f : Int) : ∀ (n : Nat) (L : List Int), exprsSz (argsG f n L).1 ≤ 200 * n
  | 0, _ => by simp [argsG, exprsSz]
  | n + 1, L => by
    have := argsG_sz f n (exprG f 3 2 L).2
    have := exprG_sz f 3 2 L
    have : bE 3 ≤ 150 := by decide
    rw [argsG, exprsSz]; omega
theorem stmtT_sz {sub : Int → Sd → List St × Sd} (hs : ∀ most s, stmtsSz (sub most s).1 ≤ 10000 * nS (sub most s).1) (f : Int) (L1 : List Int) (c q m : Int) : (stmtT sub f L1 c q m).1.sz + 1 ≤ 10000 * n1 (stmtT sub f L1 c q m).1 := by
  have e5 : bE 5 ≤ 1200 := by decide
  have e4 : bE 4 ≤ 1200 := by decide
  have e3 : bE 3 ≤ 1200 := by decide
  have e50 := exprG_sz f 5 0 L1
  have e32 := exprG_sz f 3 2 L1
  have e41 := exprG_sz f 4 1 L1
  have e43 := exprG_sz f 4 1 (exprG f 3 2 L1).2
  have z : zE.sz = 1 := rfl
  have n1' := nm_len f (m.tmod (nmsG f).length).toNat
  have a1 := arr_len m
  have g1 := fg_len m
  have r := argsG_sz f (2 - m.tmod 2).toNat L1
  have r2 : (2 - m.tmod 2).toNat ≤ 4 := by
    have : -2 < m.tmod 2 := by
      have := Int.tmod_lt_of_pos (-m) (show (0 : Int) < 2 by omega)
      rw [Int.neg_tmod] at this
      omega
    omega
  rw [stmtT]
  split
  · simp only [St.sz, n1, nS, exprsSz, stmtsSz, List.length_nil]; omega
  split
  · simp only [St.sz, n1, nS, exprsSz, stmtsSz, List.length_nil]; omega
  split
  · have s1 := hs 3 ((exprG f 4 1 L1).2, c)
    have s2 := hs 2 (sub 3 ((exprG f 4 1 L1).2, c)).2
    simp only [St.sz, n1, nS, exprsSz, stmtsSz, List.length_nil]; omega
  split
  · have s1 := hs 3 ((exprG f 4 1 L1).2, w64 (c + 1))
    simp only [St.sz, n1, nS, exprsSz, stmtsSz, List.length_nil]; omega
  split
  · simp only [St.sz, n1, nS, exprsSz, stmtsSz, List.length_nil]; omega
  split
  · simp only [St.sz, n1, nS, exprsSz, stmtsSz, List.length_nil]; omega
  · simp only [St.sz, n1, nS, exprsSz, stmtsSz, List.length_nil]; omega
theorem stsG_sz {step : Sd → St × Sd} (h : ∀ s, (step s).1.sz + 1 ≤ 10000 * n1 (step s).1) : ∀ (n : Nat) (s : Sd), stmtsSz (stsG step n s).1 ≤ 10000 * nS (stsG step n s).1
  | 0, s => by simp [stsG, stmtsSz, nS]
  | n + 1, s => by
    rw [stsG]
    split
    · simp [stmtsSz, nS]
    · have := h s
      have := stsG_sz h n (step s).2
      simp only [stmtsSz, nS]; omega
theorem stmtG_sz (f : Int) : ∀ (k deep : Nat) (s : Sd), (stmtG f k deep s).1.sz + 1 ≤ 10000 * n1 (stmtG f k deep s).1
  | 0, deep, s => by
    have z : zE.sz = 1 := rfl
    simp only [stmtG, St.sz, n1, nS, exprsSz, stmtsSz, List.length_nil]; omega
  | k + 1, deep, s => by
    rw [stmtG, stmtB]
    exact stmtT_sz (fun most s => stsG_sz (stmtG_sz f k (deep + 1)) _ _) f _ _ _ _
theorem stmtsG_sz (f : Int) (k deep : Nat) (most : Int) (s : Sd) : stmtsSz (stmtsG f k deep most s).1 ≤ 10000 * nS (stmtsG f k deep most s).1 := stsG_sz (stmtG_sz f k deep) _ _
theorem genP_sz (l : List Int) : (genP l).sz < 2 ^ 36 := by
  have hex : exB (genP l) = false := by
    have h := genP_ok l
    rw [refCheck] at h
    cases e : exB (genP l) with
    | false => rfl
    | true => rw [if_pos e] at h; omega
  have b1 := stmtsG_sz 0 4 0 5 ((nextG (l.take 60)).2, 0)
  have b2 := stmtsG_sz 1 3 1 3 ((genV1 (l.take 60)).2, (genB1 (l.take 60)).2.2)
  have v1 : (genV1 (l.take 60)).1.sz ≤ bE 4 := exprG_sz 0 4 1 _
  have v2 : (genV2 (l.take 60)).1.sz ≤ bE 4 := exprG_sz 1 4 1 _
  have e4 : bE 4 ≤ 1200 := by decide
  rw [genP] at hex ⊢
  generalize l.take 60 = L at *
  change stmtsSz (genB1 L).1 ≤ 10000 * nS (genB1 L).1 at b1
  change stmtsSz (genB2 L).1 ≤ 10000 * nS (genB2 L).1 at b2
  simp only [exB, List.any_cons, List.any_nil, Bool.or_false, Bool.or_eq_false_iff, exFn, genF, genGf, decide_eq_false_iff_not] at hex
  obtain ⟨_, h1, h2⟩ := hex
  have n1 : ¬ (200 : Int) < nS (genB1 L).1 := h1.1.1.1.1.2
  have n2 : ¬ (200 : Int) < nS (genB2 L).1 := h2.1.1.1.1.2
  simp only [Pr.sz, arrsSz, fnsSz, genAr, genF, genGf, Fu.sz, strsSz, List.length_cons, List.length_nil]
  omega
end Go.Proofs.Ytjkmbpieknaekaa
namespace Go.Ab
set_option maxRecDepth 20000
set_option linter.unusedVariables false
open Go
def LeO {α : Type} (a b : Option α) : Prop := ∀ r, a = some r → b = some r
theorem LeO.refl {α : Type} (a : Option α) : LeO a a := fun _ h => h
theorem LeO.none {α : Type} (b : Option α) : LeO (Option.none : Option α) b := fun _ h => by cases h
theorem LeO.bind {α β : Type} {a a' : Option α} {f g : α → Option β} (h1 : LeO a a') (h2 : ∀ x, LeO (f x) (g x)) : LeO (a.bind f) (a'.bind g) := fun r h => by
  obtain ⟨x, hx, hf⟩ := Option.bind_eq_some_iff.1 h
  rw [h1 x hx]; exact h2 x r hf
theorem LeO.ite {α : Type} {c : Prop} [Decidable c] {a a' b b' : Option α} (h1 : LeO a a') (h2 : LeO b b') : LeO (if c then a else b) (if c then a' else b') := by
  split
  · exact h1
  · exact h2
theorem exprM_le : ∀ (n : Nat) (x : Ex) (vs : List (Nm × Int)) (s : MS), LeO (exprM n x vs s) (exprM (n + 1) x vs s)
  | 0, x, vs, s => LeO.none _
  | n + 1, x, vs, s => by
    have IH := exprM_le n
    unfold exprM
    repeat' (first | exact LeO.refl _ | exact IH _ _ _ | apply LeO.ite | apply LeO.bind | intro _)
theorem argsM_le (n : Nat) : ∀ (l : List Ex) (vs : List (Nm × Int)) (s : MS), LeO (argsM n l vs s) (argsM (n + 1) l vs s)
  | [], vs, s => LeO.refl _
  | x :: l, vs, s => by
    have IH := argsM_le n l
    unfold argsM
    repeat' (first | exact LeO.refl _ | exact IH _ _ | exact exprM_le _ _ _ _ | apply LeO.bind | intro _)
theorem stepM_le (p : Pr) (fi : List (Nm × Int)) : ∀ n : Nat,
    (∀ x vs s, LeO (stmtM p fi n x vs s) (stmtM p fi (n + 1) x vs s)) ∧ (∀ l vs s, LeO (stmtsM p fi n l vs s) (stmtsM p fi (n + 1) l vs s)) ∧
    (∀ x vs s, LeO (whileM p fi n x vs s) (whileM p fi (n + 1) x vs s)) ∧ (∀ k al s, LeO (callM p fi n k al s) (callM p fi (n + 1) k al s))
  | 0 => ⟨fun x vs s r h => by simp [stmtM] at h, fun l vs s r h => by simp [stmtsM] at h, fun x vs s r h => by simp [whileM] at h, fun k al s r h => by simp [callM] at h⟩
  | n + 1 => by
    obtain ⟨I1, I2, I3, I4⟩ := stepM_le p fi n
    refine ⟨fun x vs s => ?_, fun l vs s => ?_, fun x vs s => ?_, fun k al s => ?_⟩
    · unfold stmtM
      repeat' (first | exact LeO.refl _ | exact exprM_le _ _ _ _ | exact argsM_le _ _ _ _ | exact I2 _ _ _ | exact I3 _ _ _ | exact I4 _ _ _ | apply LeO.ite | apply LeO.bind | intro _)
    · unfold stmtsM
      cases l with
      | nil => exact LeO.refl _
      | cons x l =>
        simp only
        repeat' (first | exact LeO.refl _ | exact I1 _ _ _ | exact I2 _ _ _ | apply LeO.ite | apply LeO.bind | intro _)
    · unfold whileM
      repeat' (first | exact LeO.refl _ | exact exprM_le _ _ _ _ | exact I2 _ _ _ | exact I3 _ _ _ | apply LeO.ite | apply LeO.bind | intro _)
    · unfold callM
      repeat' (first | exact LeO.refl _ | exact exprM_le _ _ _ _ | exact I2 _ _ _ | apply LeO.ite | apply LeO.bind | intro _)
theorem callM_more {p : Pr} {fi : List (Nm × Int)} {n : Nat} {k : Int} {al : List Int} {s : MS} {r : Int × MS} (h : callM p fi n k al s = some r) : ∀ d, callM p fi (n + d) k al s = some r
  | 0 => h
  | d + 1 => (stepM_le p fi (n + d)).2.2.2 _ _ _ _ (callM_more h d)
/-- There is one answer. -/
theorem callM_one {p : Pr} {fi : List (Nm × Int)} {n m : Nat} {k : Int} {al : List Int} {s : MS} {r r' : Int × MS} (h : callM p fi n k al s = some r) (h' : callM p fi m k al s = some r') : r = r' := by
  have a := callM_more h m
  have b := callM_more h' n
  rw [Nat.add_comm, b] at a
  exact (Option.some.inj a).symm
end Go.Ab
namespace Go.Proofs.Ytjkmbpieknaekaa
set_option maxRecDepth 20000
set_option linter.unusedSimpArgs false
set_option linter.unusedVariables false
set_option linter.unusedSectionVars false
set_option linter.defProp false
open Go Go.Ab
theorem genFix (l : List Int) : fixOf (genP l) = [([102], 0), ([103], 1)] := rfl
theorem genRunF (l : List Int) (a b fuel : Int) (h0 : 0 ≤ fuel) (h1 : fuel ≤ 1000) : RunA.ok ⟨genP l, [102], [a, b], fuel⟩ where
  v := genP_valid l
  sz := genP_sz l
  f0 := h0
  f1 := h1
  has := by show hasV (fixOf (genP l)) _ = true; rw [genFix]; rfl
  k0 := by show 0 ≤ lkV (fixOf (genP l)) _; rw [genFix]; show (0 : Int) ≤ lkV [([102], 0), ([103], 1)] [102]; decide
  fn := by
    refine ⟨genF (l.take 60), ?_, rfl⟩
    show (genP l).funcs[(lkV (fixOf (genP l)) _).toNat]? = _
    rw [genFix]; rfl
  al := by simp
theorem genRunG (l : List Int) (a fuel : Int) (h0 : 0 ≤ fuel) (h1 : fuel ≤ 1000) : RunA.ok ⟨genP l, [103], [a], fuel⟩ where
  v := genP_valid l
  sz := genP_sz l
  f0 := h0
  f1 := h1
  has := by show hasV (fixOf (genP l)) _ = true; rw [genFix]; rfl
  k0 := by show 0 ≤ lkV (fixOf (genP l)) _; rw [genFix]; show (0 : Int) ≤ lkV [([102], 0), ([103], 1)] [103]; decide
  fn := by
    refine ⟨genGf (l.take 60), ?_, rfl⟩
    show (genP l).funcs[(lkV (fixOf (genP l)) _).toNat]? = _
    rw [genFix]; rfl
  al := by simp
/-- The outcome of a run, by any depth that suffices. -/
theorem runG_eq {x : RunA} (h : x.ok) {n : Nat} {r : Int × MS} (hc : callM x.p (fixOf x.p) n (lkV (fixOf x.p) x.nm) x.al (startM x.p x.fuel) = some r) : runG x = endM r := by
  have he := h.ends
  unfold runG
  rw [dif_pos he]
  obtain ⟨m, h1, _⟩ := Classical.choose_spec he
  rw [callM_one hc h1]
theorem runG_out {x : RunA} (h : x.ok) : (runG x).out.length ≤ 300000 := by
  have he := h.ends
  unfold runG
  rw [dif_pos he]
  obtain ⟨m, _, h2⟩ := Classical.choose_spec he
  unfold endM
  split
  · exact h2
  · split <;> exact h2
end Go.Proofs.Ytjkmbpieknaekaa
namespace Go.Ab
set_option maxRecDepth 20000
set_option linter.unusedVariables false
set_option linter.unusedSectionVars false
open Go Go.WideShapes Go.Deep Go.RowKit Go.ChangeShapes
/-- All that lies in memory, asx it is. -/
def memF (W : World) : Nat → Nat → Option Value := fun b o => W.cell? ⟨b, o, none⟩
theorem memF_ok (W : World) : ∀ b o v, memF W b o = some v → W.cell? ⟨b, o, none⟩ = some v := fun _ _ _ h => h
section
variable {H : Type} {enc : TypeId × Value → H} {P : Program} {W : World}
/-- A row of numbers. -/
theorem arg_ints {r : Reach} {b0 : Nat} {t e : TypeId} {k : IntKind} {v : Value} {d : DataW H} {ps : List MemPlace} {sp : Nat → Bool} {held : Bool} (ht : P.underlying t = some (.slice e)) (he : P.underlying e = some (.int k)) (hc : P.cellsOf e = 1) (hval : Value.okWide P W r b0 t v) (hd : DataW.Trod enc P W 0 sp held t v d ps) (β : Nat → Option (Nat × Nat × Nat)) (ρ : Nat → Int) :
    ∃ l : List Int, VR ⟨β, memF W, ρ⟩ (.lst (l.map fun n => [AV.int k n])) v ∧ l.length ≤ maxLen := by
  obtain ⟨a0, len0, cap0, rfl⟩ := okWide_slice ht hval
  obtain ⟨fuel, hf⟩ := hd
  rcases open_slice1 ht hc hf with ⟨h, _⟩ | ⟨a, len, cap, m, n, V, D, Pl, h, hb, hl, hm, hmm, hx, hV⟩
  · simp [Value.cells] at h
    obtain ⟨rfl, rfl, rfl⟩ := h
    exact ⟨[], .lst0 _ _, Nat.zero_le _⟩
  · simp [Value.cells] at h
    obtain ⟨rfl, rfl, rfl⟩ := h
    have hlm : len0 ≤ m := by rw [hmm]; split <;> omega
    have hint : ∀ i, ∃ n : Int, i < len0 → V i = .int k n := fun i => by
      by_cases hi : i < len0
      · obtain ⟨n', h1, _⟩ := DataW.trod_int he (hV i (by omega)).2
        simp at h1
        exact ⟨n', fun _ => h1⟩
      · exact ⟨0, fun h => absurd h hi⟩
    obtain ⟨N, hN⟩ := Classical.axiomOfChoice hint
    refine ⟨(List.range len0).map N, ?_, by simp; omega⟩
    by_cases h0 : len0 = 0
    · subst h0; exact .lst0 _ _
    obtain ⟨ab, ao, asp⟩ := a
    have hspot : asp = none := by
      have := (hV 0 (by omega)).1
      simp only [Addr.add, if_true, World.cell?] at this
      split at this
      · split at this
        · cases this
        · rename_i hn
          cases asp with
          | none => rfl
          | some s => simp at hn
      · cases this
    subst hspot
    have hlen : (((List.range len0).map N).map fun n => [AV.int k n]).length = len0 := by simp
    have key := VR.lst (G := ⟨β, memF W, ρ⟩) (xs := ((List.range len0).map N).map fun n => [AV.int k n]) (b := ab) (o := ao) (cap := cap0) (z := 1) (fun i _ => V i) ?_ ?_ ?_ (by rw [hlen]; omega)
    · rw [hlen] at key; exact key
    · intro i row hr
      rw [List.getElem?_map] at hr
      cases hq : ((List.range len0).map N)[i]? with
      | none => rw [hq] at hr; simp at hr
      | some q => rw [hq] at hr; simp only [Option.map_some, Option.some.injEq] at hr; rw [← hr]; rfl
    · intro i j hi hj
      rw [hlen] at hi
      have h2 := (hV i (by omega)).1
      show W.cell? ⟨ab, ao + i * 1 + j, none⟩ = some (V i)
      have hj0 : j = 0 := by omega
      subst hj0
      rw [← h2]
      congr 1
      unfold Addr.add
      split
      · rename_i h; subst h; rfl
      · simp
    · intro i j row c hr hcj
      rw [List.getElem?_map, List.getElem?_map] at hr
      by_cases hi : i < len0
      · rw [List.getElem?_range hi] at hr
        simp only [Option.map_some, Option.some.injEq] at hr
        subst hr
        cases j with
        | zero =>
          simp only [List.getElem?_cons_zero, Option.some.injEq] at hcj
          subst hcj
          show VR _ _ (V i)
          rw [hN i hi]
          exact .int k _
        | succ j => simp at hcj
      · rw [List.getElem?_eq_none (by simp; omega)] at hr
        simp at hr
/-- What was read is read again. -/
theorem arg_stays {t : TypeId} (hl : laidOutB P = true) (hr : P.readableRec t = true) (hrow : t < P.types.size) {W' : World} {v : Value} {d : DataW H} {ps before : List MemPlace}
    (h : DataW.Trod enc P W 0 (fun _ => true) true t v d ps) (hb : Below W.heap.size W W') (hlt : ∀ p ∈ before, p.block < W.heap.size) (hps : ∀ p ∈ ps, p ∈ before) {sp : Nat → Bool} (hsp : ∀ p ∈ before, sp p.block = true) :
    DataW.Trod enc P W' 0 sp true t v d ps :=
  WideElems.Trod_stays hl hr hrow h (fun x hx => hb.same (hlt x (hps x hx))) fun x hx => hsp x (hps x hx)
end
end Go.Ab
