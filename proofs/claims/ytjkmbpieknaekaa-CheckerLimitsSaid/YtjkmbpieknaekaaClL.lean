/- Parts: P4b, P4c, P4d, P4h, G1, G2, G3, G2r, G4, G5p, ChkM, Lim1, G6, KnCEx. -/
import Derived.KernelRfl
import Derived.Test.YtjkmbpieknaekaaClK
import Derived.Test.YtjkmbpieknaekaaRows
set_option linter.unusedSimpArgs false
set_option linter.unusedVariables false
set_option linter.unusedSectionVars false
set_option linter.defProp false
namespace Go.Proofs.Ytjkmbpieknaekaa
set_option maxRecDepth 20000
set_option linter.unusedSimpArgs false
set_option linter.unusedVariables false
set_option linter.unusedSectionVars false
set_option linter.defProp false
open Go Go.Ab
namespace tyP4b
def tyF := And.intro @sz2 (And.intro @pt2 (And.intro @bt2 (And.intro @zr2 (And.intro @sz3 (And.intro @pt3 (And.intro @bt3 (And.intro @zr3 (And.intro @sz4 (And.intro @pt4 (And.intro @bt4 (And.intro @zr4 (And.intro @sz9 (And.intro @pt9 (And.intro @bt9 (And.intro @zr9 (And.intro @ln9 (And.intro @ix9 (And.intro @sz36 (And.intro @pt36 (And.intro @bt36 (And.intro @zr36 (And.intro @ix36l (And.intro @ix36s (And.intro @ln36l (And.intro @ln36s (And.intro @ln36n (And.intro @sz37 (And.intro @pt37 (And.intro @bt37 (And.intro @zr37 (And.intro @ix37l (And.intro @ix37s (And.intro @ln37l (And.intro @ln37s (And.intro @ln37n (And.intro @sz39 (And.intro @pt39 (And.intro @bt39 (And.intro @zr39 (And.intro @fa39_0p (And.intro @fa39_0c (And.intro @fd39_0 (And.intro @fa39_1p (And.intro @fa39_1c (And.intro @fd39_1 (And.intro @fa39_2p (And.intro @fa39_2c (And.intro @fd39_2 (And.intro @fa39_3p (And.intro @fa39_3c (And.intro @fd39_3 (And.intro @fa39_4p (And.intro @fa39_4c (And.intro @fd39_4 (And.intro @sz46 (And.intro @pt46 (And.intro @bt46 (And.intro @zr46 (And.intro @fa46_0p (And.intro @fa46_0c (And.intro @fd46_0 (And.intro @fa46_1p (And.intro @fa46_1c (And.intro @fd46_1 (And.intro @fa46_2p (And.intro @fa46_2c (And.intro @fd46_2 (And.intro @fa46_3p (And.intro @fa46_3c (And.intro @fd46_3 (And.intro @fa46_4p (And.intro @fa46_4c (And.intro @fd46_4 (And.intro @fa46_5p (And.intro @fa46_5c (And.intro @fd46_5 (And.intro @fa46_6p (And.intro @fa46_6c (And.intro @fd46_6 (And.intro @fa46_7p (And.intro @fa46_7c (And.intro @fd46_7 (And.intro @fa46_8p (And.intro @fa46_8c (And.intro @fd46_8 (And.intro @sz137 (And.intro @pt137 (And.intro @bt137 (And.intro @zr137 (And.intro @fa137_0p (And.intro @fa137_0c (And.intro @fd137_0 (And.intro @fa137_1p (And.intro @fa137_1c (And.intro @fd137_1 (And.intro @fa137_2p (And.intro @fa137_2c (And.intro @fd137_2 (And.intro @fa137_3p (And.intro @fa137_3c (And.intro @fd137_3 (And.intro @fa137_4p (And.intro @fa137_4c (And.intro @fd137_4 (And.intro @fa137_5p (And.intro @fa137_5c (And.intro @fd137_5 (And.intro @fa137_6p (And.intro @fa137_6c (And.intro @fd137_6 (And.intro @fa137_7p (And.intro @fa137_7c (@fd137_7)))))))))))))))))))))))))))))))))))))))))))))))))))))))))))))))))))))))))))))))))))))))))))))))))))))))))))))))))
end tyP4b
open tyP4b
noncomputable def code61 : { c : SC // slim 111 (Try.f61.body.getD .skip) = c } := by
  refine ⟨?_, ?_⟩
  rotate_left
  · simp only [Try.f61, Option.getD_some, slim, slimR, slimL, slimD, slimG, Nat.blt, Nat.ble]
    rfl
mutual
theorem walkE_wf : ∀ (x : Ex) (d : Int), walkE (fun x _ => wfX x) x d = wfE x
  | .mk k n s o ks, d => by rw [walkE, wfE, walkEs_wf ks, Bool.and_comm]
theorem walkEs_wf : ∀ (l : List Ex) (d : Int), walkEs (fun x _ => wfX x) l d = wfEs l
  | [], _ => rfl
  | x :: l, d => by rw [walkEs, wfEs, walkE_wf x, walkEs_wf l]
end
/-- The walk with that visitor. -/
theorem wfWalk {l : List En} (hv : ∀ ar, lookN l 57 ar = enPN.sp ar) (ho : ∀ ar, lookN l 89 ar = enPO.sp ar) (hp : (∀ ar, lookN l 60 ar = none) ∧ iceN l 60 = false) (hq : (∀ ar, lookN l 59 ar = none) ∧ iceN l 59 = false)
    (x : Ex) (hx : x.sz < 2 ^ 60) (H : Hp) : WpCall Try.prog (cfgN pls l) 59 [.agg x.cells, .int .i64 0, .clo 60 []] H fun v H' => v = .bool (wfE x) ∧ FrB 0 H H' := by
  have hI : OfLow 0 fun _ : Hp => True := fun _ _ _ _ => trivial
  refine WpCall.mono ?_ (walkExpr_wp (plainN hq.1 hq.2) hI (wfeVisit hv ho hp hI) (x.sz + 1) x (Nat.lt_succ_self _) 0 H hx (Nat.zero_le _) trivial)
  rintro v H' ⟨rfl, h2, _⟩
  exact ⟨by rw [walkE_wf], h2⟩
def fieldE (x : Ex) (w : Bool) : Bool := bif w then wfE x else zeroE x
noncomputable def levP1 : List En := [enPN, enPO, enPZ]
theorem levP1_ok (ρ : Nat → Int) : EnsOk Try.prog ρ levP1 := ⟨enPN_ok ρ, enPO_ok ρ, enPZ_ok ρ, trivial⟩
theorem exprField_con (ρ : Nat → Int) (x : Ex) (w : Bool) (hx : x.sz < 2 ^ 60) : Con Try.prog ρ 92 [.agg x.cells, .bool w] (.bool (fieldE x w)) := Con.lev fit (pls := pls) (levP1_ok ρ) (.cons (.agg x.pure) (.cons (.bool _) .nil)) (.bool _) (by
  have hw : Plain (cfgN pls levP1) 92 := plainN (fun _ => rfl) rfl
  have kz : ∀ y : Ex, ∀ H, WpCall Try.prog (cfgN pls levP1) 106 [.agg y.cells] H fun v H' => v = .bool (zeroE y) ∧ H' = H := fun y H => WpCall.en (enc := exE) (out := fun x => .bool (zeroE x)) exE_inj (x := y) rfl trivial
  cases w
  · refine WpCall.slim (M := 10) (rs := [.tmp 4]) (hw.call _) hw.ice hw.froz Try.func92 rfl rfl code92.2 rfl ?_; dsimp only [code92, envOf, Nat.reduceAdd]
    repeat' (first
       | (refine WpL.nil (hK _ _ ?_); clear hK K; try dsimp only [thenQ, blockQ]) | refine Rx.move (hk := ?_) | refine Rx.assign (hk := ?_) | refine Rx.load (hk := ?_) | refine Rx.box (hk := ?_) | (refine Rx.call (hk := ?_); simp only [List.cons_append, List.nil_append, List.append_nil]; refine WpCall.mono ?_ (kz _ _); rintro _ _ ⟨rfl, rfl⟩; try dsimp only [setO]) | (refine Rx.cond (h1 := fun hb => ?_) (h2 := fun hb => ?_) <;> (try simp only [Bool.not_true, Bool.not_false, reduceCtorEq] at hb) <;> (try (cases hb; done)) <;> (try have hbp := hb) <;> (try simp only [decide_eq_true_eq, decide_eq_false_iff_not] at hbp)) | refine Wp.seq ?_ | (refine Wp.ops' fun K hK => ?_) | refine Wp.block ?_ | (refine Wp.skip ?_; try dsimp only [thenQ, blockQ]) | (refine Wp.ret ?_; try dsimp only [thenQ, blockQ]) | (refine Wp.exit ?_; try simp only [thenQ, blockQ, reduceIte]))
    all_goals (refine ⟨by first | exact .inl rfl | exact .inr rfl | exact .inl trivial | exact .inr trivial, _, (by (try simp only [sB, Nat.reduceBEq, resultsA, resultA, *]); first | done | with_reducible rfl), ?_⟩; try simp only [oneOr])
    rfl
  · refine WpCall.slim (M := 10) (rs := [.tmp 4]) (hw.call _) hw.ice hw.froz Try.func92 rfl rfl code92.2 rfl ?_; dsimp only [code92, envOf, Nat.reduceAdd]
    repeat' (first
       | (refine WpL.nil (hK _ _ ?_); clear hK K; try dsimp only [thenQ, blockQ]) | refine Rx.move (hk := ?_) | refine Rx.assign (hk := ?_) | refine Rx.load (hk := ?_) | refine Rx.box (hk := ?_) | (refine Rx.cond (h1 := fun hb => ?_) (h2 := fun hb => ?_) <;> (try simp only [Bool.not_true, Bool.not_false, reduceCtorEq] at hb) <;> (try (cases hb; done)) <;> (try have hbp := hb) <;> (try simp only [decide_eq_true_eq, decide_eq_false_iff_not] at hbp)) | refine Wp.seq ?_ | (refine Wp.ops' fun K hK => ?_) | refine Wp.block ?_ | (refine Wp.skip ?_; try dsimp only [thenQ, blockQ]) | (refine Wp.ret ?_; try dsimp only [thenQ, blockQ]) | (refine Wp.exit ?_; try simp only [thenQ, blockQ, reduceIte]))
    refine WpL.call rfl (by (try simp only [sB, Nat.reduceBEq, *, -hK]); first | done | with_reducible rfl) (by (try simp only [sB, Nat.reduceBEq, aevals, List.cons_append, List.nil_append, *, -hK]); first | done | with_reducible rfl) ?_; simp only [List.cons_append, List.nil_append, List.append_nil]
    refine WpCall.mono ?_ (wfWalk (fun _ => rfl) (fun _ => rfl) ⟨fun _ => rfl, rfl⟩ ⟨fun _ => rfl, rfl⟩ x hx _)
    rintro v H ⟨rfl, _⟩
    dsimp only [setO]
    repeat' (first
       | (refine WpL.nil (hK _ _ ?_); clear hK K; try dsimp only [thenQ, blockQ]) | refine Rx.move (hk := ?_) | refine Rx.assign (hk := ?_) | refine Rx.load (hk := ?_) | refine Rx.box (hk := ?_) | (refine Rx.cond (h1 := fun hb => ?_) (h2 := fun hb => ?_) <;> (try simp only [Bool.not_true, Bool.not_false, reduceCtorEq] at hb) <;> (try (cases hb; done)) <;> (try have hbp := hb) <;> (try simp only [decide_eq_true_eq, decide_eq_false_iff_not] at hbp)) | refine Wp.seq ?_ | (refine Wp.ops' fun K hK => ?_) | refine Wp.block ?_ | (refine Wp.skip ?_; try dsimp only [thenQ, blockQ]) | (refine Wp.ret ?_; try dsimp only [thenQ, blockQ]) | (refine Wp.exit ?_; try simp only [thenQ, blockQ, reduceIte]))
    all_goals (refine ⟨by first | exact .inl rfl | exact .inr rfl | exact .inl trivial | exact .inr trivial, _, (by (try simp only [sB, Nat.reduceBEq, resultsA, resultA, *]); first | done | with_reducible rfl), ?_⟩; try simp only [oneOr])
    rfl)
def fld (k : Int) (i : Nat) : Bool := (fldB k).getD i false
theorem fld_eq (k : Int) : (fldB k).map AV.bool = [.bool (fld k 0), .bool (fld k 1), .bool (fld k 2), .bool (fld k 3), .bool (fld k 4), .bool (fld k 5), .bool (fld k 6), .bool (fld k 7)] := by
  have h : ∃ a b c d e f g h, fldB k = [a, b, c, d, e, f, g, h] := by
    unfold fldB
    repeat' split
    all_goals exact ⟨_, _, _, _, _, _, _, _, rfl⟩
  obtain ⟨a, b, c, d, e, f, g, h, e1⟩ := h
  simp only [fld, e1]; rfl
/-- A statement, apart from those in it; asx the checker puts it. -/
def wfSp (x : St) : Bool :=
  fldOk x.kind && nameF x.name (fld x.kind 0) && nameF x.to (fld x.kind 1) && fieldE x.at_ (fld x.kind 3) && fieldE x.value (fld x.kind 4) &&
  !decide (x.n < 0) && !decide (1000000 < x.n) && (fld x.kind 2 || decide (x.n = 0)) && (fld x.kind 5 || !decide ((0 : Int) < x.args.length)) && (fld x.kind 6 || !decide ((0 : Int) < x.thn.length)) && (fld x.kind 7 || !decide ((0 : Int) < x.els.length)) && wfEs x.args
def badB (x : St) : Bool := decide (x.n < 0) || decide (1000000 < x.n) || (!fld x.kind 2 && !decide (x.n = 0)) || (!fld x.kind 5 && decide ((0 : Int) < x.args.length)) || (!fld x.kind 6 && decide ((0 : Int) < x.thn.length)) || (!fld x.kind 7 && decide ((0 : Int) < x.els.length))
noncomputable def enPF : En := ⟨90, false, spP (fun _ => True) (fun n : Int => [.int .i64 n]) fldA⟩
theorem enPF_ok (ρ : Nat → Int) : EnOk Try.prog ρ enPF := spP_ok fun x _ => fields_con ρ x
def sbE (x : List UInt8 × Bool) : List AV := [.str x.1, .bool x.2]
theorem sbE_inj (x y : List UInt8 × Bool) (h : sbE x = sbE y) : x = y := by
  simp only [sbE, List.cons.injEq, AV.str.injEq, AV.bool.injEq, and_true] at h
  exact Prod.ext h.1 h.2
noncomputable def enPM : En := ⟨91, false, spP (fun x => x.1.length < 2 ^ 60) sbE fun x => .bool (nameF x.1 x.2)⟩
theorem enPM_ok (ρ : Nat → Int) : EnOk Try.prog ρ enPM := spP_ok fun x hx => pfield_con ρ x.1 x.2 hx
def ebE (x : Ex × Bool) : List AV := [.agg x.1.cells, .bool x.2]
theorem ebE_inj (x y : Ex × Bool) (h : ebE x = ebE y) : x = y := by
  simp only [ebE, List.cons.injEq, AV.agg.injEq, AV.bool.injEq, and_true] at h
  exact Prod.ext (Ex.inj h.1) h.2
noncomputable def enPX : En := ⟨92, false, spP (fun x => x.1.sz < 2 ^ 60) ebE fun x => .bool (fieldE x.1 x.2)⟩
theorem enPX_ok (ρ : Nat → Int) : EnOk Try.prog ρ enPX := spP_ok fun x hx => exprField_con ρ x.1 x.2 hx
noncomputable def enPS : En := ⟨58, false, spP (fun l => strsSz l < 2 ^ 60) (fun l : List (List UInt8) => [lstS l]) fun l => .bool (l.all nameB)⟩
theorem enPS_ok (ρ : Nat → Int) : EnOk Try.prog ρ enPS := spP_ok fun x hx => pnames_con ρ x hx
theorem lsE_inj (x y : List (List UInt8)) (h : ([lstS x] : List AV) = [lstS y]) : x = y := by
  simp only [List.cons.injEq, AV.lst.injEq, and_true] at h
  exact strs_inj h
noncomputable def levP2 : List En := [enPN, enPO, enPF, enPM, enPX, enPS]
theorem levP2_ok (ρ : Nat → Int) : EnsOk Try.prog ρ levP2 := ⟨enPN_ok ρ, enPO_ok ρ, enPF_ok ρ, enPM_ok ρ, enPX_ok ρ, enPS_ok ρ, trivial⟩
theorem fldv1 : fld 1 0 = true ∧ fld 1 1 = false ∧ fld 1 2 = false ∧ fld 1 3 = false ∧ fld 1 4 = true ∧ fld 1 5 = false ∧ fld 1 6 = false ∧ fld 1 7 = false ∧ fldOk 1 = true := by refine ⟨rfl, rfl, rfl, rfl, rfl, rfl, rfl, rfl, rfl⟩
theorem fldv2 : fld 2 0 = true ∧ fld 2 1 = false ∧ fld 2 2 = false ∧ fld 2 3 = true ∧ fld 2 4 = true ∧ fld 2 5 = false ∧ fld 2 6 = false ∧ fld 2 7 = false ∧ fldOk 2 = true := by refine ⟨rfl, rfl, rfl, rfl, rfl, rfl, rfl, rfl, rfl⟩
theorem fldv3 : fld 3 0 = false ∧ fld 3 1 = false ∧ fld 3 2 = false ∧ fld 3 3 = false ∧ fld 3 4 = true ∧ fld 3 5 = false ∧ fld 3 6 = true ∧ fld 3 7 = true ∧ fldOk 3 = true := by refine ⟨rfl, rfl, rfl, rfl, rfl, rfl, rfl, rfl, rfl⟩
theorem fldv4 : fld 4 0 = false ∧ fld 4 1 = false ∧ fld 4 2 = false ∧ fld 4 3 = false ∧ fld 4 4 = true ∧ fld 4 5 = false ∧ fld 4 6 = true ∧ fld 4 7 = false ∧ fldOk 4 = true := by refine ⟨rfl, rfl, rfl, rfl, rfl, rfl, rfl, rfl, rfl⟩
theorem fldv5 : fld 5 0 = false ∧ fld 5 1 = false ∧ fld 5 2 = false ∧ fld 5 3 = false ∧ fld 5 4 = true ∧ fld 5 5 = false ∧ fld 5 6 = false ∧ fld 5 7 = false ∧ fldOk 5 = true := by refine ⟨rfl, rfl, rfl, rfl, rfl, rfl, rfl, rfl, rfl⟩
theorem fldv6 : fld 6 0 = true ∧ fld 6 1 = true ∧ fld 6 2 = false ∧ fld 6 3 = false ∧ fld 6 4 = false ∧ fld 6 5 = true ∧ fld 6 6 = false ∧ fld 6 7 = false ∧ fldOk 6 = true := by refine ⟨rfl, rfl, rfl, rfl, rfl, rfl, rfl, rfl, rfl⟩
theorem fldv7 : fld 7 0 = false ∧ fld 7 1 = false ∧ fld 7 2 = true ∧ fld 7 3 = false ∧ fld 7 4 = false ∧ fld 7 5 = false ∧ fld 7 6 = false ∧ fld 7 7 = false ∧ fldOk 7 = true := by refine ⟨rfl, rfl, rfl, rfl, rfl, rfl, rfl, rfl, rfl⟩
set_option maxRecDepth 100000 in
set_option maxHeartbeats 16000000 in
/-- The visitor of statements. -/
theorem wfsVisit : VisitS (cfgN pls levP2) 0 (fun (_ : Unit) _ => True) 61 [] fun x _ s => (wfSp x, s) := by
  intro x d s H hz _ _
  have hw : Plain (cfgN pls levP2) 61 := plainN (fun _ => rfl) rfl
  have kf : ∀ k H, WpCall Try.prog (cfgN pls levP2) 90 [.int .i64 k] H fun v H' => v = .tup [.agg [.bool (fld k 0), .bool (fld k 1), .bool (fld k 2), .bool (fld k 3), .bool (fld k 4), .bool (fld k 5), .bool (fld k 6), .bool (fld k 7)], .bool (fldOk k)] ∧ H' = H := fun k H => by
    have := WpCall.en (P := Try.prog) (pls := pls) (l := levP2) (enc := fun n : Int => [.int .i64 n]) (ok := fun _ => True) (out := fldA) intE_inj (g := 90) (x := k) rfl trivial (H := H)
    unfold fldA at this
    rw [fld_eq] at this
    exact this
  have km : ∀ (s : List UInt8) (w : Bool), s.length < 2 ^ 60 → ∀ H, WpCall Try.prog (cfgN pls levP2) 91 [.str s, .bool w] H fun v H' => v = .bool (nameF s w) ∧ H' = H := fun s w h H => WpCall.en (enc := sbE) (out := fun x => .bool (nameF x.1 x.2)) sbE_inj (x := (s, w)) rfl h
  have kx : ∀ (y : Ex) (w : Bool), y.sz < 2 ^ 60 → ∀ H, WpCall Try.prog (cfgN pls levP2) 92 [.agg y.cells, .bool w] H fun v H' => v = .bool (fieldE y w) ∧ H' = H := fun y w h H => WpCall.en (enc := ebE) (out := fun x => .bool (fieldE x.1 x.2)) ebE_inj (x := (y, w)) rfl h
  have hsz := x.sz_eq
  have hlen := exprsSz_len x.args
  have hx0 : ∀ a b, Ab.extract (.tup [a, b]) 0 = some a := fun _ _ => rfl
  have hx1 : ∀ a b, Ab.extract (.tup [a, b]) 1 = some b := fun _ _ => rfl
  refine WpCall.slim (M := 111) (rs := [.tmp 4]) (hw.call _) hw.ice hw.froz Try.func61 rfl rfl code61.2 rfl ?_; dsimp only [code61, envOf, Nat.reduceAdd]
  repeat' (first
     | (refine WpL.nil (hK _ _ ?_); clear hK K; try dsimp only [thenQ, blockQ]) | refine Rx.move (hk := ?_) | refine Rx.assign (hk := ?_) | refine Rx.load (hk := ?_) | refine Rx.bin (hk := ?_) | refine Rx.un (hk := ?_) | refine Rx.fieldAddr (hk := ?_) | refine Rx.indexAddr (hk := ?_) | refine Rx.len (hk := ?_) | refine Rx.pick (hk := ?_) | refine Rx.box (hk := ?_) | refine Rx.alloc (hk := ?_) | refine Rx.store (hk := ?_) | refine Rx.extract (hk := ?_) | (refine Rx.call (hk := ?_); simp only [List.cons_append, List.nil_append, List.append_nil]; refine WpCall.mono ?_ (kf _ _); rintro _ _ ⟨rfl, rfl⟩; try dsimp only [setO]) | (refine Rx.call (hk := ?_); simp only [List.cons_append, List.nil_append, List.append_nil]; refine WpCall.mono ?_ (km _ _ (by omega) _); rintro _ _ ⟨rfl, rfl⟩; try dsimp only [setO]) | (refine Rx.call (hk := ?_); simp only [List.cons_append, List.nil_append, List.append_nil]; refine WpCall.mono ?_ (kx _ _ (by omega) _); rintro _ _ ⟨rfl, rfl⟩; try dsimp only [setO]) | (refine Rx.guardU (hk := ?_); dsimp only [setO]) | (refine Rx.guard (h1 := fun hg => ?_) (h2 := fun hg => ?_) <;> (try simp only [Bool.not_true, Bool.not_false, reduceCtorEq] at hg) <;> (try (cases hg; done)) <;> (try have hgp := hg) <;> (try simp only [decide_eq_true_eq, decide_eq_false_iff_not] at hgp) <;> (try dsimp only [setO])) | refine Wp.seq ?_ | (refine Wp.ops' fun K hK => ?_) | refine Wp.block ?_ | (refine Wp.skip ?_; try dsimp only [thenQ, blockQ])
     | (refine Wp.ret ?_; try dsimp only [thenQ, blockQ]) | (refine Wp.exit ?_; try simp only [thenQ, blockQ, reduceIte]))
  all_goals (first | refine Rx.cond (t := true) (h1 := fun _ => ?_) (h2 := fun h => by cases h) | skip)
  all_goals
    repeat' (first
       | (refine WpL.nil (hK _ _ ?_); clear hK K; try dsimp only [thenQ, blockQ]) | refine Rx.move (hk := ?_) | refine Rx.assign (hk := ?_) | refine Rx.load (hk := ?_) | refine Rx.bin (hk := ?_) | refine Rx.un (hk := ?_) | refine Rx.fieldAddr (hk := ?_) | refine Rx.indexAddr (hk := ?_) | refine Rx.len (hk := ?_) | refine Rx.pick (hk := ?_) | refine Rx.box (hk := ?_) | refine Rx.alloc (hk := ?_) | refine Rx.store (hk := ?_) | refine Rx.extract (hk := ?_) | (refine Rx.guardU (hk := ?_); dsimp only [setO]) | (refine Rx.guard (h1 := fun hg => ?_) (h2 := fun hg => ?_) <;> (try simp only [Bool.not_true, Bool.not_false, reduceCtorEq] at hg) <;> (try (cases hg; done)) <;> (try have hgp := hg) <;> (try simp only [decide_eq_true_eq, decide_eq_false_iff_not] at hgp) <;> (try dsimp only [setO])) | refine Wp.seq ?_ | (refine Wp.ops' fun K hK => ?_) | refine Wp.block ?_ | (refine Wp.skip ?_; try dsimp only [thenQ, blockQ]) | (refine Wp.ret ?_; try dsimp only [thenQ, blockQ]) | (refine Wp.exit ?_; try simp only [thenQ, blockQ, reduceIte]))
  all_goals (first | (refine ⟨by first | exact .inl rfl | exact .inr rfl | exact .inl trivial | exact .inr trivial, _, (by (try simp only [sB, Nat.reduceBEq, resultsA, resultA, *]); first | done | with_reducible rfl), ?_⟩; (try simp only [oneOr]); refine ⟨by rw [wfSp]; (try simp only [Bool.not_eq_true', Bool.not_eq_false'] at *); simp only [*, decide_true, decide_false, Bool.false_or, Bool.or_false, Bool.true_or, Bool.or_true, Bool.false_and, Bool.and_false, Bool.true_and, Bool.and_true, Bool.not_true, Bool.not_false, if_true, if_false, Int.reduceEq], (((FrB.refl _ _).alloc _).alloc _).set (.inl (by (try simp only [Hp.next_alloc]); omega)) _, trivial⟩; done) | skip)
  have hfr : FrB 0 H (((H.alloc (.cells x.cells 0 true)).alloc (.cells [.bool false, .bool false, .bool false, .bool false, .bool false, .bool false, .bool false, .bool false] 0 true)).set (H.next + 1) (.cells [.bool (fld x.kind 0), .bool (fld x.kind 1), .bool (fld x.kind 2), .bool (fld x.kind 3), .bool (fld x.kind 4), .bool (fld x.kind 5), .bool (fld x.kind 6), .bool (fld x.kind 7)] 0 true)) := (((FrB.refl _ _).alloc _).alloc _).set (.inl (by omega)) _
  refine Wp.fresh [2, 4, 5, 48] fun E' hcE => ?_
  (try simp only [forall_cons, forall_nil, and_true, sB, sO, Nat.reduceBEq, Nat.reduceAdd, Nat.reduceLeDiff, tyF, *] at hcE)
  generalize hHb : Hp.set _ (H.next + 1) _ = Hb at hfr ⊢
  have gb : Hb.get H.next = some (.cells x.cells 0 true) := by rw [← hHb, Hp.get_set, if_neg (by omega), Hp.get_alloc, if_neg (by simp only [Hp.next_alloc]; omega), Hp.get_alloc, if_pos rfl]
  have gf : Hb.get (H.next + 1) = some (.cells [.bool (fld x.kind 0), .bool (fld x.kind 1), .bool (fld x.kind 2), .bool (fld x.kind 3), .bool (fld x.kind 4), .bool (fld x.kind 5), .bool (fld x.kind 6), .bool (fld x.kind 7)] 0 true) := by rw [← hHb, Hp.get_set, if_pos rfl]
  have nb : H.next + 2 ≤ Hb.next := by rw [← hHb]; exact Nat.le_refl _
  clear hHb
  refine Rx.cond (h1 := fun hb => ?_) (h2 := fun hb => ?_)
  · repeat' (first
       | (refine WpL.nil (hK _ _ ?_); clear hK K; try dsimp only [thenQ, blockQ]) | refine Rx.move (hk := ?_) | refine Rx.assign (hk := ?_) | refine Rx.load (hk := ?_) | refine Rx.bin (hk := ?_) | refine Rx.un (hk := ?_) | refine Rx.fieldAddr (hk := ?_) | refine Rx.indexAddr (hk := ?_) | refine Rx.len (hk := ?_) | refine Rx.pick (hk := ?_) | refine Rx.box (hk := ?_) | refine Rx.alloc (hk := ?_) | refine Rx.store (hk := ?_) | refine Rx.extract (hk := ?_) | (refine Rx.guardU (hk := ?_); dsimp only [setO]) | (refine Rx.guard (h1 := fun hg => ?_) (h2 := fun hg => ?_) <;> (try simp only [Bool.not_true, Bool.not_false, reduceCtorEq] at hg) <;> (try (cases hg; done)) <;> (try have hgp := hg) <;> (try simp only [decide_eq_true_eq, decide_eq_false_iff_not] at hgp) <;> (try dsimp only [setO])) | refine Wp.seq ?_ | (refine Wp.ops' fun K hK => ?_) | refine Wp.block ?_ | (refine Wp.skip ?_; try dsimp only [thenQ, blockQ]) | (refine Wp.ret ?_; try dsimp only [thenQ, blockQ]) | (refine Wp.exit ?_; try simp only [thenQ, blockQ, reduceIte]))
    all_goals (refine ⟨by first | exact .inl rfl | exact .inr rfl | exact .inl trivial | exact .inr trivial, _, (by (try simp only [sB, Nat.reduceBEq, resultsA, resultA, *]); first | done | with_reducible rfl), ?_⟩; try simp only [oneOr])
    refine ⟨by rw [wfSp]; (try simp only [Bool.not_eq_true', Bool.not_eq_false'] at *); simp only [*, decide_true, decide_false, Bool.false_or, Bool.or_false, Bool.true_or, Bool.or_true, Bool.false_and, Bool.and_false, Bool.true_and, Bool.and_true, Bool.not_true, Bool.not_false, if_true, if_false, Int.reduceEq], hfr, trivial⟩
  refine Wp.skip ?_
  dsimp only [thenQ, blockQ]
  refine Wp.seq ?_
  first
  | refine Wp.ops' fun K hK0 => ?_
  | (simp only [slimR, slimL, slimD, slimG, Nat.blt, Nat.ble]; refine Wp.ops' fun K hK0 => ?_)
  | (refine Wp.seq ?_; refine Wp.ops' fun K hK0 => ?_)
  have hK : ∀ E2 H2, (E2.at 2 = .ptr H.next 0 ∧ E2.at 4 = .bool false ∧ E2.at 99 = .bool (badB x) ∧ H2 = Hb) → K E2 H2 := by
    rintro E2 H2 ⟨k2, k4, k99, rfl⟩
    apply hK0
    clear hK0 K
    dsimp only [thenQ, blockQ]
    have hgood : (fldOk x.kind && nameF x.name (fld x.kind 0) && nameF x.to (fld x.kind 1) && fieldE x.at_ (fld x.kind 3) && fieldE x.value (fld x.kind 4)) = true := by (try simp only [Bool.not_eq_true', Bool.not_eq_false'] at *); simp only [*, decide_true, decide_false, Bool.false_or, Bool.or_false, Bool.true_or, Bool.or_true, Bool.false_and, Bool.and_false, Bool.true_and, Bool.and_true, Bool.not_true, Bool.not_false, if_true, if_false, Int.reduceEq]
    have hsp : wfSp x = (!badB x && wfEs x.args) := by
      have e : wfSp x = ((fldOk x.kind && nameF x.name (fld x.kind 0) && nameF x.to (fld x.kind 1) && fieldE x.at_ (fld x.kind 3) && fieldE x.value (fld x.kind 4)) && (!badB x && wfEs x.args)) := by
        simp only [wfSp, badB, Bool.not_or, Bool.not_and, Bool.not_not, Bool.and_assoc]
      rw [e, hgood, Bool.true_and]
    repeat' (first
       | (refine WpL.nil (hK _ _ ?_); clear hK K; try dsimp only [thenQ, blockQ]) | refine Rx.move (hk := ?_) | refine Rx.assign (hk := ?_) | refine Rx.load (hk := ?_) | refine Rx.bin (hk := ?_) | refine Rx.un (hk := ?_) | refine Rx.fieldAddr (hk := ?_) | refine Rx.indexAddr (hk := ?_) | refine Rx.len (hk := ?_) | refine Rx.pick (hk := ?_) | refine Rx.box (hk := ?_) | refine Rx.alloc (hk := ?_) | refine Rx.store (hk := ?_) | refine Rx.extract (hk := ?_) | (refine Rx.guardU (hk := ?_); dsimp only [setO]) | (refine Rx.guard (h1 := fun hg => ?_) (h2 := fun hg => ?_) <;> (try simp only [Bool.not_true, Bool.not_false, reduceCtorEq] at hg) <;> (try (cases hg; done)) <;> (try have hgp := hg) <;> (try simp only [decide_eq_true_eq, decide_eq_false_iff_not] at hgp) <;> (try dsimp only [setO])) | (refine Rx.cond (h1 := fun hb => ?_) (h2 := fun hb => ?_) <;> (try simp only [Bool.not_true, Bool.not_false, reduceCtorEq] at hb) <;> (try (cases hb; done)) <;> (try have hbp := hb) <;> (try simp only [decide_eq_true_eq, decide_eq_false_iff_not] at hbp)) | refine Wp.seq ?_ | (refine Wp.ops' fun K hK => ?_) | refine Wp.block ?_ | (refine Wp.skip ?_; try dsimp only [thenQ, blockQ]) | (refine Wp.ret ?_; try dsimp only [thenQ, blockQ]) | (refine Wp.exit ?_; try simp only [thenQ, blockQ, reduceIte]))
    · all_goals (refine ⟨by first | exact .inl rfl | exact .inr rfl | exact .inl trivial | exact .inr trivial, _, (by (try simp only [sB, Nat.reduceBEq, resultsA, resultA, *]); first | done | with_reducible rfl), ?_⟩; try simp only [oneOr])
      refine ⟨by rw [hsp]; (try simp only [Bool.not_eq_true', Bool.not_eq_false'] at *); simp only [*, decide_true, decide_false, Bool.false_or, Bool.or_false, Bool.true_or, Bool.or_true, Bool.false_and, Bool.and_false, Bool.true_and, Bool.and_true, Bool.not_true, Bool.not_false, if_true, if_false, Int.reduceEq], hfr, trivial⟩
    refine Wp.forI [2, 4, 101, 102] [] 103 x.args.length (fun i E H2 => wfEs x.args = wfEs (x.args.drop i) ∧ FrB 0 H H2) (by first | (simp only [sB, Nat.reduceBEq, *]; done) | rfl) ⟨by simp, hfr⟩ ?_
    rintro i E H3 hi hcE hrH hnH hsI ⟨hJ, hf2⟩
    (try simp only [forall_cons, forall_nil, and_true, sB, sO, Nat.reduceBEq, Nat.reduceAdd, Nat.reduceLeDiff, tyF, *] at hcE)
    (try simp only [forall_cons, forall_nil, and_true, sB, sO, Nat.reduceBEq, Nat.reduceAdd, Nat.reduceLeDiff, tyF, *] at hrH)
    (try simp only [Hp.next_alloc, Hp.next_set, H0_next, Nat.zero_add, Nat.reduceAdd] at hnH)
    repeat' (first
       | (refine WpL.nil (hK _ _ ?_); clear hK K; try dsimp only [thenQ, blockQ]) | refine Rx.move (hk := ?_) | refine Rx.assign (hk := ?_) | refine Rx.load (hk := ?_) | refine Rx.bin (hk := ?_) | refine Rx.un (hk := ?_) | refine Rx.fieldAddr (hk := ?_) | refine Rx.indexAddr (hk := ?_) | refine Rx.len (hk := ?_) | refine Rx.pick (hk := ?_) | refine Rx.box (hk := ?_) | refine Rx.alloc (hk := ?_) | refine Rx.store (hk := ?_) | refine Rx.extract (hk := ?_) | (refine Rx.guardU (hk := ?_); dsimp only [setO]) | (refine Rx.guard (h1 := fun hg => ?_) (h2 := fun hg => ?_) <;> (try simp only [Bool.not_true, Bool.not_false, reduceCtorEq] at hg) <;> (try (cases hg; done)) <;> (try have hgp := hg) <;> (try simp only [decide_eq_true_eq, decide_eq_false_iff_not] at hgp) <;> (try dsimp only [setO])) | (refine Rx.cond (h1 := fun hb => ?_) (h2 := fun hb => ?_) <;> (try simp only [Bool.not_true, Bool.not_false, reduceCtorEq] at hb) <;> (try (cases hb; done)) <;> (try have hbp := hb) <;> (try simp only [decide_eq_true_eq, decide_eq_false_iff_not] at hbp)) | refine Wp.seq ?_ | (refine Wp.ops' fun K hK => ?_) | refine Wp.block ?_ | (refine Wp.skip ?_; try dsimp only [thenQ, blockQ]) | (refine Wp.ret ?_; try dsimp only [thenQ, blockQ]) | (refine Wp.exit ?_; try simp only [thenQ, blockQ, reduceIte]))
    · have hlt : i < x.args.length := by simpa using hb
      have hgx : x.args[i]? = some x.args[i] := List.getElem?_eq_getElem hlt
      have hsm := exprsSz_mem (List.getElem_mem hlt)
      have hdr : wfEs (x.args.drop i) = (wfE x.args[i] && wfEs (x.args.drop (i + 1))) := by rw [List.drop_eq_getElem_cons hlt]; rfl
      repeat' (first
         | (refine WpL.nil (hK _ _ ?_); clear hK K; try dsimp only [thenQ, blockQ]) | refine Rx.move (hk := ?_) | refine Rx.assign (hk := ?_) | refine Rx.load (hk := ?_) | refine Rx.bin (hk := ?_) | refine Rx.un (hk := ?_) | refine Rx.fieldAddr (hk := ?_) | refine Rx.indexAddr (hk := ?_) | refine Rx.len (hk := ?_) | refine Rx.pick (hk := ?_) | refine Rx.box (hk := ?_) | refine Rx.alloc (hk := ?_) | refine Rx.store (hk := ?_) | refine Rx.extract (hk := ?_) | (refine Rx.guardU (hk := ?_); dsimp only [setO]) | (refine Rx.guard (h1 := fun hg => ?_) (h2 := fun hg => ?_) <;> (try simp only [Bool.not_true, Bool.not_false, reduceCtorEq] at hg) <;> (try (cases hg; done)) <;> (try have hgp := hg) <;> (try simp only [decide_eq_true_eq, decide_eq_false_iff_not] at hgp) <;> (try dsimp only [setO])) | (refine Rx.cond (h1 := fun hb => ?_) (h2 := fun hb => ?_) <;> (try simp only [Bool.not_true, Bool.not_false, reduceCtorEq] at hb) <;> (try (cases hb; done)) <;> (try have hbp := hb) <;> (try simp only [decide_eq_true_eq, decide_eq_false_iff_not] at hbp)) | refine Wp.seq ?_ | (refine Wp.ops' fun K hK => ?_) | refine Wp.block ?_ | (refine Wp.skip ?_; try dsimp only [thenQ, blockQ]) | (refine Wp.ret ?_; try dsimp only [thenQ, blockQ]) | (refine Wp.exit ?_; try simp only [thenQ, blockQ, reduceIte]))
      refine WpL.call rfl (by (try simp only [sB, Nat.reduceBEq, *, -hK]); first | done | with_reducible rfl) (by (try simp only [sB, Nat.reduceBEq, aevals, List.cons_append, List.nil_append, *, -hK]); first | done | with_reducible rfl) ?_; simp only [List.cons_append, List.nil_append, List.append_nil]
      refine WpCall.mono ?_ (wfWalk (fun _ => rfl) (fun _ => rfl) ⟨fun _ => rfl, rfl⟩ ⟨fun _ => rfl, rfl⟩ x.args[i] (by omega) _)
      rintro v H4 ⟨rfl, hf4⟩
      dsimp only [setO]
      have hf5 : FrB 0 H H4 := hf2.trans ((((FrB.refl _ _).alloc _).set (.inl (Nat.le_refl _)) _).trans hf4)
      have n4 := hf4.next
      simp only [Hp.next_set, Hp.next_alloc] at n4
      repeat' (first
         | (refine WpL.nil (hK _ _ ?_); clear hK K; try dsimp only [thenQ, blockQ]) | refine Rx.move (hk := ?_) | refine Rx.assign (hk := ?_) | refine Rx.load (hk := ?_) | refine Rx.bin (hk := ?_) | refine Rx.un (hk := ?_) | refine Rx.fieldAddr (hk := ?_) | refine Rx.indexAddr (hk := ?_) | refine Rx.len (hk := ?_) | refine Rx.pick (hk := ?_) | refine Rx.box (hk := ?_) | refine Rx.alloc (hk := ?_) | refine Rx.store (hk := ?_) | refine Rx.extract (hk := ?_) | (refine Rx.guardU (hk := ?_); dsimp only [setO]) | (refine Rx.guard (h1 := fun hg => ?_) (h2 := fun hg => ?_) <;> (try simp only [Bool.not_true, Bool.not_false, reduceCtorEq] at hg) <;> (try (cases hg; done)) <;> (try have hgp := hg) <;> (try simp only [decide_eq_true_eq, decide_eq_false_iff_not] at hgp) <;> (try dsimp only [setO])) | (refine Rx.cond (h1 := fun hb => ?_) (h2 := fun hb => ?_) <;> (try simp only [Bool.not_true, Bool.not_false, reduceCtorEq] at hb) <;> (try (cases hb; done)) <;> (try have hbp := hb) <;> (try simp only [decide_eq_true_eq, decide_eq_false_iff_not] at hbp)) | refine Wp.seq ?_ | (refine Wp.ops' fun K hK => ?_) | refine Wp.block ?_ | (refine Wp.skip ?_; try dsimp only [thenQ, blockQ]) | (refine Wp.ret ?_; try dsimp only [thenQ, blockQ]) | (refine Wp.exit ?_; try simp only [thenQ, blockQ, reduceIte]))
      all_goals (first | (refine ⟨by first | exact .inl rfl | exact .inr rfl | exact .inl trivial | exact .inr trivial, _, (by (try simp only [sB, Nat.reduceBEq, resultsA, resultA, *]); first | done | with_reducible rfl), ?_⟩; (try simp only [oneOr]); refine ⟨by rw [hsp, hJ, hdr]; (try simp only [Bool.not_eq_true', Bool.not_eq_false'] at *); simp only [*, decide_true, decide_false, Bool.false_or, Bool.or_false, Bool.true_or, Bool.or_true, Bool.false_and, Bool.and_false, Bool.true_and, Bool.and_true, Bool.not_true, Bool.not_false, if_true, if_false, Int.reduceEq], hf5, trivial⟩; done) | skip)
      refine ⟨by omega, (by simp only [forall_cons, forall_nil, and_true, sB, sO, Nat.reduceBEq, Nat.reduceAdd, Nat.reduceLeDiff, tyF, *]), (by simp only [forall_cons, forall_nil, and_true, sB, sO, Nat.reduceBEq, Nat.reduceAdd, Nat.reduceLeDiff, tyF, *]), by (try simp only [Hp.next_alloc, Hp.next_set, H0_next, Nat.zero_add, Nat.reduceAdd]); omega, (by simp only [sB, Nat.reduceBEq, *]; exact i64_succ (n := x.args.length) (by omega) (by omega)), ?_⟩
      exact ⟨by rw [hJ, hdr]; (try simp only [Bool.not_eq_true', Bool.not_eq_false'] at *); simp only [*, decide_true, decide_false, Bool.false_or, Bool.or_false, Bool.true_or, Bool.or_true, Bool.false_and, Bool.and_false, Bool.true_and, Bool.and_true, Bool.not_true, Bool.not_false, if_true, if_false, Int.reduceEq], hf5⟩
    · all_goals (refine ⟨by first | exact .inl rfl | exact .inr rfl | exact .inl trivial | exact .inr trivial, _, (by (try simp only [sB, Nat.reduceBEq, resultsA, resultA, *]); first | done | with_reducible rfl), ?_⟩; try simp only [oneOr])
      refine ⟨by rw [hsp, hJ, show i = x.args.length by simp at hb; omega, List.drop_length]; (try simp only [Bool.not_eq_true', Bool.not_eq_false'] at *); simp only [wfEs, *, decide_true, decide_false, Bool.false_or, Bool.or_false, Bool.true_or, Bool.or_true, Bool.false_and, Bool.and_false, Bool.true_and, Bool.and_true, Bool.not_true, Bool.not_false, if_true, if_false, Int.reduceEq], hf2, trivial⟩
  clear hK0
  repeat' (first
     | (refine WpL.nil (hK _ _ ?_); clear hK K; try dsimp only [thenQ, blockQ]) | refine Rx.move (hk := ?_) | refine Rx.assign (hk := ?_) | refine Rx.load (hk := ?_) | refine Rx.bin (hk := ?_) | refine Rx.un (hk := ?_) | refine Rx.fieldAddr (hk := ?_) | refine Rx.indexAddr (hk := ?_) | refine Rx.len (hk := ?_) | refine Rx.pick (hk := ?_) | refine Rx.box (hk := ?_) | refine Rx.alloc (hk := ?_) | refine Rx.store (hk := ?_) | refine Rx.extract (hk := ?_) | (refine Rx.guardU (hk := ?_); dsimp only [setO]) | (refine Rx.guard (h1 := fun hg => ?_) (h2 := fun hg => ?_) <;> (try simp only [Bool.not_true, Bool.not_false, reduceCtorEq] at hg) <;> (try (cases hg; done)) <;> (try have hgp := hg) <;> (try simp only [decide_eq_true_eq, decide_eq_false_iff_not] at hgp) <;> (try dsimp only [setO])) | refine Wp.seq ?_ | (refine Wp.ops' fun K hK => ?_) | refine Wp.block ?_ | (refine Wp.skip ?_; try dsimp only [thenQ, blockQ]) | (refine Wp.ret ?_; try dsimp only [thenQ, blockQ]) | (refine Wp.exit ?_; try simp only [thenQ, blockQ, reduceIte]))
  all_goals
    refine ⟨(by first | (simp only [sB, Nat.reduceBEq, *]; done) | rfl), (by first | (simp only [sB, Nat.reduceBEq, *]; done) | rfl), ?_, rfl⟩
    rw [badB]
    (try simp only [Bool.not_eq_true', Bool.not_eq_false'] at *)
    simp only [sB, Nat.reduceBEq, *, decide_true, decide_false, Bool.false_or, Bool.or_false, Bool.true_or, Bool.or_true, Bool.false_and, Bool.and_false, Bool.true_and, Bool.and_true, Bool.not_true, Bool.not_false]
end Go.Proofs.Ytjkmbpieknaekaa
namespace Go.Proofs.Ytjkmbpieknaekaa
set_option maxRecDepth 20000
set_option linter.unusedSimpArgs false
set_option linter.unusedVariables false
set_option linter.unusedSectionVars false
set_option linter.defProp false
open Go Go.Ab
theorem len0 (n : Nat) : (!decide ((0 : Int) < n)) = decide ((n : Int) = 0) := by
  cases n with
  | zero => rfl
  | succ n => simp; omega
theorem rng0 (n : Int) : (!decide (n < 0) && !decide (1000000 < n) && decide (n = 0)) = decide (n = 0) := by
  by_cases h : n = 0
  · subst h; rfl
  · simp [h]
theorem neg0 (n : Int) : (!decide (n < 0)) = decide (0 ≤ n) := by
  by_cases h : n < 0
  · simp [h]
  · simp [h]; omega
theorem big0 (n : Int) : (!decide (1000000 < n)) = decide (n ≤ 1000000) := by
  by_cases h : 1000000 < n
  · simp [h]
  · simp [h]; omega
theorem wfSp_eq (x : St) : wfSp x = wfStX x := by
  have hk : x.kind = 1 ∨ x.kind = 2 ∨ x.kind = 3 ∨ x.kind = 4 ∨ x.kind = 5 ∨ x.kind = 6 ∨ x.kind = 7 ∨ fldOk x.kind = false := by
    simp only [fldOk, Bool.and_eq_false_iff, decide_eq_false_iff_not]; omega
  rcases hk with hk | hk | hk | hk | hk | hk | hk | hk
  case inr.inr.inr.inr.inr.inr.inr =>
    have h : wfStK x = false := by
      simp only [fldOk, Bool.and_eq_false_iff, decide_eq_false_iff_not] at hk
      unfold wfStK
      rw [if_neg (by omega), if_neg (by omega), if_neg (by omega), if_neg (by omega), if_neg (by omega), if_neg (by omega), if_neg (by omega)]
    rw [wfSp, wfStX, hk, h]
    simp
  all_goals
    have hr := rng0 x.n
    simp only [wfSp, wfStX, wfStK, hk, fldv1, fldv2, fldv3, fldv4, fldv5, fldv6, fldv7, flatB, onlyB, nameF, fieldE, cond_true, cond_false, if_true, if_false, Int.reduceEq, Bool.true_and, Bool.and_true, Bool.false_or, Bool.true_or, len0, Bool.false_eq_true, reduceCtorEq]
    first
    | (rw [neg0, big0]; ac_rfl)
    | (rw [← hr]; ac_rfl)
mutual
theorem walk1_wf : ∀ (x : St) (d : Int), walk1 (fun x _ (s : Unit) => (wfSp x, s)) x d () = (wfSt x, ())
  | .mk k nm to n a v args th el, d => by
    rw [walk1, wfSt, wfSp_eq]
    cases h : wfStX (.mk k nm to n a v args th el) with
    | false => simp
    | true =>
      simp only [walkS_wf th, Bool.true_and]
      cases h2 : wfSs th with
      | false => simp
      | true => simp only [walkS_wf el, Bool.true_and]
theorem walkS_wf : ∀ (l : List St) (d : Int), walkS (fun x _ (s : Unit) => (wfSp x, s)) l d () = (wfSs l, ())
  | [], _ => rfl
  | x :: l, d => by
    rw [walkS, wfSs, walk1_wf x]
    cases h : wfSt x with
    | false => simp
    | true => simp only [walkS_wf l, Bool.true_and]
end
end Go.Proofs.Ytjkmbpieknaekaa
namespace Go.Proofs.Ytjkmbpieknaekaa
set_option maxRecDepth 20000
set_option linter.unusedSimpArgs false
set_option linter.unusedVariables false
set_option linter.unusedSectionVars false
set_option linter.defProp false
open Go Go.Ab
namespace tyP4d
def tyF := And.intro @sz2 (And.intro @pt2 (And.intro @bt2 (And.intro @zr2 (And.intro @sz3 (And.intro @pt3 (And.intro @bt3 (And.intro @zr3 (And.intro @sz9 (And.intro @pt9 (And.intro @bt9 (And.intro @zr9 (And.intro @ln9 (And.intro @ix9 (And.intro @sz22 (And.intro @pt22 (And.intro @bt22 (And.intro @zr22 (And.intro @ix22l (And.intro @ix22s (And.intro @ln22l (And.intro @ln22s (And.intro @ln22n (And.intro @sz23 (And.intro @pt23 (And.intro @bt23 (And.intro @zr23 (And.intro @ix23l (And.intro @ix23s (And.intro @ln23l (And.intro @ln23s (And.intro @ln23n (And.intro @sz25 (And.intro @pt25 (And.intro @bt25 (And.intro @zr25 (And.intro @fa25_0p (And.intro @fa25_0c (And.intro @fd25_0 (And.intro @fa25_1p (And.intro @fa25_1c (And.intro @fd25_1 (And.intro @sz35 (And.intro @pt35 (And.intro @bt35 (And.intro @zr35 (And.intro @ix35l (And.intro @ix35s (And.intro @ln35l (And.intro @ln35s (And.intro @ln35n (And.intro @sz36 (And.intro @pt36 (And.intro @bt36 (And.intro @zr36 (And.intro @ix36l (And.intro @ix36s (And.intro @ln36l (And.intro @ln36s (And.intro @ln36n (And.intro @sz37 (And.intro @pt37 (And.intro @bt37 (And.intro @zr37 (And.intro @ix37l (And.intro @ix37s (And.intro @ln37l (And.intro @ln37s (And.intro @ln37n (And.intro @sz39 (And.intro @pt39 (And.intro @bt39 (And.intro @zr39 (And.intro @fa39_0p (And.intro @fa39_0c (And.intro @fd39_0 (And.intro @fa39_1p (And.intro @fa39_1c (And.intro @fd39_1 (And.intro @fa39_2p (And.intro @fa39_2c (And.intro @fd39_2 (And.intro @fa39_3p (And.intro @fa39_3c (And.intro @fd39_3 (And.intro @fa39_4p (And.intro @fa39_4c (And.intro @fd39_4 (And.intro @sz41 (And.intro @pt41 (And.intro @bt41 (And.intro @zr41 (And.intro @fa41_0p (And.intro @fa41_0c (And.intro @fd41_0 (And.intro @fa41_1p (And.intro @fa41_1c (And.intro @fd41_1 (And.intro @fa41_2p (And.intro @fa41_2c (And.intro @fd41_2 (And.intro @fa41_3p (And.intro @fa41_3c (And.intro @fd41_3 (And.intro @fa41_4p (And.intro @fa41_4c (And.intro @fd41_4 (And.intro @sz44 (And.intro @pt44 (And.intro @bt44 (And.intro @zr44 (And.intro @fa44_0p (And.intro @fa44_0c (And.intro @fd44_0 (And.intro @fa44_1p (And.intro @fa44_1c (And.intro @fd44_1 (And.intro @sz46 (And.intro @pt46 (And.intro @bt46 (And.intro @zr46 (And.intro @fa46_0p (And.intro @fa46_0c (And.intro @fd46_0 (And.intro @fa46_1p (And.intro @fa46_1c (And.intro @fd46_1 (And.intro @fa46_2p (And.intro @fa46_2c (And.intro @fd46_2 (And.intro @fa46_3p (And.intro @fa46_3c (And.intro @fd46_3 (And.intro @fa46_4p (And.intro @fa46_4c (And.intro @fd46_4 (And.intro @fa46_5p (And.intro @fa46_5c (And.intro @fd46_5 (And.intro @fa46_6p (And.intro @fa46_6c (And.intro @fd46_6 (And.intro @fa46_7p (And.intro @fa46_7c (And.intro @fd46_7 (And.intro @fa46_8p (And.intro @fa46_8c (@fd46_8)))))))))))))))))))))))))))))))))))))))))))))))))))))))))))))))))))))))))))))))))))))))))))))))))))))))))))))))))))))))))))))))))))))))))))))))))))
end tyP4d
open tyP4d
noncomputable def code32 : { c : SC // slim 55 (Try.f32.body.getD .skip) = c } := by
  refine ⟨?_, ?_⟩
  rotate_left
  · simp only [Try.f32, Option.getD_some, slim, slimR, slimL, slimD, slimG, Nat.blt, Nat.ble]
    rfl
theorem fnNames_all (f : Fu) (b : List UInt8 → Bool) : (fnNames f).all b = (b f.name && f.params.all b && f.locals.all b) := by
  rw [fnNames, List.all_append, List.all_append, List.all_cons, List.all_nil, Bool.and_true]
set_option maxRecDepth 100000 in
set_option maxHeartbeats 8000000 in
theorem wellFormed_con (ρ : Nat → Int) (p : Pr) (hz : p.sz < 2 ^ 36) : Con Try.prog ρ 32 [.agg p.cells] (.bool (wfP p)) := Con.lev fit (pls := pls) (levP2_ok ρ) (.cons (.agg p.pure) .nil) (.bool _) (by
  have hw : Plain (cfgN pls levP2) 32 := plainN (fun _ => rfl) rfl
  have kn : ∀ s : List UInt8, s.length < 2 ^ 60 → ∀ H, WpCall Try.prog (cfgN pls levP2) 57 [.str s] H fun v H' => v = .bool (nameB s) ∧ H' = H := fun s h1 H => WpCall.en (enc := bsE) (out := fun x => .bool (nameB x)) bsE_inj (x := s) rfl h1
  have ks : ∀ l : List (List UInt8), strsSz l < 2 ^ 60 → ∀ H, WpCall Try.prog (cfgN pls levP2) 58 [lstS l] H fun v H' => v = .bool (l.all nameB) ∧ H' = H := fun l h1 H => WpCall.en (enc := fun l : List (List UInt8) => [lstS l]) (out := fun l => .bool (l.all nameB)) lsE_inj (x := l) rfl h1
  have hpz : p.sz = 1 + arrsSz p.arrays + fnsSz p.funcs := rfl
  have hla := arrsSz_len p.arrays
  have hlf := fnsSz_len p.funcs
  refine WpCall.slim (M := 55) (rs := [.tmp 2]) (hw.call _) hw.ice hw.froz Try.func32 rfl rfl code32.2 rfl ?_; dsimp only [code32, envOf, Nat.reduceAdd]
  repeat' (first
     | (refine WpL.nil (hK _ _ ?_); clear hK K; try dsimp only [thenQ, blockQ]) | refine Rx.move (hk := ?_) | refine Rx.assign (hk := ?_) | refine Rx.load (hk := ?_) | refine Rx.bin (hk := ?_) | refine Rx.un (hk := ?_) | refine Rx.fieldAddr (hk := ?_) | refine Rx.indexAddr (hk := ?_) | refine Rx.len (hk := ?_) | refine Rx.pick (hk := ?_) | refine Rx.box (hk := ?_) | refine Rx.alloc (hk := ?_) | refine Rx.store (hk := ?_) | (refine Rx.guardU (hk := ?_); dsimp only [setO]) | (refine Rx.guard (h1 := fun hg => ?_) (h2 := fun hg => ?_) <;> (try simp only [Bool.not_true, Bool.not_false, reduceCtorEq] at hg) <;> (try (cases hg; done)) <;> (try have hgp := hg) <;> (try simp only [decide_eq_true_eq, decide_eq_false_iff_not] at hgp) <;> (try dsimp only [setO])) | (refine Rx.cond (h1 := fun hb => ?_) (h2 := fun hb => ?_) <;> (try simp only [Bool.not_true, Bool.not_false, reduceCtorEq] at hb) <;> (try (cases hb; done)) <;> (try have hbp := hb) <;> (try simp only [decide_eq_true_eq, decide_eq_false_iff_not] at hbp)) | refine Wp.seq ?_ | (refine Wp.ops' fun K hK => ?_) | refine Wp.block ?_ | (refine Wp.skip ?_; try dsimp only [thenQ, blockQ]) | (refine Wp.ret ?_; try dsimp only [thenQ, blockQ]) | (refine Wp.exit ?_; try simp only [thenQ, blockQ, reduceIte]))
  refine Wp.forI [1, 8, 9] [0] 10 p.arrays.length (fun i E H => p.arrays.all (fun a => nameB a.name) = (p.arrays.drop i).all (fun a => nameB a.name)) (by first | (simp only [sB, Nat.reduceBEq, *]; done) | rfl) (by simp) ?_
  rintro i E H2 hi hcE hrH hnH hsI hJ
  (try simp only [forall_cons, forall_nil, and_true, sB, sO, Nat.reduceBEq, Nat.reduceAdd, Nat.reduceLeDiff, tyF, *] at hcE)
  (try simp only [forall_cons, forall_nil, and_true, sB, sO, Nat.reduceBEq, Nat.reduceAdd, Nat.reduceLeDiff, tyF, *] at hrH)
  (try simp only [Hp.next_alloc, Hp.next_set, H0_next, Nat.zero_add, Nat.reduceAdd] at hnH)
  have hB0 : (0 == H2.next) = false := ne_beq (by omega)
  have hC0 : (H2.next == 0) = false := ne_beq (by omega)
  repeat' (first
     | (refine WpL.nil (hK _ _ ?_); clear hK K; try dsimp only [thenQ, blockQ]) | refine Rx.move (hk := ?_) | refine Rx.assign (hk := ?_) | refine Rx.load (hk := ?_) | refine Rx.bin (hk := ?_) | refine Rx.un (hk := ?_) | refine Rx.fieldAddr (hk := ?_) | refine Rx.indexAddr (hk := ?_) | refine Rx.len (hk := ?_) | refine Rx.pick (hk := ?_) | refine Rx.box (hk := ?_) | refine Rx.alloc (hk := ?_) | refine Rx.store (hk := ?_) | (refine Rx.guardU (hk := ?_); dsimp only [setO]) | (refine Rx.guard (h1 := fun hg => ?_) (h2 := fun hg => ?_) <;> (try simp only [Bool.not_true, Bool.not_false, reduceCtorEq] at hg) <;> (try (cases hg; done)) <;> (try have hgp := hg) <;> (try simp only [decide_eq_true_eq, decide_eq_false_iff_not] at hgp) <;> (try dsimp only [setO])) | (refine Rx.cond (h1 := fun hb => ?_) (h2 := fun hb => ?_) <;> (try simp only [Bool.not_true, Bool.not_false, reduceCtorEq] at hb) <;> (try (cases hb; done)) <;> (try have hbp := hb) <;> (try simp only [decide_eq_true_eq, decide_eq_false_iff_not] at hbp)) | refine Wp.seq ?_ | (refine Wp.ops' fun K hK => ?_) | refine Wp.block ?_ | (refine Wp.skip ?_; try dsimp only [thenQ, blockQ]) | (refine Wp.ret ?_; try dsimp only [thenQ, blockQ]) | (refine Wp.exit ?_; try simp only [thenQ, blockQ, reduceIte]))
  · have hlt : i < p.arrays.length := by simpa using hb
    have hgx : p.arrays[i]? = some p.arrays[i] := List.getElem?_eq_getElem hlt
    have hsm := arrsSz_mem (List.getElem_mem hlt)
    have hdr : (p.arrays.drop i).all (fun a => nameB a.name) = (nameB p.arrays[i].name && (p.arrays.drop (i + 1)).all (fun a => nameB a.name)) := by rw [List.drop_eq_getElem_cons hlt, List.all_cons]
    repeat' (first
       | (refine WpL.nil (hK _ _ ?_); clear hK K; try dsimp only [thenQ, blockQ]) | refine Rx.move (hk := ?_) | refine Rx.assign (hk := ?_) | refine Rx.load (hk := ?_) | refine Rx.bin (hk := ?_) | refine Rx.un (hk := ?_) | refine Rx.fieldAddr (hk := ?_) | refine Rx.indexAddr (hk := ?_) | refine Rx.len (hk := ?_) | refine Rx.pick (hk := ?_) | refine Rx.box (hk := ?_) | refine Rx.alloc (hk := ?_) | refine Rx.store (hk := ?_) | (refine Rx.call (hk := ?_); simp only [List.cons_append, List.nil_append, List.append_nil]; refine WpCall.mono ?_ (kn _ (by omega) _); rintro _ _ ⟨rfl, rfl⟩; try dsimp only [setO]) | (refine Rx.guardU (hk := ?_); dsimp only [setO]) | (refine Rx.guard (h1 := fun hg => ?_) (h2 := fun hg => ?_) <;> (try simp only [Bool.not_true, Bool.not_false, reduceCtorEq] at hg) <;> (try (cases hg; done)) <;> (try have hgp := hg) <;> (try simp only [decide_eq_true_eq, decide_eq_false_iff_not] at hgp) <;> (try dsimp only [setO])) | (refine Rx.cond (h1 := fun hb => ?_) (h2 := fun hb => ?_) <;> (try simp only [Bool.not_true, Bool.not_false, reduceCtorEq] at hb) <;> (try (cases hb; done)) <;> (try have hbp := hb) <;> (try simp only [decide_eq_true_eq, decide_eq_false_iff_not] at hbp)) | refine Wp.seq ?_ | (refine Wp.ops' fun K hK => ?_) | refine Wp.block ?_ | (refine Wp.skip ?_; try dsimp only [thenQ, blockQ]) | (refine Wp.ret ?_; try dsimp only [thenQ, blockQ]) | (refine Wp.exit ?_; try simp only [thenQ, blockQ, reduceIte]))
    all_goals (first | (refine ⟨by first | exact .inl rfl | exact .inr rfl | exact .inl trivial | exact .inr trivial, _, (by (try simp only [sB, Nat.reduceBEq, resultsA, resultA, *]); first | done | with_reducible rfl), ?_⟩; (try simp only [oneOr]); rw [wfP, hJ, hdr]; (try simp only [Bool.not_eq_true', Bool.not_eq_false'] at *); simp only [*, decide_true, decide_false, Bool.false_or, Bool.or_false, Bool.true_or, Bool.or_true, Bool.false_and, Bool.and_false, Bool.true_and, Bool.and_true, Bool.not_true, Bool.not_false, if_true, if_false, Int.reduceEq]; done) | skip)
    refine ⟨by omega, (by simp only [forall_cons, forall_nil, and_true, sB, sO, Nat.reduceBEq, Nat.reduceAdd, Nat.reduceLeDiff, tyF, *]), (by simp only [forall_cons, forall_nil, and_true, sB, sO, Nat.reduceBEq, Nat.reduceAdd, Nat.reduceLeDiff, tyF, *]), by (try simp only [Hp.next_alloc, Hp.next_set, H0_next, Nat.zero_add, Nat.reduceAdd]); omega, (by simp only [sB, Nat.reduceBEq, *]; exact i64_succ (n := p.arrays.length) (by omega) (by omega)), ?_⟩
    rw [hJ, hdr]; (try simp only [Bool.not_eq_true', Bool.not_eq_false'] at *); simp only [*, decide_true, decide_false, Bool.false_or, Bool.or_false, Bool.true_or, Bool.or_true, Bool.false_and, Bool.and_false, Bool.true_and, Bool.and_true, Bool.not_true, Bool.not_false, if_true, if_false, Int.reduceEq]
  · have hie : i = p.arrays.length := by simp at hb; omega
    rw [hie, List.drop_length] at hJ
    have hJ' : p.arrays.all (fun a => nameB a.name) = true := hJ
    clear hJ hie hsI hi
    refine Wp.forI [20, 21] [0] 22 p.funcs.length (fun i E H => p.funcs.all wfFn = (p.funcs.drop i).all wfFn) (by first | (simp only [sB, Nat.reduceBEq, *]; done) | rfl) (by simp) ?_
    rintro i E H3 hi hcE hrH hnH hsI hJ
    (try simp only [forall_cons, forall_nil, and_true, sB, sO, Nat.reduceBEq, Nat.reduceAdd, Nat.reduceLeDiff, tyF, *] at hcE)
    (try simp only [forall_cons, forall_nil, and_true, sB, sO, Nat.reduceBEq, Nat.reduceAdd, Nat.reduceLeDiff, tyF, *] at hrH)
    (try simp only [Hp.next_alloc, Hp.next_set, H0_next, Nat.zero_add, Nat.reduceAdd] at hnH)
    have hB0 : (0 == H3.next) = false := ne_beq (by omega)
    have hC0 : (H3.next == 0) = false := ne_beq (by omega)
    repeat' (first
       | (refine WpL.nil (hK _ _ ?_); clear hK K; try dsimp only [thenQ, blockQ]) | refine Rx.move (hk := ?_) | refine Rx.assign (hk := ?_) | refine Rx.load (hk := ?_) | refine Rx.bin (hk := ?_) | refine Rx.un (hk := ?_) | refine Rx.fieldAddr (hk := ?_) | refine Rx.indexAddr (hk := ?_) | refine Rx.len (hk := ?_) | refine Rx.pick (hk := ?_) | refine Rx.box (hk := ?_) | refine Rx.alloc (hk := ?_) | refine Rx.store (hk := ?_) | (refine Rx.guardU (hk := ?_); dsimp only [setO]) | (refine Rx.guard (h1 := fun hg => ?_) (h2 := fun hg => ?_) <;> (try simp only [Bool.not_true, Bool.not_false, reduceCtorEq] at hg) <;> (try (cases hg; done)) <;> (try have hgp := hg) <;> (try simp only [decide_eq_true_eq, decide_eq_false_iff_not] at hgp) <;> (try dsimp only [setO])) | (refine Rx.cond (h1 := fun hb => ?_) (h2 := fun hb => ?_) <;> (try simp only [Bool.not_true, Bool.not_false, reduceCtorEq] at hb) <;> (try (cases hb; done)) <;> (try have hbp := hb) <;> (try simp only [decide_eq_true_eq, decide_eq_false_iff_not] at hbp)) | refine Wp.seq ?_ | (refine Wp.ops' fun K hK => ?_) | refine Wp.block ?_ | (refine Wp.skip ?_; try dsimp only [thenQ, blockQ]) | (refine Wp.ret ?_; try dsimp only [thenQ, blockQ]) | (refine Wp.exit ?_; try simp only [thenQ, blockQ, reduceIte]))
    · have hlt : i < p.funcs.length := by simpa using hb
      have hgx : p.funcs[i]? = some p.funcs[i] := List.getElem?_eq_getElem hlt
      have hsm := fnsSz_mem (List.getElem_mem hlt)
      have hsz : p.funcs[i].sz = 1 + p.funcs[i].name.length + strsSz p.funcs[i].params + strsSz p.funcs[i].locals + stmtsSz p.funcs[i].body + p.funcs[i].value.sz := rfl
      have hdr : (p.funcs.drop i).all wfFn = (wfFn p.funcs[i] && (p.funcs.drop (i + 1)).all wfFn) := by rw [List.drop_eq_getElem_cons hlt, List.all_cons]
      have hfn : wfFn p.funcs[i] = (nameB p.funcs[i].name && p.funcs[i].params.all nameB && p.funcs[i].locals.all nameB && wfSs p.funcs[i].body && wfE p.funcs[i].value) := by rw [wfFn, fnNames_all]
      repeat' (first
         | (refine WpL.nil (hK _ _ ?_); clear hK K; try dsimp only [thenQ, blockQ]) | refine Rx.move (hk := ?_) | refine Rx.assign (hk := ?_) | refine Rx.load (hk := ?_) | refine Rx.bin (hk := ?_) | refine Rx.un (hk := ?_) | refine Rx.fieldAddr (hk := ?_) | refine Rx.indexAddr (hk := ?_) | refine Rx.len (hk := ?_) | refine Rx.pick (hk := ?_) | refine Rx.box (hk := ?_) | refine Rx.alloc (hk := ?_) | refine Rx.store (hk := ?_) | (refine Rx.call (hk := ?_); simp only [List.cons_append, List.nil_append, List.append_nil]; refine WpCall.mono ?_ (kn _ (by omega) _); rintro _ _ ⟨rfl, rfl⟩; try dsimp only [setO]) | (refine Rx.call (hk := ?_); simp only [List.cons_append, List.nil_append, List.append_nil]; refine WpCall.mono ?_ (ks _ (by omega) _); rintro _ _ ⟨rfl, rfl⟩; try dsimp only [setO]) | (refine Rx.guardU (hk := ?_); dsimp only [setO]) | (refine Rx.guard (h1 := fun hg => ?_) (h2 := fun hg => ?_) <;> (try simp only [Bool.not_true, Bool.not_false, reduceCtorEq] at hg) <;> (try (cases hg; done)) <;> (try have hgp := hg) <;> (try simp only [decide_eq_true_eq, decide_eq_false_iff_not] at hgp) <;> (try dsimp only [setO])) | (refine Rx.cond (h1 := fun hb => ?_) (h2 := fun hb => ?_) <;> (try simp only [Bool.not_true, Bool.not_false, reduceCtorEq] at hb) <;> (try (cases hb; done)) <;> (try have hbp := hb) <;> (try simp only [decide_eq_true_eq, decide_eq_false_iff_not] at hbp)) | refine Wp.seq ?_ | (refine Wp.ops' fun K hK => ?_) | refine Wp.block ?_
         | (refine Wp.skip ?_; try dsimp only [thenQ, blockQ]) | (refine Wp.ret ?_; try dsimp only [thenQ, blockQ]) | (refine Wp.exit ?_; try simp only [thenQ, blockQ, reduceIte]))
      · refine WpL.call rfl (by (try simp only [sB, Nat.reduceBEq, *, -hK]); first | done | with_reducible rfl) (by (try simp only [sB, Nat.reduceBEq, aevals, List.cons_append, List.nil_append, *, -hK]); first | done | with_reducible rfl) ?_; simp only [List.cons_append, List.nil_append, List.append_nil]
        refine WpCall.mono ?_ (wfWalk (fun _ => rfl) (fun _ => rfl) ⟨fun _ => rfl, rfl⟩ ⟨fun _ => rfl, rfl⟩ p.funcs[i].value (by omega) _)
        rintro v H4 ⟨rfl, hf4⟩
        have hn4 := hf4.next
        simp only [Hp.next_set, Hp.next_alloc] at hn4
        have g4 : H4.get H3.next = some (.cells p.funcs[i].cells 0 true) := by rw [hf4.get _ (Nat.zero_le _) (by simp only [Hp.next_set, Hp.next_alloc]; omega), Hp.get_set, if_pos rfl]
        have g40 : H4.get 0 = some (.cells p.cells 0 true) := by rw [hf4.get _ (Nat.zero_le _) (by simp only [Hp.next_set, Hp.next_alloc]; omega), Hp.get_set, if_neg (by omega), Hp.get_alloc, if_neg (by omega)]; exact hrH
        dsimp only [setO]
        repeat' (first
           | (refine WpL.nil (hK _ _ ?_); clear hK K; try dsimp only [thenQ, blockQ]) | refine Rx.move (hk := ?_) | refine Rx.assign (hk := ?_) | refine Rx.load (hk := ?_) | refine Rx.bin (hk := ?_) | refine Rx.un (hk := ?_) | refine Rx.fieldAddr (hk := ?_) | refine Rx.indexAddr (hk := ?_) | refine Rx.len (hk := ?_) | refine Rx.pick (hk := ?_) | refine Rx.box (hk := ?_) | refine Rx.alloc (hk := ?_) | refine Rx.store (hk := ?_) | (refine Rx.guardU (hk := ?_); dsimp only [setO]) | (refine Rx.guard (h1 := fun hg => ?_) (h2 := fun hg => ?_) <;> (try simp only [Bool.not_true, Bool.not_false, reduceCtorEq] at hg) <;> (try (cases hg; done)) <;> (try have hgp := hg) <;> (try simp only [decide_eq_true_eq, decide_eq_false_iff_not] at hgp) <;> (try dsimp only [setO])) | (refine Rx.cond (h1 := fun hb => ?_) (h2 := fun hb => ?_) <;> (try simp only [Bool.not_true, Bool.not_false, reduceCtorEq] at hb) <;> (try (cases hb; done)) <;> (try have hbp := hb) <;> (try simp only [decide_eq_true_eq, decide_eq_false_iff_not] at hbp)) | refine Wp.seq ?_ | (refine Wp.ops' fun K hK => ?_) | refine Wp.block ?_ | (refine Wp.skip ?_; try dsimp only [thenQ, blockQ]) | (refine Wp.ret ?_; try dsimp only [thenQ, blockQ]) | (refine Wp.exit ?_; try simp only [thenQ, blockQ, reduceIte]))
        · refine WpL.call rfl (by (try simp only [sB, Nat.reduceBEq, *, -hK]); first | done | with_reducible rfl) (by (try simp only [sB, Nat.reduceBEq, aevals, List.cons_append, List.nil_append, *, -hK]); first | done | with_reducible rfl) ?_; simp only [List.cons_append, List.nil_append, List.append_nil]
          refine WpCall.mono ?_ (walkStmts_wp (plainN (fun _ => rfl) rfl) (I := fun (_ : Unit) _ => True) (fun _ _ _ _ _ => trivial) wfsVisit (stmtsSz p.funcs[i].body + 1) p.funcs[i].body (by omega) 0 () H4 (by omega) (Nat.zero_le _) trivial)
          rintro v H5 ⟨rfl, hf5, _⟩
          have hn5 := hf5.next
          have g50 : H5.get 0 = some (.cells p.cells 0 true) := by rw [hf5.get _ (Nat.zero_le _) (by omega)]; exact g40
          rw [walkS_wf]
          dsimp only [setO]
          repeat' (first
             | (refine WpL.nil (hK _ _ ?_); clear hK K; try dsimp only [thenQ, blockQ]) | refine Rx.move (hk := ?_) | refine Rx.assign (hk := ?_) | refine Rx.load (hk := ?_) | refine Rx.bin (hk := ?_) | refine Rx.un (hk := ?_) | refine Rx.fieldAddr (hk := ?_) | refine Rx.indexAddr (hk := ?_) | refine Rx.len (hk := ?_) | refine Rx.pick (hk := ?_) | refine Rx.box (hk := ?_) | refine Rx.alloc (hk := ?_) | refine Rx.store (hk := ?_) | (refine Rx.guardU (hk := ?_); dsimp only [setO]) | (refine Rx.guard (h1 := fun hg => ?_) (h2 := fun hg => ?_) <;> (try simp only [Bool.not_true, Bool.not_false, reduceCtorEq] at hg) <;> (try (cases hg; done)) <;> (try have hgp := hg) <;> (try simp only [decide_eq_true_eq, decide_eq_false_iff_not] at hgp) <;> (try dsimp only [setO])) | (refine Rx.cond (h1 := fun hb => ?_) (h2 := fun hb => ?_) <;> (try simp only [Bool.not_true, Bool.not_false, reduceCtorEq] at hb) <;> (try (cases hb; done)) <;> (try have hbp := hb) <;> (try simp only [decide_eq_true_eq, decide_eq_false_iff_not] at hbp)) | refine Wp.seq ?_ | (refine Wp.ops' fun K hK => ?_) | refine Wp.block ?_ | (refine Wp.skip ?_; try dsimp only [thenQ, blockQ]) | (refine Wp.ret ?_; try dsimp only [thenQ, blockQ]) | (refine Wp.exit ?_; try simp only [thenQ, blockQ, reduceIte]))
          all_goals (first | (refine ⟨by first | exact .inl rfl | exact .inr rfl | exact .inl trivial | exact .inr trivial, _, (by (try simp only [sB, Nat.reduceBEq, resultsA, resultA, *]); first | done | with_reducible rfl), ?_⟩; (try simp only [oneOr]); rw [wfP, hJ', hJ, hdr, hfn]; (try simp only [Bool.not_eq_true', Bool.not_eq_false'] at *); simp only [*, decide_true, decide_false, Bool.false_or, Bool.or_false, Bool.true_or, Bool.or_true, Bool.false_and, Bool.and_false, Bool.true_and, Bool.and_true, Bool.not_true, Bool.not_false, if_true, if_false, Int.reduceEq]; done) | skip)
          refine ⟨by omega, (by simp only [forall_cons, forall_nil, and_true, sB, sO, Nat.reduceBEq, Nat.reduceAdd, Nat.reduceLeDiff, tyF, *]), (by simp only [forall_cons, forall_nil, and_true, sB, sO, Nat.reduceBEq, Nat.reduceAdd, Nat.reduceLeDiff, tyF, *]), by (try simp only [Hp.next_alloc, Hp.next_set, H0_next, Nat.zero_add, Nat.reduceAdd]); omega, (by simp only [sB, Nat.reduceBEq, *]; exact i64_succ (n := p.funcs.length) (by omega) (by omega)), ?_⟩
          rw [hJ, hdr, hfn]; (try simp only [Bool.not_eq_true', Bool.not_eq_false'] at *); simp only [*, decide_true, decide_false, Bool.false_or, Bool.or_false, Bool.true_or, Bool.or_true, Bool.false_and, Bool.and_false, Bool.true_and, Bool.and_true, Bool.not_true, Bool.not_false, if_true, if_false, Int.reduceEq]
        all_goals skip
        all_goals (first | (refine ⟨by first | exact .inl rfl | exact .inr rfl | exact .inl trivial | exact .inr trivial, _, (by (try simp only [sB, Nat.reduceBEq, resultsA, resultA, *]); first | done | with_reducible rfl), ?_⟩; (try simp only [oneOr]); rw [wfP, hJ', hJ, hdr, hfn]; (try simp only [Bool.not_eq_true', Bool.not_eq_false'] at *); simp only [*, decide_true, decide_false, Bool.false_or, Bool.or_false, Bool.true_or, Bool.or_true, Bool.false_and, Bool.and_false, Bool.true_and, Bool.and_true, Bool.not_true, Bool.not_false, if_true, if_false, Int.reduceEq]; done) | skip)
      all_goals skip
      all_goals (first | (refine ⟨by first | exact .inl rfl | exact .inr rfl | exact .inl trivial | exact .inr trivial, _, (by (try simp only [sB, Nat.reduceBEq, resultsA, resultA, *]); first | done | with_reducible rfl), ?_⟩; (try simp only [oneOr]); rw [wfP, hJ', hJ, hdr, hfn]; (try simp only [Bool.not_eq_true', Bool.not_eq_false'] at *); simp only [*, decide_true, decide_false, Bool.false_or, Bool.or_false, Bool.true_or, Bool.or_true, Bool.false_and, Bool.and_false, Bool.true_and, Bool.and_true, Bool.not_true, Bool.not_false, if_true, if_false, Int.reduceEq]; done) | skip)
    · all_goals (refine ⟨by first | exact .inl rfl | exact .inr rfl | exact .inl trivial | exact .inr trivial, _, (by (try simp only [sB, Nat.reduceBEq, resultsA, resultA, *]); first | done | with_reducible rfl), ?_⟩; try simp only [oneOr])
      have hie : i = p.funcs.length := by simp at hb; omega
      rw [hie, List.drop_length] at hJ
      have hJ2 : p.funcs.all wfFn = true := hJ
      rw [wfP, hJ', hJ2]; rfl)
end Go.Proofs.Ytjkmbpieknaekaa
namespace Go.Proofs.Ytjkmbpieknaekaa
set_option maxRecDepth 20000
set_option linter.unusedSimpArgs false
set_option linter.unusedVariables false
set_option linter.unusedSectionVars false
set_option linter.defProp false
open Go Go.Ab
namespace tyP4h
def tyF := And.intro @sz22 (And.intro @pt22 (And.intro @bt22 (And.intro @zr22 (And.intro @ix22l (And.intro @ix22s (And.intro @ln22l (And.intro @ln22s (And.intro @ln22n (And.intro @sz23 (And.intro @pt23 (And.intro @bt23 (And.intro @zr23 (And.intro @ix23l (And.intro @ix23s (And.intro @ln23l (And.intro @ln23s (And.intro @ln23n (And.intro @sz25 (And.intro @pt25 (And.intro @bt25 (And.intro @zr25 (And.intro @fa25_0p (And.intro @fa25_0c (And.intro @fd25_0 (And.intro @fa25_1p (And.intro @fa25_1c (@fd25_1)))))))))))))))))))))))))))
end tyP4h
open tyP4h
noncomputable def code14 : { c : SC // slim 16 (Try.f14.body.getD .skip) = c } := by
  refine ⟨?_, ?_⟩
  rotate_left
  · simp only [Try.f14, Option.getD_some, slim, slimR, slimL, slimD, slimG, Nat.blt, Nat.ble]
    rfl
noncomputable def enLim : En := ⟨31, false, spP (fun p => p.sz < 2 ^ 36) prE fun p => .bool (limP p)⟩
theorem limits_con (ρ : Nat → Int) (p : Pr) (hz : p.sz < 2 ^ 36) : Con Try.prog ρ 31 (prE p) (.bool (limP p)) := Con.lev fit (pls := pls) (l := []) trivial (.cons (.agg p.pure) .nil) (.bool _) (limits_wp ⟨plain0 _, plain0 _, plain0 _, plain0 _⟩ (plain0 _) (plain0 _) (plain0 _) p (by omega))
theorem enLim_ok (ρ : Nat → Int) : EnOk Try.prog ρ enLim := spP_ok fun p hp => limits_con ρ p hp
noncomputable def enWfP : En := ⟨32, false, spP (fun p => p.sz < 2 ^ 36) prE fun p => .bool (wfP p)⟩
theorem enWfP_ok (ρ : Nat → Int) : EnOk Try.prog ρ enWfP := spP_ok fun p hp => wellFormed_con ρ p hp
noncomputable def enDups : En := ⟨33, false, spP (fun p => p.sz < 2 ^ 36) prE fun p => .bool (dupB p)⟩
theorem enDups_ok (ρ : Nat → Int) : EnOk Try.prog ρ enDups := spP_ok fun p hp => duplicates_con ρ p hp
noncomputable def enRsl : En := ⟨34, false, spP (fun p => p.sz < 2 ^ 36) prE fun p => .int .i64 (resP p)⟩
theorem enRsl_ok (ρ : Nat → Int) : EnOk Try.prog ρ enRsl := spP_ok fun p hp => resolve_con ρ p hp
noncomputable def levChk : List En := [enLim, enWfP, enDups, enRsl]
theorem levChk_ok (ρ : Nat → Int) : EnsOk Try.prog ρ levChk := ⟨enLim_ok ρ, enWfP_ok ρ, enDups_ok ρ, enRsl_ok ρ, trivial⟩
set_option maxHeartbeats 8000000 in
theorem pcheck_con (ρ : Nat → Int) (p : Pr) (hz : p.sz < 2 ^ 36) : Con Try.prog ρ 14 (prE p) (.int .i64 (refCheck p)) := Con.lev fit (pls := pls) (levChk_ok ρ) (.cons (.agg p.pure) .nil) (.int _ _) (by
  have hw : Plain (cfgN pls levChk) 14 := plainN (fun _ => rfl) rfl
  have kl : ∀ H, WpCall Try.prog (cfgN pls levChk) 31 [.agg p.cells] H fun v H' => v = .bool (limP p) ∧ H' = H := fun H => WpCall.en (enc := prE) (out := fun p => .bool (limP p)) prE_inj (x := p) rfl hz
  have kw : ∀ H, WpCall Try.prog (cfgN pls levChk) 32 [.agg p.cells] H fun v H' => v = .bool (wfP p) ∧ H' = H := fun H => WpCall.en (enc := prE) (out := fun p => .bool (wfP p)) prE_inj (x := p) rfl hz
  have kd : ∀ H, WpCall Try.prog (cfgN pls levChk) 33 [.agg p.cells] H fun v H' => v = .bool (dupB p) ∧ H' = H := fun H => WpCall.en (enc := prE) (out := fun p => .bool (dupB p)) prE_inj (x := p) rfl hz
  have kr : ∀ H, WpCall Try.prog (cfgN pls levChk) 34 [.agg p.cells] H fun v H' => v = .int .i64 (resP p) ∧ H' = H := fun H => WpCall.en (enc := prE) (out := fun p => .int .i64 (resP p)) prE_inj (x := p) rfl hz
  rw [prE, ← proCheck_eq]
  refine WpCall.slim (M := 16) (rs := [.tmp 2]) (hw.call _) hw.ice hw.froz Try.func14 rfl rfl code14.2 rfl ?_; dsimp only [code14, envOf, Nat.reduceAdd]
  repeat' (first
     | (refine WpL.nil (hK _ _ ?_); clear hK K; try dsimp only [thenQ, blockQ]) | refine Rx.assign (hk := ?_) | refine Rx.load (hk := ?_) | refine Rx.un (hk := ?_) | refine Rx.box (hk := ?_) | (refine Rx.call (hk := ?_); simp only [List.cons_append, List.nil_append, List.append_nil]; refine WpCall.mono ?_ (kl _); rintro _ _ ⟨rfl, rfl⟩; try dsimp only [setO]) | (refine Rx.call (hk := ?_); simp only [List.cons_append, List.nil_append, List.append_nil]; refine WpCall.mono ?_ (kw _); rintro _ _ ⟨rfl, rfl⟩; try dsimp only [setO]) | (refine Rx.call (hk := ?_); simp only [List.cons_append, List.nil_append, List.append_nil]; refine WpCall.mono ?_ (kd _); rintro _ _ ⟨rfl, rfl⟩; try dsimp only [setO]) | (refine Rx.call (hk := ?_); simp only [List.cons_append, List.nil_append, List.append_nil]; refine WpCall.mono ?_ (kr _); rintro _ _ ⟨rfl, rfl⟩; try dsimp only [setO]) | (refine Rx.cond (h1 := fun hb => ?_) (h2 := fun hb => ?_) <;> (try simp only [Bool.not_true, Bool.not_false, reduceCtorEq] at hb) <;> (try (cases hb; done)) <;> (try have hbp := hb) <;> (try simp only [decide_eq_true_eq, decide_eq_false_iff_not] at hbp)) | refine Wp.seq ?_ | (refine Wp.ops' fun K hK => ?_) | refine Wp.block ?_ | (refine Wp.skip ?_; try dsimp only [thenQ, blockQ]) | (refine Wp.ret ?_; try dsimp only [thenQ, blockQ]) | (refine Wp.exit ?_; try simp only [thenQ, blockQ, reduceIte]))
  all_goals
    all_goals (refine ⟨by first | exact .inl rfl | exact .inr rfl | exact .inl trivial | exact .inr trivial, _, (by (try simp only [sB, Nat.reduceBEq, resultsA, resultA, *]); first | done | with_reducible rfl), ?_⟩; try simp only [oneOr])
    rw [proCheck]
    (try simp only [Bool.not_eq_true', Bool.not_eq_false'] at *); simp only [Bool.true_eq_false, Bool.false_eq_true, *, decide_true, decide_false, Bool.false_or, Bool.or_false, Bool.true_or, Bool.or_true, Bool.false_and, Bool.and_false, Bool.true_and, Bool.and_true, Bool.not_true, Bool.not_false, if_true, if_false, Int.reduceEq])
end Go.Proofs.Ytjkmbpieknaekaa
namespace Go.Proofs.Ytjkmbpieknaekaa
set_option maxRecDepth 20000
set_option linter.unusedSimpArgs false
set_option linter.unusedVariables false
set_option linter.unusedSectionVars false
set_option linter.defProp false
open Go Go.Ab
namespace tyG1
def tyF := And.intro @sz3 (And.intro @pt3 (And.intro @bt3 (And.intro @zr3 (And.intro @sz2 (And.intro @pt2 (And.intro @bt2 (And.intro @zr2 (And.intro @sz52 (And.intro @pt52 (And.intro @bt52 (And.intro @zr52 (And.intro @ix52l (And.intro @ix52s (And.intro @ln52l (And.intro @ln52s (And.intro @ln52n (And.intro @sz9 (And.intro @pt9 (And.intro @bt9 (And.intro @zr9 (And.intro @ln9 (And.intro @ix9 (And.intro @sz35 (And.intro @pt35 (And.intro @bt35 (And.intro @zr35 (And.intro @ix35l (And.intro @ix35s (And.intro @ln35l (And.intro @ln35s (And.intro @ln35n (And.intro @bin_rem (@bin_quo)))))))))))))))))))))))))))))))))
end tyG1
open tyG1
noncomputable def code17 : { c : SC // slim 14 (Try.f17.body.getD .skip) = c } := by
  refine ⟨?_, ?_⟩
  rotate_left
  · simp only [Try.f17, Option.getD_some, slim, slimR, slimL, slimD, slimG, Nat.blt, Nat.ble]
    rfl
def pickG (n m : Int) : Int := if n.tmod m < 0 then w64 (n.tmod m + m) else n.tmod m
theorem pickG_range {n m : Int} (h : 0 < m) (h2 : m < 2 ^ 62) : 0 ≤ pickG n m ∧ pickG n m < m := by
  unfold pickG
  have h3 := Int.tmod_lt_of_pos n h
  have h4 : -m < n.tmod m := by
    have := Int.tmod_lt_of_pos (-n) h
    rw [Int.neg_tmod] at this
    omega
  split
  · unfold w64
    rw [IntWalk.i64_in _ (by omega)]; omega
  · omega
def pkE (x : Int × Int) : List AV := [.int .i64 x.1, .int .i64 x.2]
theorem pkE_inj (x y : Int × Int) (h : pkE x = pkE y) : x = y := by
  simp only [pkE, List.cons.injEq, AV.int.injEq, and_true, true_and] at h
  exact Prod.ext h.1 h.2
theorem pick_con (ρ : Nat → Int) (x : Int × Int) (hx : x.2 ≠ 0) : Con Try.prog ρ 17 (pkE x) (.int .i64 (pickG x.1 x.2)) := Con.lev fit (pls := pls) (l := []) trivial (.cons (.int _ _) (.cons (.int _ _) .nil)) (.int _ _) (by
  have hw := plain0 17
  obtain ⟨n, m⟩ := x
  rw [pkE]
  simp only [] at hx ⊢
  refine WpCall.slim (M := 14) (rs := [.tmp 4]) (hw.call _) hw.ice hw.froz Try.func17 rfl rfl code17.2 rfl ?_; dsimp only [code17, envOf, Nat.reduceAdd]
  repeat' (first
     | (refine WpL.nil (hK _ _ ?_); clear hK K; try dsimp only [thenQ, blockQ]) | refine Rx.move (hk := ?_) | refine Rx.assign (hk := ?_) | refine Rx.bin (hk := ?_) | (refine Rx.cond (h1 := fun hb => ?_) (h2 := fun hb => ?_) <;> (try simp only [Bool.not_true, Bool.not_false, reduceCtorEq] at hb) <;> (try (cases hb; done)) <;> (try have hbp := hb) <;> (try simp only [decide_eq_true_eq, decide_eq_false_iff_not] at hbp)) | refine Wp.seq ?_ | (refine Wp.ops' fun K hK => ?_) | refine Wp.block ?_ | (refine Wp.skip ?_; try dsimp only [thenQ, blockQ]) | (refine Wp.ret ?_; try dsimp only [thenQ, blockQ]) | (refine Wp.exit ?_; try simp only [thenQ, blockQ, reduceIte]))
  all_goals (refine ⟨by first | exact .inl rfl | exact .inr rfl | exact .inl trivial | exact .inr trivial, _, (by (try simp only [sB, Nat.reduceBEq, resultsA, resultA, *]); first | done | with_reducible rfl), ?_⟩; try simp only [oneOr])
  all_goals (simp_all [pickG]; try omega))
noncomputable def enPick : En := ⟨17, false, spP (fun x => x.2 ≠ 0) pkE fun x => .int .i64 (pickG x.1 x.2)⟩
theorem enPick_ok (ρ : Nat → Int) : EnOk Try.prog ρ enPick := spP_ok fun x hx => pick_con ρ x hx
theorem pick_en {l : List En} (hl : ∀ ar, lookN l 17 ar = enPick.sp ar) (n m : Int) (hm : m ≠ 0) (H : Hp) : WpCall Try.prog (cfgN pls l) 17 [.int .i64 n, .int .i64 m] H fun v H' => v = .int .i64 (pickG n m) ∧ H' = H :=
  WpCall.en (enc := pkE) (ok := fun x => x.2 ≠ 0) (out := fun x => .int .i64 (pickG x.1 x.2)) pkE_inj (x := (n, m)) (hl _) hm
def nmsG (f : Int) : List (List UInt8) := if f = 0 then [[120], [121], [105], [106]] else [[110], [105]]
theorem nms2 (H : Hp) (a b : List UInt8) : buildSliceA Try.prog H 35 2 [(0, .str a), (1, .str b)] = some (.sl H.next 0 2 1, H.alloc (.cells [.str a, .str b] 0 true)) := by kernel_rfl
end Go.Proofs.Ytjkmbpieknaekaa
namespace Go.Proofs.Ytjkmbpieknaekaa
set_option maxRecDepth 20000
set_option linter.unusedSimpArgs false
set_option linter.unusedVariables false
set_option linter.unusedSectionVars false
set_option linter.defProp false
open Go Go.Ab
namespace tyG2
def tyF := And.intro @sz3 (And.intro @pt3 (And.intro @bt3 (And.intro @zr3 (And.intro @sz26 (And.intro @pt26 (And.intro @bt26 (And.intro @zr26 (And.intro @ix26l (And.intro @ix26s (And.intro @ln26l (And.intro @ln26s (And.intro @ln26n (And.intro @sz70 (And.intro @pt70 (And.intro @bt70 (And.intro @zr70 (And.intro @fa70_0p (And.intro @fa70_0c (And.intro @fd70_0 (And.intro @fa70_1p (And.intro @fa70_1c (@fd70_1))))))))))))))))))))))
end tyG2
open tyG2
/-- The value v reads asx w, nil for rows without elements. -/
def RdW (S : Nat → Prop) (n : Nat) (H : Hp) (v w : AV) : Prop := ∃ u, Ic S n H v u ∧ ∀ m, n ≤ m → wkN m u = w
def CellsW (S : Nat → Prop) (n : Nat) (H : Hp) (cs ws : List AV) : Prop := ∃ us, All2 (Ic S n H) cs us ∧ ∀ m, n ≤ m → us.map (wkN m) = ws
theorem RdW.frame {S S' : Nat → Prop} (hS : ∀ k, S k → S' k) {n : Nat} {H H' : Hp} {v w : AV} (h : RdW S n H v w) (hn : H.next ≤ H'.next) (hf : ∀ k, S k → k < H.next → SameB (H.get k) (H'.get k)) : RdW S' n H' v w := by
  obtain ⟨u, h1, h2⟩ := h
  exact ⟨u, h1.frame hS hn hf, h2⟩
theorem CellsW.frame {S S' : Nat → Prop} (hS : ∀ k, S k → S' k) {n : Nat} {H H' : Hp} {v w : List AV} (h : CellsW S n H v w) (hn : H.next ≤ H'.next) (hf : ∀ k, S k → k < H.next → SameB (H.get k) (H'.get k)) : CellsW S' n H' v w := by
  obtain ⟨u, h1, h2⟩ := h
  exact ⟨u, h1.mono fun a b k => k.frame hS hn hf, h2⟩
theorem CellsW.keep {S S' : Nat → Prop} (hS : ∀ k, S k → S' k) {n : Nat} {H H' : Hp} {v w : List AV} (h : CellsW S n H v w) (hn : H.next ≤ H'.next) (hf : ∀ k, S k → k < H.next → H'.get k = H.get k) : CellsW S' n H' v w := h.frame hS hn fun k h1 h2 => .inl (hf k h1 h2).symm
theorem RdW.keep {S S' : Nat → Prop} (hS : ∀ k, S k → S' k) {n : Nat} {H H' : Hp} {v w : AV} (h : RdW S n H v w) (hn : H.next ≤ H'.next) (hf : ∀ k, S k → k < H.next → H'.get k = H.get k) : RdW S' n H' v w := h.frame hS hn fun k h1 h2 => .inl (hf k h1 h2).symm
theorem RdW.up {S : Nat → Prop} {n m : Nat} {H : Hp} {v w : AV} (h : RdW S n H v w) (hm : n ≤ m) : RdW S m H v w := by
  obtain ⟨u, h1, h2⟩ := h
  exact ⟨u, h1.up hm, fun k hk => h2 k (by omega)⟩
theorem CellsW.up {S : Nat → Prop} {n m : Nat} {H : Hp} {v w : List AV} (h : CellsW S n H v w) (hm : n ≤ m) : CellsW S m H v w := by
  obtain ⟨u, h1, h2⟩ := h
  exact ⟨u, h1.mono fun a b k => k.up hm, fun k hk => h2 k (by omega)⟩
theorem CellsW.nil {S : Nat → Prop} {n : Nat} {H : Hp} : CellsW S n H [] [] := ⟨[], trivial, fun _ _ => rfl⟩
theorem CellsW.cons {S : Nat → Prop} {n : Nat} {H : Hp} {v w : AV} {cs ws : List AV} (h : RdW S n H v w) (k : CellsW S n H cs ws) : CellsW S n H (v :: cs) (w :: ws) := by
  obtain ⟨u, h1, h2⟩ := h
  obtain ⟨us, h3, h4⟩ := k
  exact ⟨u :: us, ⟨h1, h3⟩, fun m hm => by rw [List.map_cons, h2 m hm, h4 m hm]⟩
theorem CellsW.append {S : Nat → Prop} {n : Nat} {H : Hp} : ∀ {a b c d : List AV}, CellsW S n H a b → CellsW S n H c d → CellsW S n H (a ++ c) (b ++ d)
  | a, b, c, d, ⟨u, h1, h2⟩, ⟨v, h3, h4⟩ => ⟨u ++ v, h1.append h3, fun m hm => by rw [List.map_append, h2 m hm, h4 m hm]⟩
theorem All2.split {α β : Type} {p : α → β → Prop} : ∀ {a b : List α} {m : List β}, All2 p (a ++ b) m → ∃ m1 m2, m = m1 ++ m2 ∧ All2 p a m1 ∧ All2 p b m2
  | [], b, m, h => ⟨[], m, rfl, trivial, h⟩
  | x :: a, b, [], h => h.elim
  | x :: a, b, y :: m, h => by
    obtain ⟨m1, m2, e, h1, h2⟩ := All2.split h.2
    exact ⟨y :: m1, m2, by rw [e]; rfl, ⟨h.1, h1⟩, h2⟩
theorem CellsW.split {S : Nat → Prop} {n : Nat} {H : Hp} {a c b d : List AV} (h : CellsW S n H (a ++ c) (b ++ d)) (hl : a.length = b.length) : CellsW S n H a b ∧ CellsW S n H c d := by
  obtain ⟨u, h1, h2⟩ := h
  obtain ⟨m1, m2, rfl, h3, h4⟩ := All2.split h1
  have e : ∀ m, n ≤ m → m1.map (wkN m) = b ∧ m2.map (wkN m) = d := fun m hm => by
    have := h2 m hm
    rw [List.map_append] at this
    exact List.append_inj this (by rw [List.length_map, ← h3.len, hl])
  exact ⟨⟨m1, h3, fun m hm => (e m hm).1⟩, ⟨m2, h4, fun m hm => (e m hm).2⟩⟩
theorem RdW.flat {S : Nat → Prop} {n : Nat} {H : Hp} {v : AV} (h : flatA v) (hk : ∀ m, wkN m v = v) : RdW S (n + 1) H v v := ⟨v, Ic.flat h, fun m _ => hk m⟩
theorem RdW.int {S : Nat → Prop} {n : Nat} {H : Hp} (k : IntKind) (x : Int) : RdW S (n + 1) H (.int k x) (.int k x) := .flat ⟨.int _ _, trivial⟩ fun m => by cases m <;> rfl
theorem RdW.str {S : Nat → Prop} {n : Nat} {H : Hp} (s : List UInt8) : RdW S (n + 1) H (.str s) (.str s) := .flat ⟨.str _, trivial⟩ fun m => by cases m <;> rfl
theorem RdW.nilS {S : Nat → Prop} {n : Nat} {H : Hp} : RdW S (n + 1) H .nilS (.lst []) := ⟨.nilS, Ic.flat ⟨.nilS, trivial⟩, fun m hm => by
  obtain ⟨m, rfl⟩ : ∃ k, m = k + 1 := ⟨m - 1, by omega⟩
  rfl⟩
theorem RdW.lst0 {S : Nat → Prop} {n : Nat} {H : Hp} : RdW S (n + 1) H (.lst []) (.lst []) := .flat ⟨.lst (by simp), trivial⟩ fun m => by cases m <;> rfl
/-- Rows of z cells in memory. -/
def RowsW (S : Nat → Prop) (n : Nat) (H : Hp) (z : Nat) : List (List AV) → List (List AV) → Prop := All2 fun a b => a.length = z ∧ CellsW S n H a b
theorem RowsW.two {S : Nat → Prop} {n z : Nat} {H : Hp} : ∀ {a b : List (List AV)}, RowsW S n H z a b → ∃ u, All2 (All2 (Ic S n H)) a u ∧ (∀ m, n ≤ m → u.map (List.map (wkN m)) = b) ∧ ∀ x ∈ a, x.length = z
  | [], [], _ => ⟨[], trivial, fun _ _ => rfl, by simp⟩
  | x :: a, y :: b, ⟨⟨hz, v, h1, h2⟩, h⟩ => by
    obtain ⟨u, h3, h4, h5⟩ := RowsW.two (a := a) (b := b) h
    exact ⟨v :: u, ⟨h1, h3⟩, fun m hm => by rw [List.map_cons, h2 m hm, h4 m hm], fun q hq => by
      rcases List.mem_cons.1 hq with rfl | hq
      · exact hz
      · exact h5 q hq⟩
theorem RdW.rows {S : Nat → Prop} {n : Nat} {H : Hp} {r z imm : Nat} {tip : Bool} {a b : List (List AV)} (hS : S r) (hr : r < H.next) (hg : H.get r = some (.cells a.flatten imm tip)) (hi : imm ≤ a.flatten.length) (h : RowsW S n H z a b) : RdW S (n + 1) H (.sl r 0 a.length z) (.lst b) := by
  obtain ⟨u, h1, h2, h3⟩ := RowsW.two h
  refine ⟨.lst u, Ic.rows hS hr hg hi h3 h1, fun m hm => ?_⟩
  obtain ⟨m, rfl⟩ : ∃ k, m = k + 1 := ⟨m - 1, by omega⟩
  show AV.lst (u.map fun row => row.map (wkN m)) = _
  rw [← h2 m (by omega)]
theorem RowsW.frame {S S' : Nat → Prop} (hS : ∀ k, S k → S' k) {n z : Nat} {H H' : Hp} {a b : List (List AV)} (h : RowsW S n H z a b) (hn : H.next ≤ H'.next) (hf : ∀ k, S k → k < H.next → H'.get k = H.get k) : RowsW S' n H' z a b := All2.mono (fun x y k => ⟨k.1, k.2.keep hS hn hf⟩) h
theorem RowsW.up {S : Nat → Prop} {n m z : Nat} {H : Hp} {a b : List (List AV)} (h : RowsW S n H z a b) (hm : n ≤ m) : RowsW S m H z a b := All2.mono (fun x y k => ⟨k.1, k.2.up hm⟩) h
/-- Strings. -/
theorem CellsW.strs {S : Nat → Prop} {n : Nat} {H : Hp} (s : List UInt8) : CellsW S (n + 1) H [.str s] [.str s] := .cons (.str s) .nil
theorem RowsW.strs {S : Nat → Prop} {n : Nat} {H : Hp} : ∀ l : List (List UInt8), RowsW S (n + 1) H 1 (l.map fun s => [AV.str s]) (l.map fun s => [AV.str s])
  | [] => trivial
  | a :: l => ⟨⟨rfl, CellsW.strs a⟩, RowsW.strs l⟩
theorem RdW.lstS {S : Nat → Prop} {n : Nat} {H : Hp} (l : List (List UInt8)) : RdW S (n + 1) H (Ab.lstS l) (Ab.lstS l) := ⟨Ab.lstS l, Ic.flat ⟨strs_pure l, trivial⟩, fun m _ => by
  cases m with
  | zero => rfl
  | succ m =>
    show AV.lst ((l.map fun s => [AV.str s]).map fun row => row.map (wkN m)) = _
    rw [List.map_map]
    congr 1
    exact List.map_congr_left fun s _ => by cases m <;> rfl⟩
theorem ex_node {S : Nat → Prop} {n : Nat} {H : Hp} (k nn o : Int) (s : List UInt8) {kv : AV} {es : List Ex} (h : RdW S (n + 1) H kv (.lst (es.map Ex.cells))) : CellsW S (n + 1) H [.int .i64 k, .int .i64 nn, .str s, .int .i64 o, kv] (Ex.mk k nn s o es).cells := by
  rw [Ex.cells_eq]
  exact .cons (.int _ _) (.cons (.int _ _) (.cons (.str _) (.cons (.int _ _) (.cons h .nil))))
theorem ex_leaf {S : Nat → Prop} {n : Nat} {H : Hp} (k nn o : Int) (s : List UInt8) : CellsW S (n + 1) H [.int .i64 k, .int .i64 nn, .str s, .int .i64 o, .nilS] (Ex.mk k nn s o []).cells := ex_node k nn o s .nilS
/-- The slice v reads L; its block is below lo, and not r. -/
def SeedV (lo : Nat) (H : Hp) (r : Nat) (v : AV) (L : List Int) : Prop := (v = .lst [] ∧ L = []) ∨ ∃ b off cs imm, v = .sl b off L.length 1 ∧ H.get b = some (.cells cs imm true) ∧ cs.drop off = L.map (fun n => AV.int .i64 n) ∧ b ≠ r ∧ b < lo
/-- The reader at r: seeds L, c loops; all its blocks are below lo. -/
def RdOk (lo : Nat) (H : Hp) (r : Nat) (L : List Int) (c : Int) : Prop := r < lo ∧ lo ≤ H.next ∧ ∃ v, H.get r = some (.cells [v, .int .i64 c] 0 true) ∧ SeedV lo H r v L
theorem RdOk.keep {lo : Nat} {H H' : Hp} {r : Nat} {L : List Int} {c : Int} (h : RdOk lo H r L c) (hn : H.next ≤ H'.next) (hg : ∀ k, k < lo → H'.get k = H.get k) : RdOk lo H' r L c := by
  obtain ⟨h0, h00, v, h1, h2⟩ := h
  refine ⟨h0, by omega, v, by rw [hg _ h0]; exact h1, ?_⟩
  rcases h2 with h2 | ⟨b, off, cs, imm, e1, e2, e3, e4, e5⟩
  · exact .inl h2
  · exact .inr ⟨b, off, cs, imm, e1, by rw [hg _ e5]; exact e2, e3, e4, e5⟩
end Go.Proofs.Ytjkmbpieknaekaa
namespace Go.Proofs.Ytjkmbpieknaekaa
set_option maxRecDepth 20000
set_option linter.unusedSimpArgs false
set_option linter.unusedVariables false
set_option linter.unusedSectionVars false
set_option linter.defProp false
open Go Go.Ab
namespace tyG3
end tyG3
open tyG3
theorem agg5 (a b c d e : AV) : aggA 5 [a, b, c, d, e] = some (.agg [a, b, c, d, e]) := rfl
end Go.Proofs.Ytjkmbpieknaekaa
namespace Go.Proofs.Ytjkmbpieknaekaa
set_option maxRecDepth 20000
set_option linter.unusedSimpArgs false
set_option linter.unusedVariables false
set_option linter.unusedSectionVars false
set_option linter.defProp false
open Go Go.Ab
theorem CellsW.keep2 {S S' : Nat → Prop} {n : Nat} {H H' : Hp} {v w : List AV} (h : CellsW S n H v w) (hS : ∀ k, k < H.next → S k → S' k) (hn : H.next ≤ H'.next) (hf : ∀ k, S k → k < H.next → H'.get k = H.get k) : CellsW S' n H' v w := by
  obtain ⟨u, h1, h2⟩ := h
  exact ⟨u, h1.mono fun a b k => k.frame2 hS hn fun q h3 h4 => .inl (hf q h3 h4).symm, h2⟩
theorem RdW.keep2 {S S' : Nat → Prop} {n : Nat} {H H' : Hp} {v w : AV} (h : RdW S n H v w) (hS : ∀ k, k < H.next → S k → S' k) (hn : H.next ≤ H'.next) (hf : ∀ k, S k → k < H.next → H'.get k = H.get k) : RdW S' n H' v w := by
  obtain ⟨u, h1, h2⟩ := h
  exact ⟨u, h1.frame2 hS hn fun q h3 h4 => .inl (hf q h3 h4).symm, h2⟩
theorem RowsW.keep2 {S S' : Nat → Prop} {n z : Nat} {H H' : Hp} {a b : List (List AV)} (h : RowsW S n H z a b) (hS : ∀ k, k < H.next → S k → S' k) (hn : H.next ≤ H'.next) (hf : ∀ k, S k → k < H.next → H'.get k = H.get k) : RowsW S' n H' z a b := All2.mono (fun x y k => ⟨k.1, k.2.keep2 hS hn hf⟩) h
theorem RowsW.len {S : Nat → Prop} {n z : Nat} {H : Hp} : ∀ {a b : List (List AV)}, RowsW S n H z a b → ∀ x ∈ a, x.length = z
  | [], [], _, x, hx => by simp at hx
  | y :: a, w :: b, h, x, hx => by
    rcases List.mem_cons.1 hx with rfl | hx
    · exact h.1.1
    · exact RowsW.len h.2 x hx
/-- The slice v owns its block; its rows read asx ws. -/
def RowOwn (S : Nat → Prop) (n : Nat) (H : Hp) (z : Nat) (v : AV) (ws : List (List AV)) : Prop :=
  (v = .nilS ∧ ws = []) ∨ ∃ q imm rows, v = .sl q 0 rows.length z ∧ S q ∧ q < H.next ∧ H.get q = some (.cells rows.flatten imm true) ∧ imm ≤ rows.flatten.length ∧ RowsW (fun k => S k ∧ k ≠ q) n H z rows ws
theorem RowOwn.rd {S : Nat → Prop} {n : Nat} {H : Hp} {z : Nat} {v : AV} {ws : List (List AV)} (h : RowOwn S n H z v ws) : RdW S (n + 1) H v (.lst ws) := by
  rcases h with ⟨rfl, rfl⟩ | ⟨q, imm, rows, rfl, h1, h2, h3, h4, h5⟩
  · exact .nilS
  · exact .rows h1 h2 h3 h4 (h5.frame (fun k hk => hk.1) (Nat.le_refl _) fun _ _ _ => rfl)
theorem RowOwn.up {S : Nat → Prop} {n m : Nat} {H : Hp} {z : Nat} {v : AV} {ws : List (List AV)} (h : RowOwn S n H z v ws) (hm : n ≤ m) : RowOwn S m H z v ws := by
  rcases h with h | ⟨q, imm, rows, e, h1, h2, h3, h4, h5⟩
  · exact .inl h
  · exact .inr ⟨q, imm, rows, e, h1, h2, h3, h4, RowsW.up h5 hm⟩
theorem RowOwn.keep {S S' : Nat → Prop} {n : Nat} {H H' : Hp} {z : Nat} {v : AV} {ws : List (List AV)} (h : RowOwn S n H z v ws) (hS : ∀ k, k < H.next → S k → S' k) (hn : H.next ≤ H'.next) (hf : ∀ k, S k → k < H.next → H'.get k = H.get k) : RowOwn S' n H' z v ws := by
  rcases h with h | ⟨q, imm, rows, e, h1, h2, h3, h4, h5⟩
  · exact .inl h
  · exact .inr ⟨q, imm, rows, e, hS q h2 h1, by omega, by rw [hf q h1 h2]; exact h3, h4, h5.keep2 (fun k hk hq => ⟨hS k hk hq.1, hq.2⟩) hn fun k h6 h7 => hf k h6.1 h7⟩
theorem RowOwn.one {S : Nat → Prop} {n : Nat} {H : Hp} {z : Nat} {v : AV} {ws : List (List AV)} (h : RowOwn S n H z v ws) : AV.one v = true ∧ v.cells = [v] := by
  rcases h with ⟨rfl, rfl⟩ | ⟨q, imm, rows, rfl, _⟩ <;> exact ⟨rfl, rfl⟩
theorem RowOwn.len {P : Program} {t e : TypeId} (ht : P.underlying t = some (.slice e)) {S : Nat → Prop} {n : Nat} {H H' : Hp} {z : Nat} {v : AV} {ws : List (List AV)} (h : RowOwn S n H z v ws) : lenAt P H' t v = some (.int .i64 ws.length) := by
  rcases h with ⟨rfl, rfl⟩ | ⟨q, imm, rows, rfl, h1, h2, h3, h4, h5⟩
  · exact lenAt_nil ht
  · rw [lenAt_sl ht, show rows.length = ws.length from All2.len h5]
theorem RowOwn.push {P : Program} {t e : TypeId} {z b : Nat} {zz : List AV} (ht : P.underlying t = some (.slice e)) (hs : sizeA P e = some z) (hb : bytesA P e = some b) (hz : zeroA P e = some zz) (hzz : zz.length = z) (hsrc : srcType P t = true)
    {lo n : Nat} {H : Hp} {v : AV} {ws : List (List AV)} (h : RowOwn (fun k => lo ≤ k) n H z v ws) (hlo : lo ≤ H.next) {r imm : Nat} {row w : List AV} (hg : H.get r = some (.cells row imm true)) (hrow : row.length = z) (hone : row.all AV.one = true)
    (hw : CellsW (fun k => lo ≤ k ∧ ∀ o m z', v ≠ .sl k o m z') n H row w) (hb1 : (ws.length + 1) * b ≤ maxRoom) (hb2 : ws.length + 1 ≤ maxRoom) :
    ∃ v' H', appendA P false H t t v (.sl r 0 1 z) = some (v', H') ∧ RowOwn (fun k => lo ≤ k) n H' z v' (ws ++ [w]) ∧ H'.next = H.next + 1 ∧ (∀ k, k < H.next → (∀ o m z', v ≠ .sl k o m z') → H'.get k = H.get k) ∧ ∀ k o m z', v' = .sl k o m z' → k = H.next := by
  have hx : srcCells H z (.sl r 0 1 z) = some (1, row) := by
    have := src_sl (H := H) (r := r) (o := 0) (n := 1) (z := z) (s := z) hg (by rw [List.drop_zero, List.length_take]; omega)
    rw [this, List.drop_zero, List.take_of_length_le (by omega)]
  rcases h with ⟨rfl, rfl⟩ | ⟨q, imm', rows, rfl, h1, h2, h3, h4, h5⟩
  · refine ⟨.sl H.next 0 1 z, H.alloc (.cells row 0 true), append_nil ht hs hb hz hsrc hx hone hzz (by simpa using hb1) (by simpa using hb2), .inr ⟨H.next, 0, [row], rfl, hlo, Nat.lt_succ_self _, by rw [Hp.get_alloc, if_pos rfl]; simp, by simp, ⟨⟨hrow, hw.keep2 (fun k h1 h2 => ⟨h2.1, by omega⟩) (Nat.le_succ _) fun k h1 h2 => by rw [Hp.get_alloc, if_neg (by omega)]⟩, trivial⟩⟩, rfl, fun k hk _ => by rw [Hp.get_alloc, if_neg (by omega)], fun k o m z' e => ?_⟩
    simp only [AV.sl.injEq] at e
    exact e.1.symm
  · have hrl := rows_len (RowsW.len h5)
    have hwl : rows.length = ws.length := All2.len h5
    have htr : trimA false H z (.sl q 0 rows.length z) = H := by
      unfold trimA
      simp only [h3, Nat.zero_add]
      have : Nat.blt (rows.length * z) rows.flatten.length = false := by
        cases hb : Nat.blt (rows.length * z) rows.flatten.length with
        | false => rfl
        | true => rw [Nat.blt_eq] at hb; omega
      simp only [Bool.not_false, Bool.true_and, this, Bool.false_and]
    refine ⟨.sl H.next 0 (rows.length + 1) z, (H.kill q).alloc (.cells (rows.flatten ++ row) (imm' - 0) true), ?_, .inr ⟨H.next, imm' - 0, rows ++ [row], by simp, hlo, Nat.lt_succ_self _, ?_, by rw [List.flatten_append, List.length_append]; omega, ?_⟩, rfl, fun k hk hno => ?_, fun k o m z' e => ?_⟩
    · simp only [appendA, ht, hs, hb, hz, hsrc, hx, hone, htr, hzz, and_self, if_true, appendOnto, h3, Nat.zero_add, List.drop_zero, Bool.false_eq_true, if_false]
      rw [if_pos ⟨by rw [hwl]; exact hb1, by rw [hwl]; exact hb2, by omega, trivial, h4⟩]
    · show ((H.kill q).alloc _).get (H.kill q).next = _
      rw [Hp.get_alloc, if_pos rfl]; simp
    · have hold : ∀ k, k < H.next → k ≠ q → ((H.kill q).alloc (.cells (rows.flatten ++ row) (imm' - 0) true)).get k = H.get k := fun k h6 h7 => by rw [Hp.get_alloc, if_neg (by simp only [Hp.next_kill]; omega), Hp.get_kill, if_neg h7]
      refine All2.append (h5.keep2 (fun k h6 h7 => ⟨h7.1, by omega⟩) (Nat.le_succ _) fun k h6 h7 => hold k h7 h6.2) ⟨⟨hrow, hw.keep2 (fun k h6 h7 => ⟨h7.1, by omega⟩) (Nat.le_succ _) fun k h6 h7 => hold k h7 fun e => h6.2 0 rows.length z (by rw [e])⟩, trivial⟩
    · rw [Hp.get_alloc, if_neg (by simp only [Hp.next_kill]; omega), Hp.get_kill, if_neg (fun e => hno 0 rows.length z (by rw [e]))]
    · simp only [AV.sl.injEq] at e
      exact e.1.symm
end Go.Proofs.Ytjkmbpieknaekaa
namespace Go.Proofs.Ytjkmbpieknaekaa
set_option maxRecDepth 20000
set_option linter.unusedSimpArgs false
set_option linter.unusedVariables false
set_option linter.unusedSectionVars false
set_option linter.defProp false
open Go Go.Ab
namespace tyG4
end tyG4
open tyG4
def zE : Ex := .mk 0 0 [] 0 []
def stC (k : Int) (nm to : List UInt8) (n : Int) (a v : List AV) (args thn els : AV) : List AV := [.int .i64 k, .str nm, .str to, .int .i64 n] ++ a ++ v ++ [args, thn, els]
theorem st_node {S : Nat → Prop} {n : Nat} {H : Hp} (k : Int) (nm to : List UInt8) (nn : Int) {a v : List AV} {ax vx : Ex} {args thn els : AV} {al : List Ex} {ts es : List St} (ha : CellsW S (n + 1) H a ax.cells) (hv : CellsW S (n + 1) H v vx.cells) (h1 : RdW S (n + 1) H args (.lst (al.map Ex.cells))) (h2 : RdW S (n + 1) H thn (.lst (ts.map St.cells))) (h3 : RdW S (n + 1) H els (.lst (es.map St.cells))) :
    CellsW S (n + 1) H (stC k nm to nn a v args thn els) (St.mk k nm to nn ax vx al ts es).cells := by
  have e : (St.mk k nm to nn ax vx al ts es).cells = [.int .i64 k, .str nm, .str to, .int .i64 nn] ++ ax.cells ++ vx.cells ++ [.lst (al.map Ex.cells), .lst (ts.map St.cells), .lst (es.map St.cells)] := by
    rw [St.cells_eq, Ex.cells_eq, Ex.cells_eq]; rfl
  rw [e]
  exact (((CellsW.cons (.int _ _) (.cons (.str _) (.cons (.str _) (.cons (.int _ _) .nil)))).append ha).append hv).append (.cons h1 (.cons h2 (.cons h3 .nil)))
def zC : List AV := [.int .i64 0, .int .i64 0, .str [], .int .i64 0, .nilS]
theorem zC_w {S : Nat → Prop} {n : Nat} {H : Hp} : CellsW S (n + 1) H zC zE.cells := ex_leaf 0 0 0 []
theorem RdOk.len {lo : Nat} {H : Hp} {r : Nat} {L : List Int} {c : Int} (h : RdOk lo H r L c) : ∃ v, H.get r = some (.cells [v, .int .i64 c] 0 true) ∧ ∀ H', lenAt Try.prog H' 26 v = some (.int .i64 L.length) := by
  obtain ⟨_, _, v, h1, h2⟩ := h
  refine ⟨v, h1, fun H' => ?_⟩
  rcases h2 with ⟨rfl, rfl⟩ | ⟨b, off, cs, imm, rfl, _⟩
  · exact lenAt_lst Try.underlying26 _
  · exact lenAt_sl Try.underlying26 _ _ _ _
end Go.Proofs.Ytjkmbpieknaekaa
namespace Go.Proofs.Ytjkmbpieknaekaa
set_option maxRecDepth 20000
set_option linter.unusedSimpArgs false
set_option linter.unusedVariables false
set_option linter.unusedSectionVars false
set_option linter.defProp false
open Go Go.Ab
/-- Where the walk of a statement stands when its kind q is chosen. -/
structure AtT (f : Int) (deep lo : Nat) (H H2 : Hp) (r : Nat) (L1 : List Int) (c q m : Int) (E2 : Env) : Prop where
  hd : deep ≤ 3
  hrl : r < lo
  hlo : lo ≤ H.next
  n2 : H2.next = H.next + 1
  g2 : H2.get H.next = some (.cells [.int .i64 0, .str [], .str [], .int .i64 0, .int .i64 0, .int .i64 0, .str [], .int .i64 0, .nilS, .int .i64 0, .int .i64 0, .str [], .int .i64 0, .nilS, .nilS, .nilS, .nilS] 0 true)
  o2 : ∀ q, q < H.next → q ≠ r → H2.get q = H.get q
  hr2 : RdOk lo H2 r L1 c
  hL : L1.length < 2 ^ 60
  hm : 0 ≤ m ∧ m < 1000
  hqd : 8 ≤ q → q < 12 → deep ≤ 2
  k0 : E2.at 0 = .ptr r 0
  k1 : E2.at 1 = .int .i64 f
  k2 : E2.at 2 = .int .i64 deep
  k6 : E2.at 6 = .ptr H.next 0
  k8 : E2.at 8 = lstS (nmsG f)
  k9 : E2.at 9 = .int .i64 m
  k10 : E2.at 10 = .int .i64 q
end Go.Proofs.Ytjkmbpieknaekaa
namespace Go.Proofs.Ytjkmbpieknaekaa
set_option maxRecDepth 20000
set_option linter.unusedSimpArgs false
set_option linter.unusedVariables false
set_option linter.unusedSectionVars false
set_option linter.defProp false
open Go Go.Ab
noncomputable def enChkP : En := ⟨14, true, spP (fun p => p.sz < 2 ^ 36) prE fun p => .int .i64 (refCheck p)⟩
theorem enChkP_ok (ρ : Nat → Int) : EnOk Try.prog ρ enChkP := spP_ok fun p hp => pcheck_con ρ p hp
theorem wk_sl (n q o m z : Nat) : wkN n (.sl q o m z) = .sl q o m z := by cases n <;> rfl
theorem prE_nosl {p : Pr} {cs : List AV} {n : Nat} (h : prE p = ([.agg cs] : List AV).map (wkN (n + 1))) {q o m z : Nat} (hs : AV.sl q o m z ∈ cs) : False := by
  have e : ([.agg cs] : List AV).map (wkN (n + 1)) = [.agg (cs.map (wkN n))] := rfl
  rw [e] at h
  simp only [prE, List.cons.injEq, AV.agg.injEq, and_true] at h
  have : AV.sl q o m z ∈ p.cells := by
    rw [h]
    exact List.mem_map.2 ⟨_, hs, wk_sl _ _ _ _ _⟩
  simp [Pr.cells] at this
theorem checkM {l : List En} (hl : ∀ ar, lookN l 14 ar = (enW enChkP).sp ar) (hi : iceN l 14 = true) {S : Nat → Prop} {n : Nat} {H : Hp} {cs : List AV} {p : Pr} (hn : n < 59) (hc : CellsW S n H cs p.cells) {q o m z : Nat} (hs : AV.sl q o m z ∈ cs) (hz : p.sz < 2 ^ 36) :
    WpCall Try.prog (cfgN pls l) 14 [.agg cs] H fun v H' => v = .int .i64 (refCheck p) ∧ Icy S H H' := by
  obtain ⟨us, h1, h2⟩ := hc
  have h3 : Ic S 100 H (.agg cs) (.agg us) := Ic.up (n := n + 1) ⟨us, h1, rfl⟩ (by omega)
  obtain ⟨H', h4, h5⟩ := Ic.iceL (l := [.agg cs]) (m := [.agg us]) ⟨h3, trivial⟩
  refine WpCall.iced (r := .int .i64 (refCheck p)) ?_ hi rfl h4 ?_ ⟨rfl, h5⟩
  · show lookN l 14 [.agg cs] = none
    rw [hl]
    exact spP_none (enc := prE) fun p' _ e => prE_nosl e hs
  · show lookN l 14 [.agg us] = _
    rw [hl]
    have e : ([.agg us] : List AV).map (wkN 60) = prE p := by
      show [AV.agg (us.map (wkN 59))] = _
      rw [h2 59 (by omega)]; rfl
    show spP _ prE _ (([.agg us] : List AV).map (wkN 60)) = _
    rw [e]
    exact spP_enc prE_inj hz
end Go.Proofs.Ytjkmbpieknaekaa
namespace Go.Proofs.Ytjkmbpieknaekaa
set_option maxRecDepth 20000
set_option linter.unusedSimpArgs false
set_option linter.unusedVariables false
set_option linter.unusedSectionVars false
set_option linter.defProp false
open Go Go.Ab
def numE : Ex := .mk 1 0 [] 0 []
def nmL (i : Nat) : List (List UInt8) := (List.range i).map fun j => [118, UInt8.ofNat (97 + j)]
def trapS : St := .mk 7 [] [] 0 zE zE [] [] []
def whileS : St := .mk 4 [] [] 0 zE numE [] [] []
def nestS : Nat → St
  | 0 => trapS
  | i + 1 => .mk 3 [] [] 0 zE numE [] [] [nestS i]
def nestE : Nat → Ex
  | 0 => numE
  | i + 1 => .mk 5 0 [] 0 [numE, numE, nestE i]
def limF (k : Nat) (i : Nat) : Fu := match k with
  | 0 => ⟨[102], [], nmL i, [], numE⟩
  | 1 => ⟨[102], [], [], List.replicate i trapS, numE⟩
  | 2 => ⟨[102], [], [], List.replicate i whileS, numE⟩
  | 3 => ⟨[102], [], [], [nestS i], numE⟩
  | _ => ⟨[102], [], [], [], nestE i⟩
def limPr (k i : Nat) : Pr := ⟨[], [limF k i]⟩
def limMax (k : Nat) : Nat := match k with
  | 0 => 8
  | 1 => 200
  | 2 => 16
  | _ => 20
def limNum (k : Nat) : Nat := match k with
  | 0 => 20
  | 1 => 400
  | 2 => 40
  | _ => 50
def limGood (k i : Nat) : Bool := decide (refCheck (limPr k i) = if limMax k < i then 6 else 0) && decide ((limPr k i).sz < 68719476736)
theorem lim0 : ((List.range 20).all (limGood 0)) = true := by kernel_rfl
theorem lim1 : ((List.range 400).all (limGood 1)) = true := by kernel_rfl
theorem lim2 : ((List.range 40).all (limGood 2)) = true := by kernel_rfl
theorem lim3 : ((List.range 50).all (limGood 3)) = true := by kernel_rfl
theorem lim4 : ((List.range 50).all (limGood 4)) = true := by kernel_rfl
theorem lim_good {k i : Nat} (hk : k ≤ 4) (hi : i < limNum k) : refCheck (limPr k i) = (if limMax k < i then 6 else 0) ∧ (limPr k i).sz < 2 ^ 36 := by
  have h : limGood k i = true := by
    have h0 := lim0; have h1 := lim1; have h2 := lim2; have h3 := lim3; have h4 := lim4
    simp only [List.all_eq_true, List.mem_range] at h0 h1 h2 h3 h4
    match k, hk with
    | 0, _ => exact h0 i hi
    | 1, _ => exact h1 i hi
    | 2, _ => exact h2 i hi
    | 3, _ => exact h3 i hi
    | 4, _ => exact h4 i hi
  simpa [limGood] using h
end Go.Proofs.Ytjkmbpieknaekaa
namespace Go.Proofs.Ytjkmbpieknaekaa
set_option maxRecDepth 20000
set_option linter.unusedSimpArgs false
set_option linter.unusedVariables false
set_option linter.unusedSectionVars false
set_option linter.defProp false
open Go Go.Ab
namespace tyG6
def tyF := And.intro @sz2 (And.intro @pt2 (And.intro @bt2 (And.intro @zr2 (And.intro @sz3 (And.intro @pt3 (And.intro @bt3 (And.intro @zr3 (And.intro @sz9 (And.intro @pt9 (And.intro @bt9 (And.intro @zr9 (And.intro @ln9 (And.intro @ix9 (And.intro @sz22 (And.intro @pt22 (And.intro @bt22 (And.intro @zr22 (And.intro @ix22l (And.intro @ix22s (And.intro @ln22l (And.intro @ln22s (And.intro @ln22n (And.intro @sz23 (And.intro @pt23 (And.intro @bt23 (And.intro @zr23 (And.intro @ix23l (And.intro @ix23s (And.intro @ln23l (And.intro @ln23s (And.intro @ln23n (And.intro @sz25 (And.intro @pt25 (And.intro @bt25 (And.intro @zr25 (And.intro @fa25_0p (And.intro @fa25_0c (And.intro @fd25_0 (And.intro @fa25_1p (And.intro @fa25_1c (And.intro @fd25_1 (And.intro @sz26 (And.intro @pt26 (And.intro @bt26 (And.intro @zr26 (And.intro @ix26l (And.intro @ix26s (And.intro @ln26l (And.intro @ln26s (And.intro @ln26n (And.intro @sz35 (And.intro @pt35 (And.intro @bt35 (And.intro @zr35 (And.intro @ix35l (And.intro @ix35s (And.intro @ln35l (And.intro @ln35s (And.intro @ln35n (And.intro @sz36 (And.intro @pt36 (And.intro @bt36 (And.intro @zr36 (And.intro @ix36l (And.intro @ix36s (And.intro @ln36l (And.intro @ln36s (And.intro @ln36n (And.intro @sz37 (And.intro @pt37 (And.intro @bt37 (And.intro @zr37 (And.intro @ix37l (And.intro @ix37s (And.intro @ln37l (And.intro @ln37s (And.intro @ln37n (And.intro @sz39 (And.intro @pt39 (And.intro @bt39 (And.intro @zr39 (And.intro @fa39_0p (And.intro @fa39_0c (And.intro @fd39_0 (And.intro @fa39_1p (And.intro @fa39_1c (And.intro @fd39_1 (And.intro @fa39_2p (And.intro @fa39_2c (And.intro @fd39_2 (And.intro @fa39_3p (And.intro @fa39_3c (And.intro @fd39_3 (And.intro @fa39_4p (And.intro @fa39_4c (And.intro @fd39_4 (And.intro @sz41 (And.intro @pt41 (And.intro @bt41 (And.intro @zr41 (And.intro @fa41_0p (And.intro @fa41_0c (And.intro @fd41_0 (And.intro @fa41_1p (And.intro @fa41_1c (And.intro @fd41_1 (And.intro @fa41_2p (And.intro @fa41_2c (And.intro @fd41_2 (And.intro @fa41_3p (And.intro @fa41_3c (And.intro @fd41_3 (And.intro @fa41_4p (And.intro @fa41_4c (And.intro @fd41_4 (And.intro @sz44 (And.intro @pt44 (And.intro @bt44 (And.intro @zr44 (And.intro @fa44_0p (And.intro @fa44_0c (And.intro @fd44_0 (And.intro @fa44_1p (And.intro @fa44_1c (And.intro @fd44_1 (And.intro @sz46 (And.intro @pt46 (And.intro @bt46 (And.intro @zr46 (And.intro @fa46_0p (And.intro @fa46_0c (And.intro @fd46_0 (And.intro @fa46_1p (And.intro @fa46_1c (And.intro @fd46_1 (And.intro @fa46_2p (And.intro @fa46_2c (And.intro @fd46_2 (And.intro @fa46_3p (And.intro @fa46_3c (And.intro @fd46_3 (And.intro @fa46_4p (And.intro @fa46_4c (And.intro @fd46_4 (And.intro @fa46_5p (And.intro @fa46_5c (And.intro @fd46_5 (And.intro @fa46_6p (And.intro @fa46_6c (And.intro @fd46_6 (And.intro @fa46_7p (And.intro @fa46_7c (And.intro @fd46_7 (And.intro @fa46_8p (And.intro @fa46_8c (And.intro @fd46_8 (And.intro @sz70 (And.intro @pt70 (And.intro @bt70 (And.intro @zr70 (And.intro @fa70_0p (And.intro @fa70_0c (And.intro @fd70_0 (And.intro @fa70_1p (And.intro @fa70_1c (And.intro @fd70_1 (And.intro @bin_quo (And.intro @nms2 (And.intro @Nat.zero_mul (@Nat.one_mul))))))))))))))))))))))))))))))))))))))))))))))))))))))))))))))))))))))))))))))))))))))))))))))))))))))))))))))))))))))))))))))))))))))))))))))))))))))))))))))))))))))))))
end tyG6
open tyG6
/-- A program in memory: a row of arrays, a row of two functions. -/
structure ProgM (lo n : Nat) (H : Hp) (p : Pr) (ra rf : Nat) (x y : Int) (f g : Fu) (cf cg : List AV) : Prop where
  ep : p = ⟨[⟨[97], x⟩, ⟨[98], y⟩], [f, g]⟩
  ga : H.get ra = some (.cells [.str [97], .int .i64 x, .str [98], .int .i64 y] 0 true)
  gf : H.get rf = some (.cells (cf ++ cg) 0 true)
  la : lo ≤ ra ∧ ra < H.next
  lf : lo ≤ rf ∧ rf < H.next
  ne : ra ≠ rf
  lcf : cf.length = 9
  lcg : cg.length = 9
  wf : CellsW (fun q => lo ≤ q ∧ q ≠ ra ∧ q ≠ rf) n H cf f.cells
  wg : CellsW (fun q => lo ≤ q ∧ q ≠ ra ∧ q ≠ rf) n H cg g.cells
theorem ProgM.cells {lo n : Nat} {H : Hp} {p : Pr} {ra rf : Nat} {x y : Int} {f g : Fu} {cf cg : List AV} (h : ProgM lo (n + 1) H p ra rf x y f g cf cg) : CellsW (fun q => lo ≤ q) (n + 2) H [.sl ra 0 2 2, .sl rf 0 2 9] p.cells := by
  rw [h.ep]
  refine .cons ?_ (.cons ?_ .nil)
  · refine RdW.rows (n := n + 1) (a := [[.str [97], .int .i64 x], [.str [98], .int .i64 y]]) (imm := 0) (tip := true) h.la.1 h.la.2 h.ga (by simp) ⟨⟨rfl, .cons (.str _) (.cons (.int _ _) .nil)⟩, ⟨rfl, .cons (.str _) (.cons (.int _ _) .nil)⟩, trivial⟩
  · refine RdW.rows (n := n + 1) (a := [cf, cg]) (imm := 0) (tip := true) h.lf.1 h.lf.2 (by rw [h.gf]; simp) (by simp) ⟨⟨h.lcf, h.wf.keep (fun q hq => hq.1) (Nat.le_refl _) fun _ _ _ => rfl⟩, ⟨h.lcg, h.wg.keep (fun q hq => hq.1) (Nat.le_refl _) fun _ _ _ => rfl⟩, trivial⟩
theorem fu_node {S : Nat → Prop} {n : Nat} {H : Hp} (nm : List UInt8) {p l b : AV} {v : List AV} {f : Fu} (hn : f.name = nm) (h1 : RdW S (n + 1) H p (lstS f.params)) (h2 : RdW S (n + 1) H l (lstS f.locals)) (h3 : RdW S (n + 1) H b (.lst (f.body.map St.cells))) (h4 : CellsW S (n + 1) H v f.value.cells) : CellsW S (n + 1) H ([.str nm, p, l, b] ++ v) f.cells := by
  have e : f.cells = [.str f.name, lstS f.params, lstS f.locals, .lst (f.body.map St.cells)] ++ f.value.cells := by rw [Ex.cells_eq]; rfl
  rw [e, hn]
  exact (CellsW.cons (.str _) (.cons h1 (.cons h2 (.cons h3 .nil)))).append h4
theorem bsS1' (H : Hp) (s : List UInt8) : buildSliceA Try.prog H 35 1 [(0, .str s)] = some (.sl H.next 0 1 1, H.alloc (.cells [.str s] 0 true)) := by kernel_rfl
/-- The blocks of a program under way. -/
structure AtP (n0 M : Nat) (x y : Int) (H : Hp) : Prop where
  lt : n0 < M ∧ M + 8 ≤ H.next
  rs : H.get n0 = some (.cells [.nilS, .nilS] 0 true)
  ra : H.get (M + 1) = some (.cells [.str [97], .int .i64 x, .str [98], .int .i64 y] 0 true)
  t5 : H.get (M + 2) = some (.cells [.sl (M + 1) 0 2 2, .sl (M + 7) 0 2 9] 0 true)
  p1 : H.get (M + 3) = some (.cells [.str [120], .str [121]] 0 true)
  l1 : H.get (M + 4) = some (.cells [.str [105], .str [106]] 0 true)
  p2 : H.get (M + 5) = some (.cells [.str [110]] 0 true)
  l2 : H.get (M + 6) = some (.cells [.str [105]] 0 true)
theorem AtP.keep {n0 M : Nat} {x y : Int} {H H' : Hp} (h : AtP n0 M x y H) (hn : H.next ≤ H'.next) (hg : ∀ q, (q = n0 ∨ M + 1 ≤ q ∧ q < M + 7) → H'.get q = H.get q) : AtP n0 M x y H' := by
  obtain ⟨⟨lt1, lt2⟩, rs, ra, t5, p1, l1, p2, l2⟩ := h
  exact ⟨⟨lt1, by omega⟩, by rw [hg _ (.inl rfl)]; exact rs, by rw [hg _ (by omega)]; exact ra, by rw [hg _ (by omega)]; exact t5, by rw [hg _ (by omega)]; exact p1, by rw [hg _ (by omega)]; exact l1, by rw [hg _ (by omega)]; exact p2, by rw [hg _ (by omega)]; exact l2⟩
end Go.Proofs.Ytjkmbpieknaekaa
namespace Go.Proofs.Ytjkmbpieknaekaa.knCEx
set_option maxRecDepth 20000
open Go Go.Ab
def l0 : List (FuncId × List AV × AV) := []
theorem k0 (ρ : Nat → Int) : KOk Try.prog ρ l0 := trivial
def a0 : List AV := []
def r0 : AV := (.bool true)
theorem c0 (ρ : Nat → Int) : Con Try.prog ρ 16 a0 r0 := Con.knownP fit (pls := pls) (k0 ρ) (n := 100000) (m := 100) (k := 100) (by kernel_rfl) (by kernel_rfl)
def l1 : List (FuncId × List AV × AV) := (16, a0, r0) :: l0
theorem k1 (ρ : Nat → Int) : KOk Try.prog ρ l1 := ⟨c0 ρ, k0 ρ⟩
def list : List (FuncId × List AV × AV) := [(16, a0, r0)]
theorem ok (ρ : Nat → Int) : KOk Try.prog ρ list := ⟨c0 ρ, trivial⟩
end Go.Proofs.Ytjkmbpieknaekaa.knCEx
