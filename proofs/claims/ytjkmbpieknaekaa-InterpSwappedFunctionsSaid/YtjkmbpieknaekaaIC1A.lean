/- Parts: SemW, GSw. -/
import Derived.Test.YtjkmbpieknaekaaICQ
set_option linter.unusedSimpArgs false
set_option linter.unusedVariables false
set_option linter.unusedSectionVars false
set_option linter.defProp false
namespace Go.Proofs.Ytjkmbpieknaekaa
set_option maxRecDepth 20000
set_option linter.unusedSimpArgs false
set_option linter.unusedVariables false
set_option linter.unusedSectionVars false
set_option linter.defProp false
open Go Go.Ab
def swapP (p : Pr) : Pr := ⟨p.arrays, p.funcs.reverse⟩
theorem dupFrom_nil : ∀ (l seen : List (List UInt8)), l.Nodup → (∀ s ∈ l, s ∉ seen) → dupFrom seen l = false
  | [], _, _, _ => rfl
  | s :: l, seen, h, k => by
    obtain ⟨h1, h2⟩ := List.nodup_cons.1 h
    rw [dupFrom, Bool.or_eq_false_iff]
    refine ⟨?_, dupFrom_nil l _ h2 fun t ht hm => ?_⟩
    · rw [hasS, List.any_eq_false]
      intro x hx e
      simp only [decide_eq_true_eq] at e
      exact k s List.mem_cons_self (e ▸ hx)
    · rcases List.mem_append.1 hm with hm | hm
      · exact k t (List.mem_cons_of_mem _ ht) hm
      · simp only [List.mem_singleton] at hm
        exact h1 (hm ▸ ht)
theorem dupFrom_iff (l : List (List UInt8)) : dupFrom [] l = false ↔ l.Nodup := ⟨nodup_of l [], fun h => dupFrom_nil l [] h fun _ _ => by simp⟩
theorem nodup_rev {l : List (List UInt8)} (h : l.Nodup) : l.reverse.Nodup := List.pairwise_reverse.2 (List.Pairwise.imp (fun h => Ne.symm h) h)
theorem dupFrom_rev (l : List (List UInt8)) : dupFrom [] l.reverse = dupFrom [] l := by
  cases h : dupFrom [] l
  · rw [dupFrom_iff] at h ⊢; exact nodup_rev h
  · cases h2 : dupFrom [] l.reverse
    · rw [dupFrom_iff] at h2; have h3 := nodup_rev h2; rw [List.reverse_reverse, ← dupFrom_iff, h] at h3; exact h3.symm
    · rfl
theorem findF_spec (s : List UInt8) : ∀ (l : List Fu) (i : Nat), (findF l s i = -1 ∧ ∀ f ∈ l, f.name ≠ s) ∨ ∃ k f, l[k]? = some f ∧ f.name = s ∧ findF l s i = ((i + k : Nat) : Int)
  | [], i => .inl ⟨rfl, fun f h => by simp at h⟩
  | f :: l, i => by
    by_cases e : f.name = s
    · exact .inr ⟨0, f, rfl, e, by rw [findF, if_pos e]; simp⟩
    · have hf : findF (f :: l) s i = findF l s ((i + 1 : Nat) : Int) := by rw [findF, if_neg e]; rfl
      rw [hf]
      rcases findF_spec s l (i + 1) with ⟨h1, h2⟩ | ⟨k, g, h1, h2, h3⟩
      · exact .inl ⟨h1, fun g hg => by
          rcases List.mem_cons.1 hg with rfl | hg
          · exact e
          · exact h2 g hg⟩
      · exact .inr ⟨k + 1, g, by simpa using h1, h2, by rw [h3]; congr 1; omega⟩
theorem findF_mem {l : List Fu} {s : List UInt8} : 0 ≤ findF l s 0 ↔ ∃ f ∈ l, f.name = s := by
  rcases findF_spec s l 0 with ⟨h1, h2⟩ | ⟨k, f, h1, h2, h3⟩
  · have h1 : findF l s 0 = -1 := h1
    rw [h1]
    exact ⟨fun h => by omega, fun ⟨f, hf, e⟩ => absurd e (h2 f hf)⟩
  · have h3 : findF l s 0 = ((0 + k : Nat) : Int) := h3
    rw [h3]
    exact ⟨fun _ => ⟨f, List.mem_of_getElem? h1, h2⟩, fun _ => by omega⟩
theorem findF_get {l : List Fu} {s : List UInt8} (h : 0 ≤ findF l s 0) : ∃ f, l[(findF l s 0).toNat]? = some f ∧ f.name = s := by
  rcases findF_spec s l 0 with ⟨h1, h2⟩ | ⟨k, f, h1, h2, h3⟩
  · have h1 : findF l s 0 = -1 := h1
    omega
  · have h3 : findF l s 0 = ((0 + k : Nat) : Int) := h3
    exact ⟨f, by rw [h3, show (((0 + k : Nat) : Int)).toNat = k by omega]; exact h1, h2⟩
theorem name_one : ∀ {l : List Fu}, (l.map (·.name)).Nodup → ∀ {f g : Fu}, f ∈ l → g ∈ l → f.name = g.name → f = g
  | [], _, _, _, h, _, _ => by simp at h
  | x :: l, hn, f, g, hf, hg, e => by
    rw [List.map_cons, List.nodup_cons] at hn
    rcases List.mem_cons.1 hf with h1 | h1 <;> rcases List.mem_cons.1 hg with h2 | h2
    · rw [h1, h2]
    · exact absurd (List.mem_map.2 ⟨g, h2, by rw [← e, h1]⟩) hn.1
    · exact absurd (List.mem_map.2 ⟨f, h1, by rw [e, h2]⟩) hn.1
    · exact name_one hn.2 h1 h2 e
/-- The function of a name is the same in the swapped program. -/
theorem swap_find {p : Pr} {s : List UInt8} (hn : (fnNms p).Nodup) (h : 0 ≤ findF p.funcs s 0) : 0 ≤ findF (swapP p).funcs s 0 ∧ p.funcs[(findF p.funcs s 0).toNat]? = (swapP p).funcs[(findF (swapP p).funcs s 0).toNat]? := by
  have h2 : 0 ≤ findF (swapP p).funcs s 0 := by
    obtain ⟨f, hf, e⟩ := findF_mem.1 h
    exact findF_mem.2 ⟨f, List.mem_reverse.2 hf, e⟩
  obtain ⟨f, h3, e⟩ := findF_get h
  obtain ⟨g, h4, e'⟩ := findF_get h2
  refine ⟨h2, ?_⟩
  rw [h3, h4]
  exact congrArg some (name_one hn (List.mem_of_getElem? h3) (List.mem_reverse.1 (List.mem_of_getElem? h4)) (by rw [e, e']))
theorem swap_nms {p : Pr} (hn : (fnNms p).Nodup) : (fnNms (swapP p)).Nodup := by
  show ((p.funcs.reverse).map (·.name)).Nodup
  rw [List.map_reverse]; exact nodup_rev hn
theorem swap_has {p : Pr} {s : List UInt8} : (0 ≤ findF (swapP p).funcs s 0) = (0 ≤ findF p.funcs s 0) := by
  rw [findF_mem, findF_mem]
  simp [swapP]
section
variable {c c' : Sc}
mutual
theorem chk1_und (hv : c.vars = c'.vars) (ha : c.an = c'.an) (hf : ∀ s, (0 ≤ findF c.p.funcs s 0) = (0 ≤ findF c'.p.funcs s 0)) : ∀ x : St, chk1 c false x = chk1 c' false x
  | .mk k nm to n a v args th el => by
    rw [chk1, chk1, chkS_und hv ha hf th, chkS_und hv ha hf el]
    simp only [cond_false, defStX, defStK, hv, ha, hf]
theorem chkS_und (hv : c.vars = c'.vars) (ha : c.an = c'.an) (hf : ∀ s, (0 ≤ findF c.p.funcs s 0) = (0 ≤ findF c'.p.funcs s 0)) : ∀ l : List St, chkS c false l = chkS c' false l
  | [] => by rw [chkS, chkS]
  | x :: l => by rw [chkS, chkS, chk1_und hv ha hf x, chkS_und hv ha hf l]
end
theorem arK_eq {p p' : Pr} {x : St} (h : x.kind = 6 → parN p x.to = parN p' x.to) : arK p x = arK p' x := by
  unfold arK
  by_cases hk : x.kind = 6
  · rw [h hk]
  · simp [hk]
mutual
theorem chk1_ar (hf : ∀ s, 0 ≤ findF c.p.funcs s 0 → parN c.p s = parN c'.p s) : ∀ x : St, cal1 c.p x = true → chk1 c true x = chk1 c' true x
  | .mk k nm to n a v args th el, h => by
    rw [cal1, Bool.and_eq_true, Bool.and_eq_true] at h
    rw [chk1, chk1, chkS_ar hf th h.1.2, chkS_ar hf el h.2]
    have h2 : (St.mk k nm to n a v args th el).kind = 6 → parN c.p (St.mk k nm to n a v args th el).to = parN c'.p (St.mk k nm to n a v args th el).to := fun hk => by
      have h1 := h.1.1
      change k = 6 at hk
      rw [decide_eq_true hk, Bool.not_true, Bool.false_or, decide_eq_true_eq] at h1
      exact hf _ h1
    rw [arK_eq h2]; rfl
theorem chkS_ar (hf : ∀ s, 0 ≤ findF c.p.funcs s 0 → parN c.p s = parN c'.p s) : ∀ l : List St, calS c.p l = true → chkS c true l = chkS c' true l
  | [], _ => by rw [chkS, chkS]
  | x :: l, h => by
    rw [calS, Bool.and_eq_true] at h
    rw [chkS, chkS, chk1_ar hf x h.1, chkS_ar hf l h.2]
end
end
theorem swap_par {p : Pr} {s : List UInt8} (hn : (fnNms p).Nodup) (h : 0 ≤ findF p.funcs s 0) : parN p s = parN (swapP p) s := by
  rw [parN, parN, (swap_find hn h).2]
theorem refCheck_swap (p : Pr) : refCheck (swapP p) = refCheck p := by
  have e1 : exB (swapP p) = exB p := by
    show (_ || decide ((8 : Int) < p.funcs.reverse.length) || _ || p.funcs.reverse.any exFn) = _
    rw [List.length_reverse, List.any_reverse]; rfl
  have e2 : wfP (swapP p) = wfP p := by
    show (_ && p.funcs.reverse.all wfFn) = _
    rw [List.all_reverse]; rfl
  have e3 : dupP (swapP p) = dupP p := by
    rw [dupP, dupP, dupFns_eq, dupFns_eq]
    have : (swapP p).funcs.map (·.name) = (p.funcs.map (·.name)).reverse := by simp [swapP]
    rw [this, dupFrom_rev]
    show (dupFrom [] (arNames p) || (_ || p.funcs.reverse.any _)) = _
    rw [List.any_reverse]; rfl
  rw [refCheck, refCheck, e1, e2, e3]
  by_cases h3 : dupP p = true
  · rw [if_pos h3, if_pos h3]
  have hn : (fnNms p).Nodup := by
    rw [dupP, dupFns_eq] at h3
    simp only [Bool.not_eq_true, Bool.or_eq_false_iff] at h3
    exact nodup_of _ _ h3.2.1
  have e4 : ∀ f, undFn (swapP p) f = undFn p f := fun f => by
    rw [undFn, undFn, chkS_und (c := scOf (swapP p) f) (c' := scOf p f) rfl rfl (fun s => swap_has)]; rfl
  have e5 : (swapP p).funcs.any (undFn (swapP p)) = p.funcs.any (undFn p) := by
    show p.funcs.reverse.any _ = _
    rw [List.any_reverse, show undFn (swapP p) = undFn p from funext e4]
  rw [if_neg h3, if_neg h3, e5]
  by_cases h4 : p.funcs.any (undFn p) = true
  · rw [if_pos h4, if_pos h4]
  rw [if_neg h4, if_neg h4]
  have e6 : ∀ f ∈ p.funcs, badFn (swapP p) f = badFn p f := fun f hf => by
    have h5 := List.any_eq_false.1 (by simpa using h4) f hf
    simp only [undFn, Bool.not_eq_true, Bool.not_eq_false', Bool.and_eq_true] at h5
    rw [badFn, badFn, ← chkS_ar (c := scOf p f) (c' := scOf (swapP p) f) (fun s hs => swap_par hn hs) f.body (chkS_cal f.body h5.1)]
  have e7 : (swapP p).funcs.any (badFn (swapP p)) = p.funcs.any (badFn p) := by
    show p.funcs.reverse.any _ = _
    rw [List.any_reverse]
    have : ∀ l : List Fu, (∀ f ∈ l, badFn (swapP p) f = badFn p f) → l.any (badFn (swapP p)) = l.any (badFn p) := by
      intro l
      induction l with
      | nil => intro _; rfl
      | cons x l ih => intro h; rw [List.any_cons, List.any_cons, h x List.mem_cons_self, ih fun f hf => h f (List.mem_cons_of_mem _ hf)]
    exact this _ e6
  rw [e7]
section
variable {p p' : Pr} {fi fi' : List (Nm × Int)}
theorem stepM_swap (hA : ∀ s, 0 ≤ findF p.funcs s 0 → p.funcs[(lkV fi s).toNat]? = p'.funcs[(lkV fi' s).toNat]? ∧ 0 ≤ lkV fi s ∧ 0 ≤ lkV fi' s) (hP : ∀ f ∈ p.funcs, chkS (scOf p f) false f.body = true) : ∀ n : Nat,
    (∀ (c : Sc) x vs s, c.p = p → chk1 c false x = true → stmtM p fi n x vs s = stmtM p' fi' n x vs s) ∧ (∀ (c : Sc) l vs s, c.p = p → chkS c false l = true → stmtsM p fi n l vs s = stmtsM p' fi' n l vs s) ∧
    (∀ (c : Sc) x vs s, c.p = p → chk1 c false x = true → whileM p fi n x vs s = whileM p' fi' n x vs s) ∧ (∀ k k' al s, 0 ≤ k → 0 ≤ k' → p.funcs[k.toNat]? = p'.funcs[k'.toNat]? → callM p fi n k al s = callM p' fi' n k' al s)
  | 0 => ⟨fun _ _ _ _ _ _ => rfl, fun _ _ _ _ _ _ => rfl, fun _ _ _ _ _ _ => rfl, fun _ _ _ _ _ _ _ => rfl⟩
  | n + 1 => by
    obtain ⟨I1, I2, I3, I4⟩ := stepM_swap hA hP n
    refine ⟨fun c x vs s hc h => ?_, fun c l vs s hc h => ?_, fun c x vs s hc h => ?_, fun k k' al s h1 h2 h3 => ?_⟩
    · have hx := h
      rw [chk1_eq, Bool.and_eq_true, Bool.and_eq_true] at h
      have J2 : ∀ vs s, stmtsM p fi n x.thn vs s = stmtsM p' fi' n x.thn vs s := fun vs s => I2 c _ _ _ hc h.1.2
      have J3 : ∀ vs s, stmtsM p fi n x.els vs s = stmtsM p' fi' n x.els vs s := fun vs s => I2 c _ _ _ hc h.2
      have J4 : x.kind = 6 → ∀ al s, callM p fi n (lkV fi x.to) al s = callM p' fi' n (lkV fi' x.to) al s := fun hk al s => by
        have h1 := h.1.1
        simp only [cond_false, defStX, Bool.and_eq_true] at h1
        have h2 := h1.2
        simp only [defStK, hk, Int.reduceEq, if_false, if_true, Bool.and_eq_true, decide_eq_true_eq, hc] at h2
        obtain ⟨a1, a2, a3⟩ := hA _ h2.2
        exact I4 _ _ _ _ a2 a3 a1
      unfold stmtM
      by_cases h6 : x.kind = 6
      · simp only [h6, Int.reduceEq, if_false, if_true, J4 h6]
      · simp only [if_neg h6, J2, J3, I3 c x _ _ hc hx]
    · unfold stmtsM
      cases l with
      | nil => rfl
      | cons x l =>
        rw [chkS, Bool.and_eq_true] at h
        simp only [I1 c x _ _ hc h.1, I2 c l _ _ hc h.2]
    · have hx := h
      rw [chk1_eq, Bool.and_eq_true, Bool.and_eq_true] at h
      have J2 : ∀ vs s, stmtsM p fi n x.thn vs s = stmtsM p' fi' n x.thn vs s := fun vs s => I2 c _ _ _ hc h.1.2
      unfold whileM
      simp only [J2, I3 c x _ _ hc hx]
    · unfold callM
      rw [if_neg (by omega), if_neg (by omega), ← h3]
      cases hf : p.funcs[k.toNat]? with
      | none => rfl
      | some f =>
        have hb := hP f (List.mem_of_getElem? hf)
        simp only [Option.bind_some, I2 (scOf p f) f.body _ _ rfl hb]
end
theorem swap_call {p : Pr} (hv : Valid p) {nm : Nm} (h : 0 ≤ findF p.funcs nm 0) (n : Nat) (al : List Int) (s : MS) : callM p (fnIx p.funcs 0 []) n (lkV (fnIx p.funcs 0 []) nm) al s = callM (swapP p) (fnIx (swapP p).funcs 0 []) n (lkV (fnIx (swapP p).funcs 0 []) nm) al s := by
  have hn := nodup_of _ _ hv.names.2
  have hA : ∀ s, 0 ≤ findF p.funcs s 0 → p.funcs[(lkV (fnIx p.funcs 0 []) s).toNat]? = (swapP p).funcs[(lkV (fnIx (swapP p).funcs 0 []) s).toNat]? ∧ 0 ≤ lkV (fnIx p.funcs 0 []) s ∧ 0 ≤ lkV (fnIx (swapP p).funcs 0 []) s := fun s hs => by
    obtain ⟨h1, h2⟩ := swap_find hn hs
    rw [fnIx_find s p.funcs [] 0 [] hv.names.2 hs, fnIx_find s (swapP p).funcs [] 0 [] ((dupFrom_iff _).2 (swap_nms hn)) h1]
    exact ⟨h2, hs, h1⟩
  have hP : ∀ f ∈ p.funcs, chkS (scOf p f) false f.body = true := fun f hf => by
    have h4 := List.any_eq_false.1 hv.un f hf
    simp only [undFn, Bool.not_eq_true, Bool.not_eq_false', Bool.and_eq_true] at h4
    exact h4.1
  obtain ⟨a1, a2, a3⟩ := hA nm h
  exact (stepM_swap hA hP n).2.2.2 _ _ al s a2 a3 a1
theorem swap_valid {p : Pr} (h : Valid p) : Valid (swapP p) := valid_of (by
  rw [refCheck_swap, refCheck, h.ex, h.wf, h.du, h.un, h.ba]; rfl)
theorem fnsSz_append : ∀ a b : List Fu, fnsSz (a ++ b) = fnsSz a + fnsSz b
  | [], b => by simp [fnsSz]
  | f :: a, b => by simp only [List.cons_append, fnsSz, fnsSz_append a b]; omega
theorem fnsSz_rev : ∀ a : List Fu, fnsSz a.reverse = fnsSz a
  | [] => rfl
  | f :: a => by rw [List.reverse_cons, fnsSz_append, fnsSz_rev a]; simp only [fnsSz]; omega
theorem swap_sz (p : Pr) : (swapP p).sz = p.sz := by simp only [Pr.sz, swapP, fnsSz_rev]
end Go.Proofs.Ytjkmbpieknaekaa
namespace Go.Proofs.Ytjkmbpieknaekaa
set_option maxRecDepth 20000
set_option linter.unusedSimpArgs false
set_option linter.unusedVariables false
set_option linter.unusedSectionVars false
set_option linter.defProp false
set_option maxRecDepth 20000
open Go Go.Ab
namespace tyGSw
def tyF := And.intro @tq3 (And.intro @tq9 (And.intro @tq22 (And.intro @tq23 (And.intro @tq25 (And.intro @tq35 (And.intro @tq36 (And.intro @tq39 (And.intro @tq41 (@tq44)))))))))
end tyGSw
open tyGSw
noncomputable def code18 : { c : SC // slim 29 (Try.f18.body.getD .skip) = c } := by
  refine ⟨?_, ?_⟩
  rotate_left
  · simp only [Try.f18, Option.getD_some, slim, slimR, slimL, slimD, slimG, Nat.blt, Nat.ble]
    rfl
theorem bsA0 (H : Hp) : buildSliceA Try.prog H 22 0 [] = some (.sl H.next 0 0 2, H.alloc (.cells [] 0 true)) := by kernel_rfl
theorem bPa (q n : Nat) : buildA Try.prog 25 [(0, .sl q 0 n 2)] = some (.agg [.sl q 0 n 2, .nilS]) := by kernel_rfl
theorem bsF1' (H : Hp) (x : Fu) : buildSliceA Try.prog H 23 1 [(0, .agg x.cells)] = some (.sl H.next 0 1 9, H.alloc (.cells x.cells 0 true)) := by
  rw [Fu.cells_eq]; kernel_rfl
theorem rev_at {p : Pr} {i : Nat} (hi : i < p.funcs.length) : p.funcs.reverse[i]? = p.funcs[p.funcs.length - 1 - i]? := List.getElem?_reverse hi
set_option maxRecDepth 100000 in
set_option maxHeartbeats 8000000 in
theorem swapped_con (ρ : Nat → Int) (p : Pr) (hl : p.sz < 2 ^ 36) : Con Try.prog ρ 18 (prE p) (.agg (swapP p).cells) := by
  refine con_of_wk2 (n := 60) (cfg := cfgN pls []) fit (noDec ρ) (fun g ar r hg => EnsOk.look (l := []) trivial g ar r hg) (.cons (.agg p.pure) .nil) ?_
  have hw := plain0 18
  have hkeep : (cfgN pls []).keep 18 = false := rfl
  have hpz : p.sz = 1 + arrsSz p.arrays + fnsSz p.funcs := rfl
  have hla := arrsSz_len p.arrays
  have hlf := fnsSz_len p.funcs
  rw [prE]
  refine WpCall.slim (M := 29) (rs := [.cell 2 25]) (hw.call _) hw.ice hw.froz Try.func18 rfl rfl code18.2 rfl ?_; dsimp only [code18, envOf, Nat.reduceAdd]
  have gh0 := @bsA0
  repeat' (first
     | (apply Rx.nl ?_; clear hK K) | apply Rx.o ?_ | apply Rx.on ?_ | (apply Rx.cd (fun hb hbp => ?_) (fun hb hbp => ?_) <;> try (cases hb; done)) | apply Wp.seq ?_ | (apply Wp.ops' fun K hK => ?_) | (apply Rx.dT 5 [(1, 8), (3, 8), (6, 8), (7, 8)] fun K hK => ?_) | (apply Rx.nq ?_; try intro _) | (apply Rx.nt ?_ ?_ <;> clear hK K) | apply WpT.step ?_ | apply WpT.step0 rfl ?_ | apply Wp.block ?_ | apply Rx.sk ?_ | apply Rx.rt ?_ | apply Rx.xt ?_)
  generalize hHb : Hp.alloc (Hp.alloc (Hp.alloc H0 _) _) _ = Hb
  have nb : Hb.next = 3 := by rw [← hHb]; rfl
  have g0 : Hb.get 0 = some (.cells p.cells 0 true) := by rw [← hHb]; simp [Hp.get_alloc, Hp.next_alloc, H0_next]
  have g1 : Hb.get 1 = some (.cells [.nilS, .nilS] 0 true) := by rw [← hHb]; simp [Hp.get_alloc, Hp.next_alloc, H0_next]
  have g2 : Hb.get 2 = some (.cells [] 0 true) := by rw [← hHb]; simp [Hp.get_alloc, Hp.next_alloc, H0_next]
  clear hHb
  obtain ⟨v8, H8, a8, s8, n8, n8', f8, q8, z8⟩ := RowOwn.pushL (P := Try.prog) (t := 22) (u := 22) Try.underlying22 sz44 bt44 zr44 rfl (by kernel_rfl) (lo := 2) (n := 1) (H := Hb) (v := .sl 2 0 0 2) (ws := []) (.inr ⟨2, 0, [], rfl, Nat.le_refl _, by omega, g2, Nat.zero_le _, trivial⟩) (by omega) (src_rows (rows := p.arrays.map Ar.cells) fun r hr => by obtain ⟨a, _, rfl⟩ := List.mem_map.1 hr; rfl) (ars_one _) (RowsW.ars _) (by simp [maxRoom]; omega) (by simp [maxRoom]; omega)
  rw [List.nil_append] at s8
  have h80 : H8.get 0 = some (.cells p.cells 0 true) := by rw [f8 _ (by omega) (fun o m z' e => by simp at e)]; exact g0
  have h81 : H8.get 1 = some (.cells [.nilS, .nilS] 0 true) := by rw [f8 _ (by omega) (fun o m z' e => by simp at e)]; exact g1
  obtain ⟨qa, na, rfl⟩ : ∃ q m, v8 = .sl q 0 m 2 := by
    rcases s8 with ⟨e, _⟩ | ⟨q, _, rows, e, _⟩
    · have := z8 e; cases this
    · exact ⟨q, rows.length, e⟩
  clear f8 q8 z8 g0 g1 g2
  have e0 : (0 == H8.next) = false := ne_beq (by omega)
  have e1 : (1 == H8.next) = false := ne_beq (by omega)
  have hwl : IntKind.wrap .i64 ((p.funcs.length : Int) - 1) = (p.funcs.length : Int) - 1 := i64_id (by omega) (by omega)
  have gh0 := @bPa
  repeat' (first
     | (apply Rx.nl ?_; clear hK K) | apply Rx.o ?_ | apply Rx.on ?_ | (apply Rx.cd (fun hb hbp => ?_) (fun hb hbp => ?_) <;> try (cases hb; done)) | apply Wp.seq ?_ | (apply Wp.ops' fun K hK => ?_) | (apply Rx.dT 5 [(1, 8), (3, 8), (6, 8), (7, 8)] fun K hK => ?_) | (apply Rx.nq ?_; try intro _) | (apply Rx.nt ?_ ?_ <;> clear hK K) | apply WpT.step ?_ | apply WpT.step0 rfl ?_ | apply Wp.block ?_ | apply Rx.sk ?_ | apply Rx.rt ?_ | apply Rx.xt ?_)
  generalize hH9 : Hp.set (Hp.alloc H8 _) H8.next _ = H9
  have n9 : H9.next = H8.next + 1 := by rw [← hH9]; rfl
  have g9 : H9.get H8.next = some (.cells [.sl qa 0 na 2, .nilS] 0 true) := by rw [← hH9, Hp.get_set, if_pos rfl]
  have f9 : ∀ k, k < H8.next → H9.get k = H8.get k := fun k hk => by rw [← hH9, Hp.get_set, if_neg (by omega), Hp.get_alloc, if_neg (by omega)]
  clear hH9 e0 e1
  generalize hr3 : H8.next = r3 at *
  refine Wp.loopN (fun i E H => E.at 1 = .ptr 0 0 ∧ E.at 2 = .ptr 1 0 ∧ E.at 3 = .ptr r3 0 ∧ E.at 4 = .int .i64 ((p.funcs.length : Int) - 1 - i) ∧ (∀ k, k < r3 → H.get k = H8.get k) ∧ r3 < H.next ∧ ∃ lv, H.get r3 = some (.cells [.sl qa 0 na 2, lv] 0 true) ∧ RowOwn (fun q => r3 + 1 ≤ q) 1 H 9 lv ((p.funcs.reverse.take i).map Fu.cells)) p.funcs.length ?_ ?_
  · rintro i E H hi ⟨k1, k2, k3, k4, fr, hlt, lv, gr, hrow⟩
    obtain ⟨p1, p2⟩ := hrow.one
    have gp : H.get 0 = some (.cells p.cells 0 true) := by rw [fr 0 (by omega)]; exact h80
    have gq : H.get 1 = some (.cells [.nilS, .nilS] 0 true) := by rw [fr 1 (by omega)]; exact h81
    repeat' (first
       | (apply Rx.nl ?_; clear hK K) | apply Rx.o ?_ | apply Rx.on ?_ | (apply Rx.cd (fun hb hbp => ?_) (fun hb hbp => ?_) <;> try (cases hb; done)) | apply Wp.seq ?_ | (apply Wp.ops' fun K hK => ?_) | (apply Rx.dT 5 [(1, 8), (3, 8), (6, 8), (7, 8)] fun K hK => ?_) | (apply Rx.nq ?_; try intro _) | (apply Rx.nt ?_ ?_ <;> clear hK K) | apply WpT.step ?_ | apply WpT.step0 rfl ?_ | apply Wp.block ?_ | apply Rx.sk ?_ | apply Rx.rt ?_ | apply Rx.xt ?_)
    · have hlt2 : i < p.funcs.length := by omega
      obtain ⟨f, hf⟩ : ∃ f, p.funcs[((p.funcs.length : Int) - 1 - i).toNat]? = some f := ⟨p.funcs[((p.funcs.length : Int) - 1 - i).toNat], List.getElem?_eq_getElem (by omega)⟩
      have hrf : p.funcs.reverse[i]? = some f := by rw [rev_at hlt2, ← hf]; congr 1; omega
      have hnn : 0 ≤ (p.funcs.length : Int) - 1 - i := by omega
      have hw2 : IntKind.wrap .i64 ((p.funcs.length : Int) - 1 - i - 1) = (p.funcs.length : Int) - 1 - ((i + 1 : Nat) : Int) := by rw [i64_id (by omega) (by omega)]; omega
      have hb2 := bsF1' H f
      have er : ∀ k, k < H.next → (H.alloc (.cells f.cells 0 true)).get k = H.get k := fun k hk => by rw [Hp.get_alloc, if_neg (by omega)]
      have gr2 : (H.alloc (.cells f.cells 0 true)).get r3 = some (.cells [.sl qa 0 na 2, lv] 0 true) := by rw [er _ hlt]; exact gr
      have hln : (p.funcs.reverse.take i).length ≤ p.funcs.length := by simp; omega
      obtain ⟨v5, H5, a5, s5, n5, f5, q5⟩ := RowOwn.push (P := Try.prog) (t := 23) Try.underlying23 sz41 bt41 zr41 rfl (by kernel_rfl) (hrow.keep (H' := H.alloc (.cells f.cells 0 true)) (fun _ _ h => h) (Nat.le_succ _) fun q h1 h2 => er q h2) (by simp only [Hp.next_alloc]; omega) (r := H.next) (imm := 0) (row := f.cells) (w := f.cells) (by rw [Hp.get_alloc, if_pos rfl]) f.clen f.one (CellsW.fu f) (by simp [maxRoom]; omega) (by simp [maxRoom]; omega)
      have hlv : ∀ q o m z', lv = .sl q o m z' → r3 + 1 ≤ q := fun q o m z' e => by
        rcases hrow with ⟨rfl, _⟩ | ⟨q', imm, rows, rfl, e1, e2, _⟩
        · cases e
        · simp only [AV.sl.injEq] at e
          rw [← e.1]; exact e1
      have g5 : H5.get r3 = some (.cells [.sl qa 0 na 2, lv] 0 true) := by rw [f5 _ (by simp only [Hp.next_alloc]; omega) (fun o m z' e => by have := hlv _ o m z' e; omega)]; exact gr2
      have o5 : ∀ k, k < r3 → H5.get k = H8.get k := fun k hk => by rw [f5 _ (by simp only [Hp.next_alloc]; omega) (fun o m z' e => by have := hlv _ o m z' e; omega), er _ (by omega)]; exact fr k hk
      obtain ⟨t1, t2⟩ := s5.one
      simp only [Hp.next_alloc] at n5
      have n5' : r3 < H5.next := by omega
      have n5c : H.next + 1 ≤ H5.next := by omega
      clear f5 q5 n5 hlv er gr2 hrow hln fr
      repeat' (first
         | (apply Rx.nl ?_; clear hK K) | apply Rx.o ?_ | apply Rx.on ?_ | (apply Rx.cd (fun hb hbp => ?_) (fun hb hbp => ?_) <;> try (cases hb; done)) | apply Wp.seq ?_ | (apply Wp.ops' fun K hK => ?_) | (apply Rx.dT 5 [(1, 8), (3, 8), (6, 8), (7, 8)] fun K hK => ?_) | (apply Rx.nq ?_; try intro _) | (apply Rx.nt ?_ ?_ <;> clear hK K) | apply WpT.step ?_ | apply WpT.step0 rfl ?_ | apply Wp.block ?_ | apply Rx.sk ?_ | apply Rx.rt ?_ | apply Rx.xt ?_)
      · have e3 : (r3 == H.next) = false := ne_beq (by omega)
        have e00 : (0 == H.next) = false := ne_beq (by omega)
        exact eK
      refine ⟨hlt2, eE, eE, eE, eE, fun k hk => by rw [Hp.get_set, if_neg (by omega)]; exact o5 k hk, n5', v5, by rw [Hp.get_set, if_pos rfl], ?_⟩
      have hnm : (p.funcs.reverse.take (i + 1)).map Fu.cells = (p.funcs.reverse.take i).map Fu.cells ++ [f.cells] := by rw [List.take_add_one, hrf]; simp
      rw [hnm]
      exact s5.keep (H' := Hp.set H5 r3 (.cells [.sl qa 0 na 2, v5] 0 true)) (fun _ _ h => h) (Nat.le_refl _) fun q h1 h2 => by rw [Hp.get_set, if_neg (by omega)]
    · have hie : i = p.funcs.length := by omega
      subst hie
      have ha2 : ∀ a b : AV, aggA 2 [a, b] = some (.agg [a, b]) := fun _ _ => rfl
      repeat' (first
         | (apply Rx.nl ?_; clear hK K) | apply Rx.o ?_ | apply Rx.on ?_ | (apply Rx.cd (fun hb hbp => ?_) (fun hb hbp => ?_) <;> try (cases hb; done)) | apply Wp.seq ?_ | (apply Wp.ops' fun K hK => ?_) | (apply Rx.dT 5 [(1, 8), (3, 8), (6, 8), (7, 8)] fun K hK => ?_) | (apply Rx.nq ?_; try intro _) | (apply Rx.nt ?_ ?_ <;> clear hK K) | apply WpT.step ?_ | apply WpT.step0 rfl ?_ | apply Wp.block ?_ | apply Rx.sk ?_ | apply Rx.rt ?_ | apply Rx.xt ?_)
      refine ⟨eI, _, (by (try simp only [sB, sO, Nat.reduceBEq, Nat.reduceAdd, Nat.reduceLeDiff, tyF, resultsA, resultA, ha2, *]); first | done | with_reducible rfl), ?_⟩; try simp only [oneOr]
      have ht : (List.take p.funcs.length p.funcs.reverse) = p.funcs.reverse := List.take_of_length_le (by simp)
      rw [ht] at hrow
      have hA : RdW (fun _ => True) 2 (H.set 1 (.cells [.sl qa 0 na 2, lv] 0 true)) (.sl qa 0 na 2) (.lst (p.arrays.map Ar.cells)) := s8.rd.keep2 (fun _ _ _ => trivial) (by show H8.next ≤ H.next; omega) fun k h1 h2 => by rw [Hp.get_set, if_neg (by omega), fr k (by omega)]
      have hF : RdW (fun _ => True) 2 (H.set 1 (.cells [.sl qa 0 na 2, lv] 0 true)) lv (.lst (p.funcs.reverse.map Fu.cells)) := hrow.rd.keep2 (fun _ _ _ => trivial) (Nat.le_refl _) fun k h1 h2 => by rw [Hp.get_set, if_neg (by omega)]
      obtain ⟨us, h1, h2⟩ := CellsW.cons hA (CellsW.cons hF .nil)
      have h3 : Ic (fun _ => True) 100 (H.set 1 (.cells [.sl qa 0 na 2, lv] 0 true)) (.agg [.sl qa 0 na 2, lv]) (.agg us) := Ic.up (n := 3) ⟨us, h1, rfl⟩ (by omega)
      obtain ⟨m0, hm⟩ := Ic.iceV h3
      refine ⟨m0, .agg us, hm m0 (Nat.le_refl _), ?_⟩
      show AV.agg (us.map (wkN 59)) = _
      rw [h2 59 (by omega)]; rfl
  · refine ⟨eE, eE, eE, by rw [show ((p.funcs.length : Int) - 1 - ((0 : Nat) : Int)) = (p.funcs.length : Int) - 1 from by omega]; exact eE, f9, by omega, .nilS, g9, .inl ⟨rfl, rfl⟩⟩
noncomputable def enSwap : En := ⟨18, false, spP (fun p => p.sz < 2 ^ 36) prE fun p => .agg (swapP p).cells⟩
theorem enSwap_ok (ρ : Nat → Int) : EnOk Try.prog ρ enSwap := spP_ok fun p hp => swapped_con ρ p hp
end Go.Proofs.Ytjkmbpieknaekaa
