/- The evaluator is sound, on: calls, and all forms of code. -/
import Derived.Test.YtlanljjbcpepjaaAbCon
namespace Go.Ab
open Go Go.RowKit

section
variable {P : Program} {B : Bs} {G : Gh} {H H' : Hp} {w : World}

theorem at_e (t : Nat) : Env.at (T.e : Env) t = undefA := rfl

theorem envOf_at : ∀ (args : List AV) (i : Nat) (E : Env) (t : Nat), (envOf i args E).at t = if i ≤ t ∧ t < i + args.length then args.getD (t - i) undefA else E.at t
  | [], i, E, t => by
    simp only [envOf, List.length_nil, Nat.add_zero]
    rw [if_neg (by omega)]
  | v :: vs, i, E, t => by
    simp only [envOf, envOf_at vs (i + 1), List.length_cons]
    by_cases h1 : i + 1 ≤ t ∧ t < i + 1 + vs.length
    · rw [if_pos h1, if_pos (by omega), show t - i = (t - (i + 1)) + 1 by omega]
      rfl
    · rw [if_neg h1, Env.at_set]
      by_cases h2 : t = i
      · subst h2; rw [if_pos rfl, if_pos (by omega)]; simp
      · rw [if_neg h2, if_neg (by omega)]

theorem at_fullT : ∀ (d t : Nat), Env.at (fullT d) t = undefA
  | 0, _ => rfl
  | d + 1, t => by
    unfold Env.at fullT
    rw [T.get_n]
    cases h : Nat.beq t 0 with
    | true => rfl
    | false =>
      rw [bsel_false]
      cases h2 : Nat.beq (Nat.mod t 2) 1 with
      | true => exact at_fullT d _
      | false => exact at_fullT d _

theorem at_full (N t : Nat) : Env.at (fullE N) t = undefA := at_fullT _ _

theorem TR.start {args : List AV} {vs : List Value} (h : VRs G args vs) (ntmps : Nat) :
    TR (max ntmps args.length) G (envOf 0 args (fullE (max ntmps args.length))) { tmps := vs.toArray ++ Array.replicate (ntmps - vs.toArray.size) undef, defers := [] } := by
  have hl := h.1
  refine ⟨by simp; omega, fun t => ?_⟩
  rw [envOf_at]
  simp only [Nat.zero_le, true_and, Nat.zero_add, Nat.sub_zero]
  by_cases ht : t < args.length
  · rw [if_pos ht]
    have e1 : args.getD t undefA = args[t] := by simp [List.getD, ht]
    rw [e1]
    have : (vs.toArray ++ Array.replicate (ntmps - vs.toArray.size) undef).getD t undef = vs[t]'(by omega) := by
      rw [Array.getD_eq_getD_getElem?, Array.getElem?_append_left (by simp; omega)]
      simp [show t < vs.length by omega]
    rw [this]
    exact h.2 t _ _ (List.getElem?_eq_getElem ht) (List.getElem?_eq_getElem (by omega))
  · rw [if_neg ht, at_full]
    have : (vs.toArray ++ Array.replicate (ntmps - vs.toArray.size) undef).getD t undef = undef := by
      rw [Array.getD_eq_getD_getElem?, Array.getElem?_append_right (by simp; omega)]
      simp only [Array.getElem?_replicate]
      split <;> rfl
    rw [this]
    exact VR.undef G

theorem result_sim (h : R B H w G) {N : Nat} {E : Env} {a : Act} (ht : TR N G E a) {r : ResultVar} {c : AV} (hr : resultA P E H r = some c) :
    ∃ v, (match r with
      | .tmp t => pure (a.tmps.getD t undef)
      | .cell x t => do loadVar t (← asAddr (a.tmps.getD x undef)) : Sem Value).run P w = .ok v w ∧ VR G c v := by
  cases r with
  | tmp t =>
    simp only [resultA, Option.some.injEq] at hr
    subst hr
    exact ⟨_, rfl, ht.slots t⟩
  | cell x t =>
    simp only [resultA] at hr
    have hx := ht.slots x
    obtain ⟨v, h1, h2⟩ := load_sim (P := P) h hx hr
    refine ⟨v, ?_, h2⟩
    show (do loadVar t (← asAddr (a.tmps.getD x undef)) : Sem Value).run P w = .ok v w
    generalize a.tmps.getD x undef = av at hx h1 ⊢
    generalize E.at x = ea at hx hr
    cases hx <;> simp [aload] at hr <;> simpa [Instr.loadAt, Instr.sureAddr, asAddr] using h1

theorem results_list (h : R B H w G) {N : Nat} {E : Env} {a : Act} (ht : TR N G E a) : ∀ {rs : List ResultVar} {cs : List AV}, resultsA P E H rs = some cs →
    ∃ vs, (rs.mapM (fun
      | .tmp t => pure (a.tmps.getD t undef)
      | .cell x t => do loadVar t (← asAddr (a.tmps.getD x undef)) : ResultVar → Sem Value)).run P w = .ok vs w ∧ VRs G cs vs
  | [], cs, hr => by
    simp only [resultsA, Option.some.injEq] at hr
    subst hr
    exact ⟨[], by simp, VRs.nil G⟩
  | r :: rs, cs, hr => by
    simp only [resultsA] at hr
    split at hr
    · rename_i c cs' h1 h2
      simp only [Option.some.injEq] at hr
      subst hr
      obtain ⟨v, g1, g2⟩ := result_sim (P := P) h ht h1
      obtain ⟨vs, k1, k2⟩ := results_list h ht h2
      refine ⟨v :: vs, ?_, VRs.cons g2 k2⟩
      rw [List.mapM_cons]
      simp only [Sem.run_bind, g1, Result.andThen_ok, k1, Sem.run_pure]
    · simp at hr

theorem results_sim (h : R B H w G) {N : Nat} {E : Env} {a : Act} (ht : TR N G E a) {fn : Func} {r : AV} (hr : retA P fn.results.toList E H = .val r H') :
    H' = H ∧ ∃ v, (results fn a.tmps).run P w = .ok v w ∧ VR G r v := by
  unfold retA at hr
  split at hr
  · rename_i cs hcs
    simp only [Res.val.injEq] at hr
    obtain ⟨rfl, rfl⟩ := hr
    obtain ⟨vs, h1, h2⟩ := results_list (P := P) h ht hcs
    refine ⟨rfl, ?_⟩
    have hrun : (results fn a.tmps).run P w = .ok (if h : vs.toArray.size = 1 then vs.toArray[0] else .tuple vs.toArray) w := by
      unfold results
      rw [Array.mapM_eq_mapM_toList]
      simp only [Sem.run_bind, Sem.run_map]
      exact congrArg (fun r : Result (List Value) => (r.andThen fun a w' => Result.ok a.toArray w').andThen fun a w' => Sem.run P (pure (if h : a.size = 1 then a[0] else Value.tuple a)) w') h1
    refine ⟨_, hrun, ?_⟩
    match cs, vs, h2 with
    | [], [], h2 => exact .tup (vs := []) rfl (by simp)
    | [c], [v], h2 => exact h2.of_cons.1
    | c :: c' :: cs, v :: v' :: vs, h2 =>
      have : ¬ (v :: v' :: vs).toArray.size = 1 := by simp
      rw [dif_neg this]
      exact .tup h2.1 h2.2
    | [], _ :: _, h2 => have := h2.1; simp at this
    | [_], [], h2 => have := h2.1; simp at this
    | [_], _ :: _ :: _, h2 => have := h2.1; simp at this
    | _ :: _ :: _, [], h2 => have := h2.1; simp at this
    | _ :: _ :: _, [_], h2 => have := h2.1; simp at this
  · simp at hr

theorem call_sound (_fit : Fit P) {n : Nat} {ih : Task → Res} (hih : Snd P B n ih) {f : FuncId} {args : List AV} {r : AV} (hs : stepCall P ih f args H = .val r H') {vs : List Value} (h : R B H w G) (hv : VRs G args vs) :
    (∃ fn, P.funcs[f]? = some fn ∧ fn.body.isSome = true) ∧ Calls P f vs.toArray w (fun e w' => ∃ v G', e = .returned v ∧ VR G' r v ∧ Step B H.next G w H' w' G') := by
  unfold stepCall at hs
  split at hs
  · rename_i fn hfn
    split at hs
    · rename_i c hc
      refine ⟨⟨fn, hfn, by rw [hc]; rfl⟩, calls_of_wp hfn hc ?_⟩
      have hst := TR.start hv fn.ntmps
      split at hs
      · rename_i E1 H1 hih1
        refine Code.wp_mono (fun e a' w' he => ?_) (hih.code _ _ _ _ _ _ _ _ hih1 G w _ h hst rfl)
        obtain ⟨rfl, G', ht', hs', hd⟩ := he
        obtain ⟨rfl, v, h1, h2⟩ := results_sim (P := P) hs'.r ht' hs
        exact ⟨hd, v, h1, v, G', rfl, h2, hs'⟩
      · rename_i E1 H1 hih1
        refine Code.wp_mono (fun e a' w' he => ?_) (hih.code _ _ _ _ _ _ _ _ hih1 G w _ h hst rfl)
        obtain ⟨rfl, G', ht', hs', hd⟩ := he
        obtain ⟨rfl, v, h1, h2⟩ := results_sim (P := P) hs'.r ht' hs
        exact ⟨hd, v, h1, v, G', rfl, h2, hs'⟩
      · simp at hs
    · simp at hs
  · simp at hs

/-- What a part of the code has come to, followed by what stands behind it. -/
theorem seq_sound {n : Nat} {ih : Task → Res} (_hih : Snd P B n ih) {f N : Nat} {b : Code} {r : Res} {x : AX} {E' : Env} (hs : stepSeq ih f N b r = .done x E' H') :
    ∃ x1 E1 H1, r = .done x1 E1 H1 ∧ ((x1 = .normal ∧ ih (.code f N b E1 H1) = .done x E' H') ∨ (x1 ≠ .normal ∧ x = x1 ∧ E' = E1 ∧ H' = H1)) := by
  unfold stepSeq at hs
  split at hs
  · rename_i E1 H1
    exact ⟨.normal, E1, H1, rfl, .inl ⟨rfl, hs⟩⟩
  · rename_i hne
    subst hs
    exact ⟨x, E', H', rfl, .inr ⟨fun e => by subst e; exact hne _ _ rfl, rfl, rfl, rfl⟩⟩

theorem code_sound (fit : Fit P) {n : Nat} {ih : Task → Res} (hih : Snd P B n ih) {f N : Nat} {c : Code} {E : Env} {x : AX} {E' : Env} (hs : step P B.cfg ih (.code f N c E H) = .done x E' H')
    {a : Act} (h : R B H w G) (ht : TR N G E a) (hd : a.defers = []) : Code.wp P c (Post B N H.next G w x E' H') a w := by
  cases c with
  | skip =>
    simp only [step, Res.done.injEq] at hs
    obtain ⟨rfl, rfl, rfl⟩ := hs
    exact wp_skip ⟨rfl, G, ht, Step.refl h, hd⟩
  | region id ops draw =>
    cases draw with
    | false =>
      exact wp_region_list (runOps_sim fit hih ops.toList hs h ht hd (fun _ _ _ hp => hp))
    | true => exact region_sim fit hih hs h ht hd
  | seq p q =>
    obtain ⟨x1, E1, H1, h1, h2⟩ := seq_sound hih hs
    refine wp_seq (Code.wp_mono (fun e a' w' he => ?_) (hih.code _ _ _ _ _ _ _ _ h1 G w a h ht hd))
    obtain ⟨rfl, G', ht', hs', hd'⟩ := he
    rcases h2 with ⟨rfl, h2⟩ | ⟨hne, rfl, rfl, rfl⟩
    · exact Code.wp_mono (fun e a w he => Post.trans hs' he) (hih.code _ _ _ _ _ _ _ _ h2 G' w' a' hs'.r ht' hd')
    · cases x with
      | normal => exact (hne rfl).elim
      | exit id => exact ⟨rfl, G', ht', hs', hd'⟩
      | ret => exact ⟨rfl, G', ht', hs', hd'⟩
  | cond y p q =>
    simp only [step, stepCond] at hs
    split at hs
    · rename_i hy
      have hb := aeval_rel ht hy
      have : a.eval y = .bool true := by generalize a.eval y = v at hb; cases hb; rfl
      exact wp_cond_true this (hih.code _ _ _ _ _ _ _ _ hs G w a h ht hd)
    · rename_i hy
      have hb := aeval_rel ht hy
      have : a.eval y = .bool false := by generalize a.eval y = v at hb; cases hb; rfl
      exact wp_cond_false this (hih.code _ _ _ _ _ _ _ _ hs G w a h ht hd)
    · simp at hs
  | block id p =>
    simp only [step] at hs
    cases h1 : ih (.code f N p E H) with
    | done x1 E1 H1 =>
      rw [h1] at hs
      refine wp_block (Code.wp_mono (fun e a' w' he => ?_) (hih.code _ _ _ _ _ _ _ _ h1 G w a h ht hd))
      obtain ⟨rfl, G', ht', hs', hd'⟩ := he
      cases x1 with
      | normal =>
        simp only [stepBlock, Res.done.injEq] at hs
        obtain ⟨rfl, rfl, rfl⟩ := hs
        exact ⟨rfl, G', ht', hs', hd'⟩
      | ret =>
        simp only [stepBlock, Res.done.injEq] at hs
        obtain ⟨rfl, rfl, rfl⟩ := hs
        exact ⟨rfl, G', ht', hs', hd'⟩
      | exit id' =>
        simp only [stepBlock] at hs
        cases hb : Nat.beq id' id with
        | true =>
          rw [hb] at hs
          simp only [Res.done.injEq] at hs
          obtain ⟨rfl, rfl, rfl⟩ := hs
          have := Nat.eq_of_beq_eq_true hb
          subst this
          simp only [exitOf, Exit.inBlock, if_true]
          exact ⟨rfl, G', ht', hs', hd'⟩
        | false =>
          rw [hb] at hs
          simp only [Res.done.injEq] at hs
          obtain ⟨rfl, rfl, rfl⟩ := hs
          have := Nat.ne_of_beq_eq_false hb
          simp only [exitOf, Exit.inBlock]
          rw [if_neg this]
          exact ⟨rfl, G', ht', hs', hd'⟩
    | val v H1 => rw [h1] at hs; simp [stepBlock] at hs
    | fail => rw [h1] at hs; simp [stepBlock] at hs
  | loop p =>
    refine wp_loop_rounds (n + 1) ?_
    rw [rounds_succ]
    obtain ⟨x1, E1, H1, h1, h2⟩ := seq_sound hih hs
    refine Code.wp_mono (fun e a' w' he => ?_) (hih.code _ _ _ _ _ _ _ _ h1 G w a h ht hd)
    obtain ⟨rfl, G', ht', hs', hd'⟩ := he
    rcases h2 with ⟨rfl, h2⟩ | ⟨hne, rfl, rfl, rfl⟩
    · exact rounds_mono (fun e a w he => Post.trans hs' he) (hih.loop _ _ _ _ _ _ _ _ h2 G' w' a' hs'.r ht' hd')
    · cases x with
      | normal => exact (hne rfl).elim
      | exit id => exact ⟨rfl, G', ht', hs', hd'⟩
      | ret => exact ⟨rfl, G', ht', hs', hd'⟩
  | exit id =>
    simp only [step, Res.done.injEq] at hs
    obtain ⟨rfl, rfl, rfl⟩ := hs
    exact wp_exit ⟨rfl, G, ht, Step.refl h, hd⟩
  | ret =>
    simp only [step, Res.done.injEq] at hs
    obtain ⟨rfl, rfl, rfl⟩ := hs
    exact wp_ret ⟨rfl, G, ht, Step.refl h, hd⟩
  | rangeFunc _ _ _ _ => simp [step] at hs
  | scope _ => simp [step] at hs
  | label _ => simp [step] at hs
  | goto _ => simp [step] at hs
  | refuse _ => simp [step] at hs

theorem loop_sound (_fit : Fit P) {n : Nat} {ih : Task → Res} (hih : Snd P B n ih) {f N : Nat} {c : Code} {E : Env} {x : AX} {E' : Env} (hs : step P B.cfg ih (.code f N (.loop c) E H) = .done x E' H')
    {a : Act} (h : R B H w G) (ht : TR N G E a) (hd : a.defers = []) : Code.rounds P c (Post B N H.next G w x E' H') (n + 1) a w := by
  rw [rounds_succ]
  obtain ⟨x1, E1, H1, h1, h2⟩ := seq_sound hih hs
  refine Code.wp_mono (fun e a' w' he => ?_) (hih.code _ _ _ _ _ _ _ _ h1 G w a h ht hd)
  obtain ⟨rfl, G', ht', hs', hd'⟩ := he
  rcases h2 with ⟨rfl, h2⟩ | ⟨hne, rfl, rfl, rfl⟩
  · exact rounds_mono (fun e a w he => Post.trans hs' he) (hih.loop _ _ _ _ _ _ _ _ h2 G' w' a' hs'.r ht' hd')
  · cases x with
    | normal => exact (hne rfl).elim
    | exit id => exact ⟨rfl, G', ht', hs', hd'⟩
    | ret => exact ⟨rfl, G', ht', hs', hd'⟩

/-- THE EVALUATOR IS SOUND. -/
theorem ev_sound (fit : Fit P) (hc : COk P B) : ∀ n, Snd P B n (ev P B.cfg n)
  | 0 => ⟨fun _ _ _ _ _ h => by simp [ev] at h, fun _ _ _ _ _ _ _ _ h => by simp [ev] at h, fun _ _ _ _ _ _ _ _ h => by simp [ev] at h⟩
  | n + 1 => by
    have hih := ev_sound fit hc n
    have he : ev P B.cfg (n + 1) = step P B.cfg (ev P B.cfg n) := rfl
    rw [he]
    refine ⟨fun f args H r H' hs G w vs h hv => ?_, fun f N c E H x E' H' hs G w a h ht hd => code_sound fit hih hs h ht hd, fun f N c E H x E' H' hs G w a h ht hd => loop_sound fit hih hs h ht hd⟩
    have hknown : ∀ {G : Gh} {args : List AV} {vs : List Value} {H : Hp} {r' : AV}, B.cfg.call f args = some r' → R B H w G → VRs G args vs →
        (∃ fn, P.funcs[f]? = some fn ∧ fn.body.isSome = true) ∧ Calls P f vs.toArray w (fun e w' => ∃ v G', e = .returned v ∧ VR G' r' v ∧ Step B H.next G w H w' G') := fun {G args vs H r'} hr h hv => by
      obtain ⟨h1, h2⟩ := hc f args r' hr
      refine ⟨h1, (h2 G w vs h.val h.frz hv).mono fun e w' hh => ?_⟩
      obtain ⟨v, F', rfl, hr', hg⟩ := hh
      exact ⟨v, _, rfl, hr', h.grow hg⟩
    have hany : ∀ {G : Gh} {args : List AV} {vs : List Value} {H H' : Hp} {r : AV}, stepAny P B.cfg (ev P B.cfg n) f args H = .val r H' → R B H w G → VRs G args vs →
        (∃ fn, P.funcs[f]? = some fn ∧ fn.body.isSome = true) ∧ Calls P f vs.toArray w (fun e w' => ∃ v G', e = .returned v ∧ VR G' r v ∧ Step B H.next G w H' w' G') := fun {G args vs H H' r} hs h hv => by
      unfold stepAny at hs
      split at hs
      · unfold stepIced at hs
        split at hs
        · rename_i as H1 hice
          split at hs
          · rename_i r' hr
            simp only [Res.val.injEq] at hs
            obtain ⟨rfl, rfl⟩ := hs
            obtain ⟨G1, s1, r1⟩ := iceHL_sound (iceH_sound 100) args vs H as H1 G h hv hice
            obtain ⟨h1, h2⟩ := hknown hr s1.r r1
            refine ⟨h1, h2.mono fun e w' hh => ?_⟩
            obtain ⟨v, G', rfl, hr', hs'⟩ := hh
            exact ⟨v, G', rfl, hr', s1.trans hs'⟩
          · exact call_sound fit hih hs h hv
        · exact call_sound fit hih hs h hv
      · exact call_sound fit hih hs h hv
    simp only [step] at hs
    split at hs
    · rename_i r' hr
      simp only [Res.val.injEq] at hs
      obtain ⟨rfl, rfl⟩ := hs
      exact hknown hr h hv
    · unfold freeze at hs
      split at hs
      · rename_i v1 H1 hz hv1
        obtain ⟨g1, g2⟩ := hany hv1 h hv
        refine ⟨g1, g2.mono fun e w' hh => ?_⟩
        obtain ⟨v, G', rfl, hr', hs'⟩ := hh
        cases hi : iceH 100 v1 H1 with
        | none => rw [hi] at hs; simp [resOf] at hs
        | some p =>
          obtain ⟨q, H2⟩ := p
          rw [hi] at hs
          simp only [resOf, Res.val.injEq] at hs
          obtain ⟨rfl, rfl⟩ := hs
          obtain ⟨G2, s2, r2⟩ := iceH_sound 100 v1 H1 _ _ G' v hs'.r hr' hi
          exact ⟨v, G2, rfl, r2, hs'.trans s2⟩
      · exact hany hs h hv
end
end Go.Ab
