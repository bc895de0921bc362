/- More fuel changes no answer. -/
import Derived.Test.YtlanljjbcpepjaaAbLaw
namespace Go.Ab
set_option linter.unusedSimpArgs false
set_option linter.unusedVariables false
set_option linter.unusedSectionVars false
open Go

def Le (ih ih' : Task → Res) : Prop := ∀ t, ih t ≠ .fail → ih' t = ih t

section
variable {P : Program} {cfg : Cfg} {ih ih' : Task → Res}

theorem operA_mono (h : Le ih ih') {f : FuncId} {E : Env} {H : Hp} {op : Op} (hn : operA P cfg ih f E H op ≠ .fail) : operA P cfg ih' f E H op = operA P cfg ih f E H op := by
  unfold operA at *
  split
  · rename_i c
    unfold callA at *
    split
    · rename_i g hg
      simp only [hg] at hn
      split
      · rename_i k cap vs h1 h2
        simp only [h1, h2] at hn
        exact h _ hn
      · rfl
    · rfl
    · rfl
  · rfl

theorem runOps_nil {f N : Nat} {all : List Oper} {E : Env} {H : Hp} : runOps P cfg ih f N all [] E H = .done .normal E H := rfl

theorem runOps_cons {f N : Nat} {all : List Oper} {o : Oper} {l : List Oper} {E : Env} {H : Hp} : runOps P cfg ih f N all (o :: l) E H = match wantedA all E o with
      | true => match operA P cfg ih f E H o.op with
        | .val v H => afterPut (runOps P cfg ih f N all l) H (putA N E o.dst v)
        | _ => .fail
      | false => afterPut (runOps P cfg ih f N all l) H (putA N E o.dst undefA) := rfl

theorem runOps_mono (h : Le ih ih') {f N : Nat} {all : List Oper} : ∀ {l : List Oper} {E : Env} {H : Hp}, runOps P cfg ih f N all l E H ≠ .fail → runOps P cfg ih' f N all l E H = runOps P cfg ih f N all l E H
  | [], _, _, _ => rfl
  | o :: l, E, H, hn => by
    rw [runOps_cons] at hn ⊢
    rw [runOps_cons]
    cases hw : wantedA all E o with
    | true =>
      simp only [hw] at hn ⊢
      cases ho : operA P cfg ih f E H o.op with
      | fail => simp [ho] at hn
      | done x E1 H1 => simp [ho] at hn
      | val v H1 =>
        rw [operA_mono h (by rw [ho]; simp), ho]
        simp only [ho] at hn ⊢
        cases hp : putA N E o.dst v with
        | none => rfl
        | some E1 =>
          rw [hp] at hn
          exact runOps_mono h hn
    | false =>
      simp only [hw] at hn ⊢
      cases hp : putA N E o.dst undefA with
      | none => rfl
      | some E1 =>
        rw [hp] at hn
        exact runOps_mono h hn

theorem runD_mono (h : Le ih ih') {f N : Nat} {all : List Oper} : ∀ {l : List Oper} {E : Env} {H : Hp}, runD P cfg ih f N all l E H ≠ .fail → runD P cfg ih' f N all l E H = runD P cfg ih f N all l E H
  | [], _, _, _ => rfl
  | o :: l, E, H, hn => by
    have hcons : ∀ {r : Rec} {x : ResD}, consD r x ≠ .fail → x ≠ .fail := fun {r x} hx e => hx (by rw [e]; rfl)
    simp only [runD] at hn ⊢
    cases hw : wantedA all E o with
    | true =>
      simp only [hw] at hn ⊢
      cases ho : operA P cfg ih f E H o.op with
      | fail => simp [ho] at hn
      | done x E1 H1 => simp [ho] at hn
      | val v H1 =>
        rw [operA_mono h (by rw [ho]; simp), ho]
        simp only [ho] at hn ⊢
        cases hp : putA N E o.dst v with
        | none => rfl
        | some E1 =>
          rw [hp] at hn
          have := runD_mono h (hcons hn)
          simp only [afterPutD, this]
    | false =>
      simp only [hw] at hn ⊢
      cases hp : putA N E o.dst undefA with
      | none => rfl
      | some E1 =>
        rw [hp] at hn
        have := runD_mono h (hcons hn)
        simp only [afterPutD, this]

theorem runDraw_mono (h : Le ih ih') {f N : Nat} {ops : List Oper} {E : Env} {H : Hp} (hn : runDraw P cfg ih f N ops E H ≠ .fail) : runDraw P cfg ih' f N ops E H = runDraw P cfg ih f N ops E H := by
  unfold runDraw at *
  split
  · rename_i hc
    simp only [hc] at hn
    cases hr : runD P cfg ih f N ops ops E H with
    | fail => simp [hr] at hn
    | done E1 H1 rs => rw [runD_mono h (by rw [hr]; simp), hr]
  · rfl

theorem bothD_mono {ops : List Oper} {r1 r2 r1' r2' : Res} (h1 : r1 ≠ .fail → r1' = r1) (h2 : r2 ≠ .fail → r2' = r2) (hn : bothD ops r1 r2 ≠ .fail) : bothD ops r1' r2' = bothD ops r1 r2 := by
  have g1 : r1 ≠ .fail := fun e => hn (by rw [e]; rfl)
  have g2 : r2 ≠ .fail := fun e => hn (by rw [e]; unfold bothD; split <;> simp_all)
  rw [h1 g1, h2 g2]

theorem runPlan_mono (h : Le ih ih') {f N : Nat} {E : Env} {H : Hp} : ∀ {pl : Plan} {ops : List Oper}, runPlan P cfg ih f N E H pl ops ≠ .fail → runPlan P cfg ih' f N E H pl ops = runPlan P cfg ih f N E H pl ops
  | .text, ops, hn => runDraw_mono h hn
  | .perm ord, ops, hn => by
    simp only [runPlan] at *
    split
    · rename_i hp
      simp only [hp] at hn
      exact runDraw_mono h hn
    · rfl
  | .split p q a b, ops, hn => by
    simp only [runPlan] at *
    split
    · rfl
    · rename_i hp
      simp only [hp] at hn
      exact bothD_mono (fun h1 => runPlan_mono h h1) (fun h2 => runPlan_mono h h2) hn

theorem stepCall_mono (h : Le ih ih') {f : FuncId} {args : List AV} {H : Hp} (hn : stepCall P ih f args H ≠ .fail) : stepCall P ih' f args H = stepCall P ih f args H := by
  unfold stepCall at *
  split
  · rename_i fn hf
    simp only [hf] at hn
    split
    · rename_i c hb
      simp only [hb] at hn
      cases hr : ih (.code f (max fn.ntmps args.length) c (envOf 0 args (fullE (max fn.ntmps args.length))) H) with
      | fail => simp [hr] at hn
      | val v H1 => rw [h _ (by rw [hr]; simp), hr]
      | done x E1 H1 => rw [h _ (by rw [hr]; simp), hr]
    · rfl
  · rfl

theorem stepAny_mono (h : Le ih ih') {f : FuncId} {args : List AV} {H : Hp} (hn : stepAny P cfg ih f args H ≠ .fail) : stepAny P cfg ih' f args H = stepAny P cfg ih f args H := by
  unfold stepAny at *
  split
  · rename_i hi
    simp only [hi] at hn
    unfold stepIced at *
    split
    · rename_i as H' hs
      simp only [hs] at hn
      split
      · rfl
      · rename_i h1
        simp only [h1] at hn
        exact stepCall_mono h hn
    · rename_i hs
      simp only [hs] at hn
      exact stepCall_mono h hn
  · rename_i hi
    simp only [hi] at hn
    exact stepCall_mono h hn

theorem stepSeq_mono (h : Le ih ih') {f N : Nat} {b : Code} {r r' : Res} (hr : r ≠ .fail → r' = r) (hn : stepSeq ih f N b r ≠ .fail) : stepSeq ih' f N b r' = stepSeq ih f N b r := by
  cases r with
  | fail => simp [stepSeq] at hn
  | val v H1 => rw [hr (by simp)]; rfl
  | done x E1 H1 =>
    rw [hr (by simp)]
    cases x with
    | normal => exact h _ hn
    | exit id => rfl
    | ret => rfl

theorem step_mono (h : Le ih ih') {t : Task} (hn : step P cfg ih t ≠ .fail) : step P cfg ih' t = step P cfg ih t := by
  cases t with
  | call f args H =>
    simp only [step] at *
    split
    · rfl
    · rename_i hc
      simp only [hc] at hn
      have hany : stepAny P cfg ih f args H ≠ .fail := fun e => hn (by rw [e]; unfold freeze; split <;> simp_all)
      rw [stepAny_mono h hany]
  | code f N c E H =>
    cases c with
    | region id ops draw => cases draw with
      | false => exact runOps_mono h hn
      | true => exact runPlan_mono h hn
    | seq a b => exact stepSeq_mono h (h _) hn
    | loop a => exact stepSeq_mono h (h _) hn
    | cond x a b =>
      simp only [step] at *
      unfold stepCond at *
      split
      · rename_i hc
        simp only [hc] at hn
        exact h _ hn
      · rename_i hc
        simp only [hc] at hn
        exact h _ hn
      · rfl
    | block id a =>
      simp only [step] at *
      cases hr : ih (.code f N a E H) with
      | fail => simp [hr, stepBlock] at hn
      | val v H1 => rw [h _ (by rw [hr]; simp), hr]
      | done x E1 H1 => rw [h _ (by rw [hr]; simp), hr]
    | _ => rfl

theorem ev_le : ∀ n, Le (ev P cfg n) (ev P cfg (n + 1))
  | 0 => fun _ hn => (hn rfl).elim
  | n + 1 => fun _ hn => step_mono (ev_le n) hn

/-- More fuel changes no answer. -/
theorem ev_mono {n m : Nat} (hm : n ≤ m) {t : Task} (hn : ev P cfg n t ≠ .fail) : ev P cfg m t = ev P cfg n t := by
  induction m with
  | zero => rw [show n = 0 by omega]
  | succ m ih =>
    by_cases h : n = m + 1
    · rw [h]
    · have := ih (by omega)
      rw [ev_le m t (by rw [this]; exact hn), this]

theorem ev_more {n m : Nat} (hm : n ≤ m) {t : Task} {r : Res} (h : ev P cfg n t = r) (hr : r ≠ .fail) : ev P cfg m t = r := by
  rw [ev_mono hm (by rw [h]; exact hr), h]

/-- With enough fuel, the task comes to r. -/
def Ev (P : Program) (cfg : Cfg) (t : Task) (r : Res) : Prop := r ≠ .fail ∧ ∃ n, ev P cfg n t = r

theorem Ev.step {t : Task} {r : Res} (hr : r ≠ .fail) {n : Nat} (h : Ab.step P cfg (ev P cfg n) t = r) : Ev P cfg t r := ⟨hr, n + 1, h⟩

section
variable {f N id : Nat} {a b : Code} {x : Operand} {E E1 : Env} {H H1 : Hp} {r : Res} {ex : AX}

theorem Ev.seq (h1 : Ev P cfg (.code f N a E H) (.done .normal E1 H1)) (h2 : Ev P cfg (.code f N b E1 H1) r) : Ev P cfg (.code f N (.seq a b) E H) r := by
  obtain ⟨_, n, h1⟩ := h1
  obtain ⟨hr, m, h2⟩ := h2
  refine Ev.step hr (n := max n m) ?_
  show stepSeq (ev P cfg (max n m)) f N b (ev P cfg (max n m) (.code f N a E H)) = r
  rw [ev_more (Nat.le_max_left n m) h1 (by simp)]
  exact ev_more (Nat.le_max_right n m) h2 hr

theorem Ev.seq_leave (h1 : Ev P cfg (.code f N a E H) (.done ex E1 H1)) (hx : ex ≠ .normal) : Ev P cfg (.code f N (.seq a b) E H) (.done ex E1 H1) := by
  obtain ⟨hr, n, h1⟩ := h1
  refine Ev.step hr (n := n) ?_
  show stepSeq (ev P cfg n) f N b (ev P cfg n (.code f N a E H)) = _
  rw [h1]
  cases ex with
  | normal => exact (hx rfl).elim
  | exit id => rfl
  | ret => rfl

theorem Ev.loop (h1 : Ev P cfg (.code f N a E H) (.done .normal E1 H1)) (h2 : Ev P cfg (.code f N (.loop a) E1 H1) r) : Ev P cfg (.code f N (.loop a) E H) r := by
  obtain ⟨_, n, h1⟩ := h1
  obtain ⟨hr, m, h2⟩ := h2
  refine Ev.step hr (n := max n m) ?_
  show stepSeq (ev P cfg (max n m)) f N (.loop a) (ev P cfg (max n m) (.code f N a E H)) = r
  rw [ev_more (Nat.le_max_left n m) h1 (by simp)]
  exact ev_more (Nat.le_max_right n m) h2 hr

theorem Ev.loop_leave (h1 : Ev P cfg (.code f N a E H) (.done ex E1 H1)) (hx : ex ≠ .normal) : Ev P cfg (.code f N (.loop a) E H) (.done ex E1 H1) := by
  obtain ⟨hr, n, h1⟩ := h1
  refine Ev.step hr (n := n) ?_
  show stepSeq (ev P cfg n) f N (.loop a) (ev P cfg n (.code f N a E H)) = _
  rw [h1]
  cases ex with
  | normal => exact (hx rfl).elim
  | exit id => rfl
  | ret => rfl

theorem Ev.cond_true (hx : aeval E x = some (.bool true)) (h : Ev P cfg (.code f N a E H) r) : Ev P cfg (.code f N (.cond x a b) E H) r := by
  obtain ⟨hr, n, h⟩ := h
  refine Ev.step hr (n := n) ?_
  show stepCond (ev P cfg n) f N x a b E H = r
  unfold stepCond
  rw [hx]
  exact h

theorem Ev.cond_false (hx : aeval E x = some (.bool false)) (h : Ev P cfg (.code f N b E H) r) : Ev P cfg (.code f N (.cond x a b) E H) r := by
  obtain ⟨hr, n, h⟩ := h
  refine Ev.step hr (n := n) ?_
  show stepCond (ev P cfg n) f N x a b E H = r
  unfold stepCond
  rw [hx]
  exact h

theorem Ev.block (h : Ev P cfg (.code f N a E H) (.done (.exit id) E1 H1)) : Ev P cfg (.code f N (.block id a) E H) (.done .normal E1 H1) := by
  obtain ⟨hr, n, h⟩ := h
  refine Ev.step (by simp) (n := n) ?_
  show stepBlock id (ev P cfg n (.code f N a E H)) = _
  rw [h]
  simp [stepBlock]

theorem Ev.block_normal (h : Ev P cfg (.code f N a E H) (.done .normal E1 H1)) : Ev P cfg (.code f N (.block id a) E H) (.done .normal E1 H1) := by
  obtain ⟨hr, n, h⟩ := h
  refine Ev.step (by simp) (n := n) ?_
  show stepBlock id (ev P cfg n (.code f N a E H)) = _
  rw [h]
  rfl

theorem Ev.block_ret (h : Ev P cfg (.code f N a E H) (.done .ret E1 H1)) : Ev P cfg (.code f N (.block id a) E H) (.done .ret E1 H1) := by
  obtain ⟨hr, n, h⟩ := h
  refine Ev.step (by simp) (n := n) ?_
  show stepBlock id (ev P cfg n (.code f N a E H)) = _
  rw [h]
  rfl

theorem Ev.block_other {id' : Nat} (hne : Nat.beq id' id = false) (h : Ev P cfg (.code f N a E H) (.done (.exit id') E1 H1)) : Ev P cfg (.code f N (.block id a) E H) (.done (.exit id') E1 H1) := by
  obtain ⟨hr, n, h⟩ := h
  refine Ev.step (by simp) (n := n) ?_
  show stepBlock id (ev P cfg n (.code f N a E H)) = _
  rw [h]
  simp only [stepBlock, hne]

theorem Ev.skip : Ev P cfg (.code f N .skip E H) (.done .normal E H) := Ev.step (by simp) (n := 0) rfl
theorem Ev.exit : Ev P cfg (.code f N (.exit id) E H) (.done (.exit id) E H) := Ev.step (by simp) (n := 0) rfl
theorem Ev.ret : Ev P cfg (.code f N .ret E H) (.done .ret E H) := Ev.step (by simp) (n := 0) rfl

theorem Ev.region {ops : Array Oper} {n : Nat} (h : runOps P cfg (ev P cfg n) f N ops.toList ops.toList E H = r) (hr : r ≠ .fail) : Ev P cfg (.code f N (.region id ops false) E H) r := Ev.step hr (n := n) h
theorem Ev.draw {ops : Array Oper} {n : Nat} (h : runPlan P cfg (ev P cfg n) f N E H (cfg.plan f id) ops.toList = r) (hr : r ≠ .fail) : Ev P cfg (.code f N (.region id ops true) E H) r := Ev.step hr (n := n) h

theorem Ev.call {args : List AV} {fn : Func} {c : Code} {v : AV} (hk : cfg.call f args = none) (hi : cfg.ice f = false) (hz : cfg.froz f = false) (hf : P.funcs[f]? = some fn) (hb : fn.body = some c)
    (h : Ev P cfg (.code f (max fn.ntmps args.length) c (envOf 0 args (fullE (max fn.ntmps args.length))) H) (.done ex E1 H1)) (hx : ex = .normal ∨ ex = .ret) (hres : retA P fn.results.toList E1 H1 = .val v H1) : Ev P cfg (.call f args H) (.val v H1) := by
  obtain ⟨_, n, h⟩ := h
  refine Ev.step (by simp) (n := n) ?_
  simp only [Ab.step, hk, hi, hz, stepAny, freeze]
  unfold stepCall
  simp only [hf, hb, h]
  rcases hx with rfl | rfl <;> exact hres
end
end
end Go.Ab
