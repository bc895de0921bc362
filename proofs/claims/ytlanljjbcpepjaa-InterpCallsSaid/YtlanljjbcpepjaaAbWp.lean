/- What a piece of code comes to, by rules: a calculus of weakest preconditions over the evaluator. -/
import Derived.Test.YtlanljjbcpepjaaAbEnv
import Derived.IntWalk
namespace Go.Ab
set_option linter.unusedSimpArgs false
set_option linter.unusedVariables false
set_option linter.unusedSectionVars false
open Go

/-- An operation without what the evaluator does not look at; its guard by the slot. -/
structure SOp where
  d : Option Nat
  op : Op
  g : Option (Nat × Bool)

inductive SC where
  | skip | ret | bad
  | ops (l : List SOp)
  | draw (id : Nat) (l : List Oper)
  | seq (a b : SC)
  | cond (x : Operand) (a b : SC)
  | block (id : Nat) (a : SC)
  | loop (a : SC)
  | exit (id : Nat)

def slimD (N : Nat) : Option Tmp → Option (Option Nat)
  | none => some none
  | some d => match Nat.blt d N with
    | true => some (some d)
    | false => none

def slimG (all : List Oper) : Option (Nat × Bool) → Option (Option (Nat × Bool))
  | none => some none
  | some (j, b) => match (all[j]?).bind (·.dst) with
    | some d => some (some (d, b))
    | none => none

def slimL (N : Nat) (all : List Oper) : List Oper → Option (List SOp)
  | [] => some []
  | o :: l => match slimD N o.dst, slimG all o.guard, slimL N all l with
    | some d, some g, some r => some (⟨d, o.op, g⟩ :: r)
    | _, _, _ => none

def slimR (l : Option (List SOp)) : SC := match l with
  | some l => .ops l
  | none => .bad

def slim (N : Nat) : Code → SC
  | .skip => .skip
  | .region id ops draw => match draw with
    | false => slimR (slimL N ops.toList ops.toList)
    | true => .draw id ops.toList
  | .seq a b => .seq (slim N a) (slim N b)
  | .cond x a b => .cond x (slim N a) (slim N b)
  | .block id a => .block id (slim N a)
  | .loop a => .loop (slim N a)
  | .exit id => .exit id
  | .ret => .ret
  | _ => .bad

section
variable (P : Program) (cfg : Cfg) (f N : Nat)

/-- A call. -/
def WpCall (g : FuncId) (args : List AV) (H : Hp) (Q : AV → Hp → Prop) : Prop := ∃ v H', Ev P cfg (.call g args H) (.val v H') ∧ Q v H'

def WpOp (op : Op) (E : Env) (H : Hp) (K : AV → Hp → Prop) : Prop := ∃ n v H', operA P cfg (ev P cfg n) f E H op = .val v H' ∧ K v H'

noncomputable def setO (E : Env) : Option Nat → AV → Env
  | some d, v => T.set E d (some v)
  | none, _ => E

/-- A row of operations. -/
def WpL : List SOp → Env → Hp → (Env → Hp → Prop) → Prop
  | [], E, H, Q => Q E H
  | o :: l, E, H, Q => match o.g with
    | none => WpOp P cfg f o.op E H fun v H' => WpL l (setO E o.d v) H' Q
    | some (s, b) => (E.at s = .bool b ∧ WpOp P cfg f o.op E H fun v H' => WpL l (setO E o.d v) H' Q) ∨ ((E.at s = .bool (!b) ∨ E.at s = undefA) ∧ WpL l (setO E o.d undefA) H Q)

def Wp (c : SC) (E : Env) (H : Hp) (Q : AX → Env → Hp → Prop) : Prop := ∀ code, slim N code = c → ∃ x E' H', Ev P cfg (.code f N code E H) (.done x E' H') ∧ Q x E' H'
end

section
variable {P : Program} {cfg : Cfg} {f N : Nat}

theorem WpOp.mono {op : Op} {E : Env} {H : Hp} {K K' : AV → Hp → Prop} (h : ∀ v H', K v H' → K' v H') (hk : WpOp P cfg f op E H K) : WpOp P cfg f op E H K' := by
  obtain ⟨n, v, H', h1, h2⟩ := hk
  exact ⟨n, v, H', h1, h v H' h2⟩

theorem WpL.mono {Q Q' : Env → Hp → Prop} (h : ∀ E H, Q E H → Q' E H) : ∀ {l : List SOp} {E : Env} {H : Hp}, WpL P cfg f l E H Q → WpL P cfg f l E H Q'
  | [], _, _, hq => h _ _ hq
  | o :: l, E, H, hq => by
    unfold WpL at *
    split
    · rename_i hg
      rw [hg] at hq
      exact WpOp.mono (fun v H' => WpL.mono h) hq
    · rename_i s b hg
      rw [hg] at hq
      exact hq.imp (fun ⟨h1, h2⟩ => ⟨h1, WpOp.mono (fun v H' => WpL.mono h) h2⟩) (fun ⟨h1, h2⟩ => ⟨h1, WpL.mono h h2⟩)

theorem Wp.mono {c : SC} {E : Env} {H : Hp} {Q Q' : AX → Env → Hp → Prop} (h : ∀ x E H, Q x E H → Q' x E H) (hw : Wp P cfg f N c E H Q) : Wp P cfg f N c E H Q' := fun code hc => by
  obtain ⟨x, E', H', h1, h2⟩ := hw code hc
  exact ⟨x, E', H', h1, h _ _ _ h2⟩

theorem Wp.skip {E : Env} {H : Hp} {Q : AX → Env → Hp → Prop} (h : Q .normal E H) : Wp P cfg f N .skip E H Q := fun code hc => by
  cases code with
  | skip => exact ⟨_, _, _, Ev.skip, h⟩
  | region id ops draw => cases draw <;> simp only [slim, slimR, reduceCtorEq] at hc; split at hc <;> simp at hc
  | _ => simp [slim] at hc

theorem Wp.ret {E : Env} {H : Hp} {Q : AX → Env → Hp → Prop} (h : Q .ret E H) : Wp P cfg f N .ret E H Q := fun code hc => by
  cases code with
  | ret => exact ⟨_, _, _, Ev.ret, h⟩
  | region id ops draw => cases draw <;> simp only [slim, slimR, reduceCtorEq] at hc; split at hc <;> simp at hc
  | _ => simp [slim] at hc

theorem Wp.exit {id : Nat} {E : Env} {H : Hp} {Q : AX → Env → Hp → Prop} (h : Q (.exit id) E H) : Wp P cfg f N (.exit id) E H Q := fun code hc => by
  cases code with
  | exit id' => simp only [slim, SC.exit.injEq] at hc; subst hc; exact ⟨_, _, _, Ev.exit, h⟩
  | region id ops draw => cases draw <;> simp only [slim, slimR, reduceCtorEq] at hc; split at hc <;> simp at hc
  | _ => simp [slim] at hc

/-- What stands behind a piece. -/
def thenQ (Q : AX → Env → Hp → Prop) (K : Env → Hp → Prop) : AX → Env → Hp → Prop
  | .normal, E, H => K E H
  | .exit id, E, H => Q (.exit id) E H
  | .ret, E, H => Q .ret E H

theorem Wp.seq {a b : SC} {E : Env} {H : Hp} {Q : AX → Env → Hp → Prop} (h : Wp P cfg f N a E H (thenQ Q fun E H => Wp P cfg f N b E H Q)) : Wp P cfg f N (.seq a b) E H Q := fun code hc => by
  cases code with
  | seq p q =>
    simp only [slim, SC.seq.injEq] at hc
    obtain ⟨x, E1, H1, h1, h2⟩ := h p hc.1
    cases x with
    | normal =>
      obtain ⟨x, E2, H2, h3, h4⟩ := h2 q hc.2
      exact ⟨x, E2, H2, Ev.seq h1 h3, h4⟩
    | exit id => exact ⟨_, _, _, Ev.seq_leave h1 (by simp), h2⟩
    | ret => exact ⟨_, _, _, Ev.seq_leave h1 (by simp), h2⟩
  | region id ops draw => cases draw <;> simp only [slim, slimR, reduceCtorEq] at hc; split at hc <;> simp at hc
  | _ => simp [slim] at hc

theorem Wp.cond {x : Operand} {a b : SC} {E : Env} {H : Hp} {Q : AX → Env → Hp → Prop} {t : Bool} (hx : aeval E x = some (.bool t)) (h1 : t = true → Wp P cfg f N a E H Q) (h2 : t = false → Wp P cfg f N b E H Q) :
    Wp P cfg f N (.cond x a b) E H Q := fun code hc => by
  cases code with
  | cond y p q =>
    simp only [slim, SC.cond.injEq] at hc
    obtain ⟨rfl, h3, h4⟩ := hc
    cases t with
    | true =>
      obtain ⟨x, E1, H1, g1, g2⟩ := h1 rfl p h3
      exact ⟨x, E1, H1, Ev.cond_true hx g1, g2⟩
    | false =>
      obtain ⟨x, E1, H1, g1, g2⟩ := h2 rfl q h4
      exact ⟨x, E1, H1, Ev.cond_false hx g1, g2⟩
  | region id ops draw => cases draw <;> simp only [slim, slimR, reduceCtorEq] at hc; split at hc <;> simp at hc
  | _ => simp [slim] at hc

/-- What stands behind a block. -/
def blockQ (id : Nat) (Q : AX → Env → Hp → Prop) : AX → Env → Hp → Prop
  | .normal, E, H => Q .normal E H
  | .exit id', E, H => if id' = id then Q .normal E H else Q (.exit id') E H
  | .ret, E, H => Q .ret E H

theorem Wp.block {id : Nat} {a : SC} {E : Env} {H : Hp} {Q : AX → Env → Hp → Prop} (h : Wp P cfg f N a E H (blockQ id Q)) : Wp P cfg f N (.block id a) E H Q := fun code hc => by
  cases code with
  | block id' p =>
    simp only [slim, SC.block.injEq] at hc
    obtain ⟨rfl, h3⟩ := hc
    obtain ⟨x, E1, H1, g1, g2⟩ := h p h3
    cases x with
    | normal => exact ⟨_, _, _, Ev.block_normal g1, g2⟩
    | ret => exact ⟨_, _, _, Ev.block_ret g1, g2⟩
    | exit k =>
      simp only [blockQ] at g2
      split at g2
      · rename_i e; subst e; exact ⟨_, _, _, Ev.block g1, g2⟩
      · rename_i e
        exact ⟨_, _, _, Ev.block_other (by cases hb : Nat.beq k id' with | true => exact (e (Nat.eq_of_beq_eq_true hb)).elim | false => rfl) g1, g2⟩
  | region id ops draw => cases draw <;> simp only [slim, slimR, reduceCtorEq] at hc; split at hc <;> simp at hc
  | _ => simp [slim] at hc

/-- A loop, by an invariant and a measure. -/
theorem Wp.loop {a : SC} {Q : AX → Env → Hp → Prop} (I : Nat → Env → Hp → Prop) (h : ∀ n E H, I n E H → Wp P cfg f N a E H (thenQ Q fun E H => ∃ m, m < n ∧ I m E H)) {n : Nat} {E : Env} {H : Hp} (h0 : I n E H) : Wp P cfg f N (.loop a) E H Q := by
  induction n using Nat.strongRecOn generalizing E H with
  | _ n ih =>
    intro code hc
    cases code with
    | loop p =>
      simp only [slim, SC.loop.injEq] at hc
      obtain ⟨x, E1, H1, g1, g2⟩ := h n E H h0 p hc
      cases x with
      | normal =>
        obtain ⟨m, hm, hI⟩ := g2
        obtain ⟨x, E2, H2, g3, g4⟩ := ih m hm hI (.loop p) (by simp [slim, hc])
        exact ⟨x, E2, H2, Ev.loop g1 g3, g4⟩
      | exit id => exact ⟨_, _, _, Ev.loop_leave g1 (by simp), g2⟩
      | ret => exact ⟨_, _, _, Ev.loop_leave g1 (by simp), g2⟩
    | region id ops draw => cases draw <;> simp only [slim, slimR, reduceCtorEq] at hc; split at hc <;> simp at hc
    | _ => simp [slim] at hc

/-- A loop that counts up to N. -/
theorem Wp.loopN {a : SC} {Q : AX → Env → Hp → Prop} (I : Nat → Env → Hp → Prop) (N' : Nat) (h : ∀ i E H, i ≤ N' → I i E H → Wp P cfg f N a E H (thenQ Q fun E H => i < N' ∧ I (i + 1) E H)) {E : Env} {H : Hp} (h0 : I 0 E H) : Wp P cfg f N (.loop a) E H Q :=
  Wp.loop (fun n E H => n ≤ N' ∧ I (N' - n) E H) (fun n E H hI => Wp.mono (fun x E' H' hq => by
    cases x with
    | normal =>
      obtain ⟨h1, h2⟩ := hq
      have := hI.1
      refine ⟨n - 1, by omega, by omega, ?_⟩
      rw [show N' - (n - 1) = N' - n + 1 by omega]
      exact h2
    | exit id => exact hq
    | ret => exact hq) (h (N' - n) E H (Nat.sub_le _ _) hI.2)) (n := N') ⟨Nat.le_refl _, by rw [Nat.sub_self]; exact h0⟩

/-! Rows of operations. -/

theorem putA_slim {N : Nat} {dst : Option Tmp} {d : Option Nat} (h : slimD N dst = some d) (E : Env) (v : AV) : putA N E dst v = some (setO E d v) := by
  cases dst with
  | none => simp only [slimD, Option.some.injEq] at h; subst h; rfl
  | some t =>
    simp only [slimD] at h
    split at h
    · rename_i hb
      simp only [Option.some.injEq] at h
      subst h
      simp only [putA, hb, setO]
    · simp at h

theorem wanted_slim {all : List Oper} {E : Env} {o : Oper} {g : Option (Nat × Bool)} (h : slimG all o.guard = some g) :
    (g = none → wantedA all E o = true) ∧ ∀ s b, g = some (s, b) → (E.at s = .bool b → wantedA all E o = true) ∧ (E.at s = .bool (!b) ∨ E.at s = undefA → wantedA all E o = false) := by
  unfold wantedA
  cases hg : o.guard with
  | none =>
    rw [hg] at h
    simp only [slimG, Option.some.injEq] at h
    subst h
    exact ⟨fun _ => rfl, fun s b e => by simp at e⟩
  | some jb =>
    obtain ⟨j, b⟩ := jb
    rw [hg] at h
    simp only [slimG] at h
    split at h
    · rename_i d hd
      simp only [Option.some.injEq] at h
      subst h
      refine ⟨fun e => by simp at e, fun s b' e => ?_⟩
      simp only [Option.some.injEq, Prod.mk.injEq] at e
      obtain ⟨rfl, rfl⟩ := e
      simp only [yieldedA, hd]
      refine ⟨fun e => by rw [e]; simp, fun e => by rcases e with e | e <;> rw [e] <;> simp [undefA]⟩
    · simp at h

theorem WpL.run {all : List Oper} {Q : Env → Hp → Prop} : ∀ {l : List Oper} {r : List SOp} {E : Env} {H : Hp}, slimL N all l = some r → WpL P cfg f r E H Q →
    ∃ n E' H', runOps P cfg (ev P cfg n) f N all l E H = .done .normal E' H' ∧ Q E' H'
  | [], r, E, H, hs, hq => by
    simp only [slimL, Option.some.injEq] at hs
    subst hs
    exact ⟨0, E, H, rfl, hq⟩
  | o :: l, r, E, H, hs, hq => by
    simp only [slimL] at hs
    split at hs
    · rename_i d g r' h1 h2 h3
      simp only [Option.some.injEq] at hs
      subst hs
      obtain ⟨w1, w2⟩ := wanted_slim (E := E) h2
      have hop : ∀ {K : Prop}, WpOp P cfg f o.op E H (fun v H' => WpL P cfg f r' (setO E d v) H' Q) → wantedA all E o = true → ∃ n E' H', runOps P cfg (ev P cfg n) f N all (o :: l) E H = .done .normal E' H' ∧ Q E' H' := fun {K} hw hwant => by
        obtain ⟨n, v, H1, g1, g2⟩ := hw
        obtain ⟨m, E2, H2, g3, g4⟩ := WpL.run h3 g2
        refine ⟨max n m, E2, H2, ?_, g4⟩
        have hle : ∀ k k', k ≤ k' → Le (ev P cfg k) (ev P cfg k') := fun k k' hk t ht => ev_mono hk ht
        rw [runOps_cons, hwant]
        simp only []
        rw [operA_mono (hle n (max n m) (Nat.le_max_left _ _)) (by rw [g1]; simp), g1]
        simp only [putA_slim h1, afterPut]
        rw [runOps_mono (hle m (max n m) (Nat.le_max_right _ _)) (by rw [g3]; simp), g3]
      unfold WpL at hq
      cases hg : g with
      | none =>
        rw [hg] at hq
        exact hop (K := True) hq (w1 hg)
      | some sb =>
        obtain ⟨s, b⟩ := sb
        rw [hg] at hq
        simp only [] at hq
        rcases hq with ⟨e, hq⟩ | ⟨e, hq⟩
        · exact hop (K := True) hq ((w2 s b hg).1 e)
        · obtain ⟨m, E2, H2, g3, g4⟩ := WpL.run h3 hq
          refine ⟨m, E2, H2, ?_, g4⟩
          rw [runOps_cons, (w2 s b hg).2 e]
          simp only [putA_slim h1, afterPut]
          exact g3
    · simp at hs

theorem Wp.ops {l : List SOp} {E : Env} {H : Hp} {Q : AX → Env → Hp → Prop} (h : WpL P cfg f l E H (Q .normal)) : Wp P cfg f N (.ops l) E H Q := fun code hc => by
  cases code with
  | region id ops draw =>
    cases draw with
    | true => simp [slim] at hc
    | false =>
      simp only [slim, slimR] at hc
      split at hc
      · rename_i r hr
        simp only [SC.ops.injEq] at hc
        subst hc
        obtain ⟨n, E', H', h1, h2⟩ := WpL.run hr h
        exact ⟨_, _, _, Ev.region h1 (by simp), h2⟩
      · simp at hc
  | _ => simp [slim] at hc

/-- A row, and what stands behind it. -/
theorem Wp.ops_seq {l : List SOp} {b : SC} {E : Env} {H : Hp} {Q : AX → Env → Hp → Prop} (h : ∀ K : Env → Hp → Prop, (∀ E' H', Wp P cfg f N b E' H' Q → K E' H') → WpL P cfg f l E H K) : Wp P cfg f N (.seq (.ops l) b) E H Q :=
  Wp.seq (Wp.ops (h _ fun _ _ h => h))

theorem Wp.ops' {l : List SOp} {E : Env} {H : Hp} {Q : AX → Env → Hp → Prop} (h : ∀ K : Env → Hp → Prop, (∀ E' H', Q .normal E' H' → K E' H') → WpL P cfg f l E H K) : Wp P cfg f N (.ops l) E H Q :=
  Wp.ops (h _ fun _ _ h => h)

theorem WpL.nil {E : Env} {H : Hp} {Q : Env → Hp → Prop} (h : Q E H) : WpL P cfg f [] E H Q := h

theorem WpOp.plain {op : Op} {E : Env} {H H' : Hp} {v : AV} {K : AV → Hp → Prop} (h : opA P cfg.dec E H op = some (v, H')) (hn : ∀ c, op ≠ .call c) (hk : K v H') : WpOp P cfg f op E H K :=
  ⟨0, v, H', (operA_opA hn).2 h, hk⟩

def notCall : Op → Bool
  | .call _ => false
  | _ => true

theorem notCall_ne {op : Op} (h : notCall op = true) : ∀ c, op ≠ .call c := fun c e => by subst e; simp [notCall] at h

/-- An operation that is no call. -/
theorem WpL.op {d : Nat} {op : Op} {l : List SOp} {E : Env} {H H' : Hp} {v : AV} {Q : Env → Hp → Prop} (hn : notCall op = true) (h : opA P cfg.dec E H op = some (v, H')) (hk : WpL P cfg f l (T.set E d (some v)) H' Q) : WpL P cfg f (⟨some d, op, none⟩ :: l) E H Q :=
  WpOp.plain h (notCall_ne hn) hk
theorem WpL.op0 {op : Op} {l : List SOp} {E : Env} {H H' : Hp} {v : AV} {Q : Env → Hp → Prop} (hn : notCall op = true) (h : opA P cfg.dec E H op = some (v, H')) (hk : WpL P cfg f l E H' Q) : WpL P cfg f (⟨none, op, none⟩ :: l) E H Q :=
  WpOp.plain h (notCall_ne hn) hk

/-- A guarded operation. -/
theorem WpL.guard {d : Option Nat} {op : Op} {s : Nat} {b t : Bool} {l : List SOp} {E : Env} {H : Hp} {Q : Env → Hp → Prop} (h : E.at s = .bool t) (h1 : t = b → WpL P cfg f (⟨d, op, none⟩ :: l) E H Q) (h2 : t = !b → WpL P cfg f l (setO E d undefA) H Q) :
    WpL P cfg f (⟨d, op, some (s, b)⟩ :: l) E H Q := by
  unfold WpL
  by_cases e : t = b
  · exact .inl ⟨by rw [h, e], h1 e⟩
  · have : t = !b := by cases t <;> cases b <;> simp_all
    exact .inr ⟨.inl (by rw [h, this]), h2 this⟩

theorem WpL.guardU {d : Option Nat} {op : Op} {s : Nat} {b : Bool} {l : List SOp} {E : Env} {H : Hp} {Q : Env → Hp → Prop} {v : AV} (h : some (E.at s) = some v) (hv : v = undefA) (h2 : WpL P cfg f l (setO E d undefA) H Q) :
    WpL P cfg f (⟨d, op, some (s, b)⟩ :: l) E H Q := by
  subst hv
  unfold WpL
  exact .inr ⟨.inr (by simpa using h), h2⟩

/-- A call of a Go function. -/
theorem WpL.call {d : Option Nat} {c : Call} {g : Operand} {k : FuncId} {cap vs : List AV} {l : List SOp} {E : Env} {H : Hp} {Q : Env → Hp → Prop} (hc : c.callee = .value g) (hg : aeval E g = some (.clo k cap)) (hv : aevals E c.args.toList = some vs)
    (h : WpCall P cfg k (vs ++ cap) H fun v H' => WpL P cfg f l (setO E d v) H' Q) : WpL P cfg f (⟨d, .call c, none⟩ :: l) E H Q := by
  obtain ⟨v, H', ⟨_, n, h1⟩, h2⟩ := h
  refine ⟨n, v, H', ?_, h2⟩
  simp only [operA, callA, hc, hg, hv]
  exact h1

/-- A call of a builtin. -/
theorem WpL.builtin {d : Option Nat} {c : Call} {b : Builtin} {vs : List AV} {v : AV} {l : List SOp} {E : Env} {H H' : Hp} {Q : Env → Hp → Prop} (hc : c.callee = .builtin b) (hv : aevals E c.args.toList = some vs)
    (h : builtinA P (cfg.keep f) H b c.argTypes.toList vs = some (v, H')) (hk : WpL P cfg f l (setO E d v) H' Q) : WpL P cfg f (⟨d, .call c, none⟩ :: l) E H Q := by
  refine ⟨0, v, H', ?_, hk⟩
  simp only [operA, callA, hc, hv, h]

theorem WpCall.known {g : FuncId} {args : List AV} {r : AV} {H : Hp} {Q : AV → Hp → Prop} (h : cfg.call g args = some r) (hq : Q r H) : WpCall P cfg g args H Q :=
  ⟨r, H, Ev.step (by simp) (n := 0) (by simp only [step, h]), hq⟩

theorem WpCall.iced {g : FuncId} {args as : List AV} {r : AV} {H H' : Hp} {Q : AV → Hp → Prop} (h0 : cfg.call g args = none) (hi : cfg.ice g = true) (hz : cfg.froz g = false) (ha : iceHL (iceH 100) args H = some (as, H')) (h : cfg.call g as = some r) (hq : Q r H') : WpCall P cfg g args H Q :=
  ⟨r, H', Ev.step (by simp) (n := 0) (by simp only [step, h0, stepAny, hi, hz, freeze, stepIced, ha, h]), hq⟩

theorem WpCall.mono {g : FuncId} {args : List AV} {H : Hp} {Q Q' : AV → Hp → Prop} (h : ∀ v H', Q v H' → Q' v H') (hw : WpCall P cfg g args H Q) : WpCall P cfg g args H Q' := by
  obtain ⟨v, H', h1, h2⟩ := hw
  exact ⟨v, H', h1, h _ _ h2⟩

/-- A body. -/
theorem WpCall.body {g : FuncId} {args : List AV} {H : Hp} {fn : Func} {c : Code} {Q : AV → Hp → Prop} (hk : cfg.call g args = none) (hi : cfg.ice g = false) (hz : cfg.froz g = false) (hf : P.funcs[g]? = some fn) (hb : fn.body = some c)
    (h : Wp P cfg g (max fn.ntmps args.length) (slim (max fn.ntmps args.length) c) (envOf 0 args (fullE (max fn.ntmps args.length))) H (fun x E' H' => (x = .normal ∨ x = .ret) ∧ ∃ vs, resultsA P E' H' fn.results.toList = some vs ∧ Q (oneOr vs) H')) : WpCall P cfg g args H Q := by
  obtain ⟨x, E', H', h1, hx, vs, h2, h3⟩ := h c rfl
  exact ⟨oneOr vs, H', Ev.call hk hi hz hf hb h1 hx (by unfold retA; rw [h2]), h3⟩

/-- The same, the code in its slim form. -/
theorem WpCall.slim {g : FuncId} {args : List AV} {H : Hp} {fn : Func} {c : Code} {s : SC} {M : Nat} {rs : List ResultVar} {Q : AV → Hp → Prop} (hk : cfg.call g args = none) (hi : cfg.ice g = false) (hz : cfg.froz g = false) (hf : P.funcs[g]? = some fn) (hb : fn.body = some c) (hM : max fn.ntmps args.length = M)
    (hs : slim M c = s) (hr : fn.results.toList = rs) (h : Wp P cfg g M s (envOf 0 args (fullE M)) H (fun x E' H' => (x = .normal ∨ x = .ret) ∧ ∃ vs, resultsA P E' H' rs = some vs ∧ Q (oneOr vs) H')) : WpCall P cfg g args H Q := by
  subst hM hs hr
  exact WpCall.body hk hi hz hf hb h

theorem Con.of_wp (fit : Fit P) {ρ : Nat → Int} (hD : DecOk cfg.dec ρ) (hc : ∀ f args r, cfg.call f args = some r → Con P ρ f args r) {g : FuncId} {args : List AV} {r : AV} {k m : Nat}
    (hp : pureArgs k args = true) (h : WpCall P cfg g args H0 fun v H' => iceV H' m v = some r) : Con P ρ g args r := by
  obtain ⟨v, H', ⟨_, n, h1⟩, h2⟩ := h
  exact Con.of_ev fit hD hc (n := n) (m := m) hp (by unfold boxed; rw [h1]; exact h2)

/-! One rule for each operation. -/
section
variable {l : List SOp} {E : Env} {H H' : Hp} {Q : Env → Hp → Prop} {d : Nat} {v a b : AV} {x y : Operand} {t u : TypeId}
theorem WpL.move (h : aeval E x = some v) (hk : WpL P cfg f l (T.set E d (some v)) H Q) : WpL P cfg f (⟨some d, .move x, none⟩ :: l) E H Q := WpL.op rfl (by simp only [opA, Go.Ab.ret, h]) hk
theorem WpL.assign (h : aeval E x = some v) (hk : WpL P cfg f l (T.set E d (some v)) H Q) : WpL P cfg f (⟨some d, .assign x, none⟩ :: l) E H Q := WpL.op rfl (by simp only [opA, Go.Ab.ret, h]) hk
theorem WpL.pick {z : Operand} {t : Bool} (h : aeval E x = some (.bool t)) (h1 : aeval E y = some a) (h2 : aeval E z = some b) (hk : WpL P cfg f l (T.set E d (some (bsel t a b))) H Q) : WpL P cfg f (⟨some d, .pick x y z, none⟩ :: l) E H Q :=
  WpL.op rfl (by cases t <;> simp only [opA, opPick, Go.Ab.ret, h, h1, h2] <;> rfl) hk
theorem WpL.load (h : aeval E x = some a) (h1 : aload P H t a = some v) (hk : WpL P cfg f l (T.set E d (some v)) H Q) : WpL P cfg f (⟨some d, .load t x, none⟩ :: l) E H Q := WpL.op rfl (by simp only [opA, opLoad, Go.Ab.ret, h, h1]) hk
theorem WpL.store (h : aeval E x = some a) (h1 : aeval E y = some b) (h2 : astore P H t a b = some H') (hk : WpL P cfg f l E H' Q) : WpL P cfg f (⟨none, .store t x y, none⟩ :: l) E H Q := WpL.op0 rfl (by simp only [opA, opStore, Go.Ab.ret, h, h1, h2]; rfl) hk
theorem WpL.nilCheck {r o : Nat} (h : aeval E x = some (.ptr r o)) (hk : WpL P cfg f l (T.set E d (some (.ptr r o))) H Q) : WpL P cfg f (⟨some d, .nilCheck x, none⟩ :: l) E H Q := WpL.op rfl (by simp only [opA, opNilCheck, h]) hk
theorem WpL.bin {op : BinOp} (h : aeval E x = some a) (h1 : aeval E y = some b) (h2 : binA P cfg.dec op t a b = some v) (hk : WpL P cfg f l (T.set E d (some v)) H Q) : WpL P cfg f (⟨some d, .binOp op t x y u, none⟩ :: l) E H Q :=
  WpL.op rfl (by simp only [opA, opBin, Go.Ab.ret, h, h1, h2]) hk
theorem WpL.un {op : UnOp} (h : aeval E x = some a) (h2 : unA op a = some v) (hk : WpL P cfg f l (T.set E d (some v)) H Q) : WpL P cfg f (⟨some d, .unOp op t x, none⟩ :: l) E H Q := WpL.op rfl (by simp only [opA, opUn, Go.Ab.ret, h, h2]) hk
theorem WpL.convert (h : aeval E x = some a) (h2 : convertA P H t u a = some v) (hk : WpL P cfg f l (T.set E d (some v)) H Q) : WpL P cfg f (⟨some d, .convert t u x, none⟩ :: l) E H Q := WpL.op rfl (by simp only [opA, opConvert, Go.Ab.ret, h, h2]) hk
theorem WpL.fieldAddr {i : Nat} (h : aeval E x = some a) (h2 : fieldAddrA P t a i = some v) (hk : WpL P cfg f l (T.set E d (some v)) H Q) : WpL P cfg f (⟨some d, .fieldAddr t x i, none⟩ :: l) E H Q := WpL.op rfl (by simp only [opA, opFieldAddr, Go.Ab.ret, h, h2]) hk
theorem WpL.field {i : Nat} (h : aeval E x = some a) (h2 : fieldA P t a i = some v) (hk : WpL P cfg f l (T.set E d (some v)) H Q) : WpL P cfg f (⟨some d, .field t x i, none⟩ :: l) E H Q := WpL.op rfl (by simp only [opA, opField, Go.Ab.ret, h, h2]) hk
theorem WpL.indexAddr (h : aeval E x = some a) (h1 : aeval E y = some b) (h2 : indexAddrA P t a b = some v) (hk : WpL P cfg f l (T.set E d (some v)) H Q) : WpL P cfg f (⟨some d, .indexAddr t x y, none⟩ :: l) E H Q := WpL.op rfl (by simp only [opA, opIndexAddr, Go.Ab.ret, h, h1, h2]) hk
theorem WpL.index (h : aeval E x = some a) (h1 : aeval E y = some b) (h2 : indexA P t a b = some v) (hk : WpL P cfg f l (T.set E d (some v)) H Q) : WpL P cfg f (⟨some d, .index t x y, none⟩ :: l) E H Q := WpL.op rfl (by simp only [opA, opIndex, Go.Ab.ret, h, h1, h2]) hk
theorem WpL.extract {i : Nat} (h : aeval E x = some a) (h2 : Ab.extract a i = some v) (hk : WpL P cfg f l (T.set E d (some v)) H Q) : WpL P cfg f (⟨some d, .extract x i, none⟩ :: l) E H Q := WpL.op rfl (by simp only [opA, opExtract, Go.Ab.ret, h, h2]) hk
theorem WpL.alloc {z : List AV} {n : Nat} (h : zeroA P t = some z) (hn : some H.next = some n) (hk : WpL P cfg f l (T.set E d (some (.ptr n 0))) (H.alloc (.cells z 0 true)) Q) : WpL P cfg f (⟨some d, .alloc t, none⟩ :: l) E H Q := by
  simp only [Option.some.injEq] at hn
  subst hn
  exact WpL.op rfl (by simp only [opA, opAlloc, h]) hk
theorem WpL.box {cs : List AV} {n : Nat} (h : aeval E x = some a) (hc : some a.cells = some cs) (hn : some H.next = some n) (hk : WpL P cfg f l (T.set E d (some (.ptr n 0))) (H.alloc (.cells cs 0 true)) Q) : WpL P cfg f (⟨some d, .box t x, none⟩ :: l) E H Q := by
  simp only [Option.some.injEq] at hc hn
  subst hc hn
  exact WpL.op rfl (by simp only [opA, opBox, h]) hk
theorem WpL.build {parts : Array (Nat × Operand)} {ps : List (Nat × AV)} (h : partsA E parts.toList = some ps) (h2 : buildA P t ps = some v) (hk : WpL P cfg f l (T.set E d (some v)) H Q) : WpL P cfg f (⟨some d, .build t parts, none⟩ :: l) E H Q := WpL.op rfl (by simp only [opA, opBuild, Go.Ab.ret, h, h2]) hk
theorem WpL.buildSlice {n : Nat} {parts : Array (Nat × Operand)} {ps : List (Nat × AV)} (h : partsA E parts.toList = some ps) (h2 : buildSliceA P H t n ps = some (v, H')) (hk : WpL P cfg f l (T.set E d (some v)) H' Q) : WpL P cfg f (⟨some d, .buildSlice t n parts, none⟩ :: l) E H Q :=
  WpL.op rfl (by simp only [opA, opBuildSlice, h, h2]) hk
theorem WpL.makeMap {n : Nat} (hn : some H.next = some n) (hk : WpL P cfg f l (T.set E d (some (.map n))) (H.alloc (.map [])) Q) : WpL P cfg f (⟨some d, .makeMap t none, none⟩ :: l) E H Q := by
  simp only [Option.some.injEq] at hn
  subst hn
  exact WpL.op rfl (by simp only [opA, opMakeMap]) hk
theorem WpL.lookup {ok : Bool} (h : aeval E x = some a) (h1 : aeval E y = some b) (h2 : lookupA P H t a b ok = some v) (hk : WpL P cfg f l (T.set E d (some v)) H Q) : WpL P cfg f (⟨some d, .lookup t x y ok, none⟩ :: l) E H Q := WpL.op rfl (by simp only [opA, opLookup, Go.Ab.ret, h, h1, h2]) hk
theorem WpL.mapUpdate {z : Operand} {c : AV} (h : aeval E x = some a) (h1 : aeval E y = some b) (h2 : aeval E z = some c) (h3 : mapUpdateA P H t a b c = some H') (hk : WpL P cfg f l E H' Q) : WpL P cfg f (⟨none, .mapUpdate t x y z, none⟩ :: l) E H Q :=
  WpL.op0 rfl (by simp only [opA, opMapUpdate, Go.Ab.ret, h, h1, h2, h3]; rfl) hk
theorem WpL.makeFunc {g : FuncId} {cap : Array Operand} {vs : List AV} (h : aevals E cap.toList = some vs) (hk : WpL P cfg f l (T.set E d (some (.clo g vs))) H Q) : WpL P cfg f (⟨some d, .makeFunc (.func g) #[] cap, none⟩ :: l) E H Q := WpL.op rfl (by simp only [opA, opMakeFunc, h]) hk
theorem WpL.slice {lo hi : Option Operand} {lv hv : Option AV} (h : aeval E x = some a) (h1 : aevalO E lo = some lv) (h2 : aevalO E hi = some hv) (h3 : sliceHA P H t a lv hv = some v) (hk : WpL P cfg f l (T.set E d (some v)) H Q) : WpL P cfg f (⟨some d, .slice t x lo hi none, none⟩ :: l) E H Q :=
  WpL.op rfl (by simp only [opA, opSlice, Go.Ab.ret, h, h1, h2, h3]) hk
theorem WpL.makeSlice (h : aeval E x = some a) (h1 : aeval E y = some b) (h2 : makeSliceA P H t a b = some (v, H')) (hk : WpL P cfg f l (T.set E d (some v)) H' Q) : WpL P cfg f (⟨some d, .makeSlice t x y, none⟩ :: l) E H Q := WpL.op rfl (by simp only [opA, opMakeSlice, h, h1, h2]) hk
theorem WpL.len {c : AV} (h : aeval E x = some a) (h1 : lenAt P H t a = some c) (hk : WpL P cfg f l (T.set E d (some c)) H Q) : WpL P cfg f (⟨some d, .call ⟨.builtin .len, #[x], #[t]⟩, none⟩ :: l) E H Q :=
  WpL.builtin (c := ⟨.builtin .len, #[x], #[t]⟩) rfl (vs := [a]) (by simp only [aevals, h]) (by simp only [builtinA, h1]) hk
theorem WpL.append (h : aeval E x = some a) (h1 : aeval E y = some b) (h2 : appendA P (cfg.keep f) H t u a b = some (v, H')) (hk : WpL P cfg f l (T.set E d (some v)) H' Q) : WpL P cfg f (⟨some d, .call ⟨.builtin .append, #[x, y], #[t, u]⟩, none⟩ :: l) E H Q :=
  WpL.builtin (c := ⟨.builtin .append, #[x, y], #[t, u]⟩) rfl (vs := [a, b]) (by simp only [aevals, h, h1]) (by simp only [builtinA, h2]) hk
end

/-! Operands. -/
theorem at_set (E : Env) (d t : Nat) (v : AV) : Env.at (T.set E d (some v)) t = bif t == d then v else E.at t := by
  rw [Env.at_set]
  by_cases h : t = d
  · simp [h]
  · have : (t == d) = false := by simpa using h
    rw [if_neg h, this, cond_false]
theorem get_set (H : Hp) (d t : Nat) (b : HB) : (H.set d b).get t = bif t == d then some b else H.get t := by
  rw [Hp.get_set]
  by_cases h : t = d
  · simp [h]
  · have : (t == d) = false := by simpa using h
    rw [if_neg h, this, cond_false]
theorem aeval_t (E : Env) (t : Nat) : aeval E (.tmp t) = some (E.at t) := rfl
theorem aeval_i (E : Env) (k : IntKind) (n : Int) : aeval E (.const (.int k n)) = some (.int k n) := rfl
theorem aeval_b (E : Env) (b : Bool) : aeval E (.const (.bool b)) = some (.bool b) := rfl
theorem aeval_f (E : Env) (g : FuncId) : aeval E (.func g) = some (.clo g []) := rfl
theorem aeval_s (E : Env) (s : ByteArray) : aeval E (.const (.string s)) = some (.str s.data.toList) := rfl
theorem aevals_n (E : Env) : aevals E [] = some [] := rfl
theorem aevals_c {E : Env} {x : Operand} {xs : List Operand} {v : AV} {vs : List AV} (h : aeval E x = some v) (hs : aevals E xs = some vs) : aevals E (x :: xs) = some (v :: vs) := by simp only [aevals, h, hs]

/-! Numbers, strings, Bools. -/
section
variable {D : BinOp → Sx → Sx → Option Bool} {t : TypeId} {k : IntKind} {a b : Int} {s u : List UInt8}
theorem bin_add : binA P D .add t (.int k a) (.int k b) = some (.int k (k.wrap (a + b))) := by simp [binA, intsA, intOpA]
theorem bin_sub : binA P D .sub t (.int k a) (.int k b) = some (.int k (k.wrap (a - b))) := by simp [binA, intsA, intOpA]
theorem bin_mul : binA P D .mul t (.int k a) (.int k b) = some (.int k (k.wrap (a * b))) := by simp [binA, intsA, intOpA]
theorem bin_quo (h : b ≠ 0) : binA P D .quo t (.int k a) (.int k b) = some (.int k (k.wrap (a.tdiv b))) := by simp [binA, intsA, intOpA, h]
theorem bin_rem (h : b ≠ 0) : binA P D .rem t (.int k a) (.int k b) = some (.int k (a.tmod b)) := by simp [binA, intsA, intOpA, h]
theorem bin_and : binA P D .and t (.int k a) (.int k b) = some (.int k (k.wrap (BitVec.ofInt k.bits a &&& BitVec.ofInt k.bits b).toNat)) := by simp [binA, intsA, intOpA]
theorem bin_or : binA P D .or t (.int k a) (.int k b) = some (.int k (k.wrap (BitVec.ofInt k.bits a ||| BitVec.ofInt k.bits b).toNat)) := by simp [binA, intsA, intOpA]
theorem bin_xor : binA P D .xor t (.int k a) (.int k b) = some (.int k (k.wrap (BitVec.ofInt k.bits a ^^^ BitVec.ofInt k.bits b).toNat)) := by simp [binA, intsA, intOpA]
theorem bin_eql : binA P D .eql t (.int k a) (.int k b) = some (.bool (decide (a = b))) := by simp [binA, intsA, intOpA]; rfl
theorem bin_neq : binA P D .neq t (.int k a) (.int k b) = some (.bool (!decide (a = b))) := by simp [binA, intsA, intOpA]; rfl
theorem bin_lss : binA P D .lss t (.int k a) (.int k b) = some (.bool (decide (a < b))) := by simp [binA, intsA, intOpA]
theorem bin_leq : binA P D .leq t (.int k a) (.int k b) = some (.bool (decide (a ≤ b))) := by simp [binA, intsA, intOpA]
theorem bin_gtr : binA P D .gtr t (.int k a) (.int k b) = some (.bool (decide (b < a))) := by simp [binA, intsA, intOpA]
theorem bin_geq : binA P D .geq t (.int k a) (.int k b) = some (.bool (decide (b ≤ a))) := by simp [binA, intsA, intOpA]
theorem bin_seq : binA P D .eql t (.str s) (.str u) = some (.bool (decide (s = u))) := by
  simp only [binA, strOpA]
  by_cases h : s = u <;> simp [h]
theorem bin_sne : binA P D .neq t (.str s) (.str u) = some (.bool (!decide (s = u))) := by
  simp only [binA, strOpA]
  by_cases h : s = u <;> simp [h]
theorem bin_sadd (h : s.length + u.length ≤ maxRoom) : binA P D .add t (.str s) (.str u) = some (.str (s ++ u)) := by simp [binA, strOpA, h]
theorem bin_beq {x y : Bool} (h : P.underlying t = some .bool) : binA P D .eql t (.bool x) (.bool y) = some (.bool (x == y)) := by simp [binA, othersA, eqAnyA, eqA, h]
theorem bin_bne {x y : Bool} (h : P.underlying t = some .bool) : binA P D .neq t (.bool x) (.bool y) = some (.bool (!(x == y))) := by simp [binA, othersA, eqAnyA, eqA, h]
theorem un_not {x : Bool} : unA .not (.bool x) = some (.bool !x) := rfl
theorem un_neg : unA .neg (.int k a) = some (.int k (k.wrap (0 - a))) := rfl
end

theorem wrap_succ {i : Nat} (h : i < 2 ^ 62) : IntKind.wrap .i64 ((i : Int) + 1) = ((i + 1 : Nat) : Int) := by
  rw [IntWalk.i64_in _ (by omega)]; rfl

/-! Types. -/
theorem lenAt_lst {H : Hp} {t e : TypeId} (h : P.underlying t = some (.slice e)) (xs : List (List AV)) : lenAt P H t (.lst xs) = some (.int .i64 xs.length) := by unfold lenAt; rw [h]
theorem lenAt_sl {H : Hp} {t e : TypeId} (h : P.underlying t = some (.slice e)) (r o n z : Nat) : lenAt P H t (.sl r o n z) = some (.int .i64 n) := by unfold lenAt; rw [h]
theorem lenAt_nil {H : Hp} {t e : TypeId} (h : P.underlying t = some (.slice e)) : lenAt P H t .nilS = some (.int .i64 0) := by unfold lenAt; rw [h]
theorem lenAt_str {H : Hp} {t : TypeId} (h : P.underlying t = some .string) (s : List UInt8) : lenAt P H t (.str s) = some (.int .i64 s.length) := by unfold lenAt; rw [h]
theorem index_lst {t e : TypeId} {s : Nat} (h : P.underlying t = some (.slice e)) (hs : sizeA P e = some s) {xs : List (List AV)} {i : Nat} {row : List AV} (hr : xs[i]? = some row) (hz : row.length = s) : indexAddrA P t (.lst xs) (.int .i64 (i : Int)) = some (.iptr row) := by
  show indexAddrA P t (.lst xs) (.int .i64 (Int.ofNat i)) = _
  simp only [indexAddrA, h, hs, hr, hz, if_true]
theorem index_sl {t e : TypeId} {s : Nat} (h : P.underlying t = some (.slice e)) (hs : sizeA P e = some s) {r o n z i : Nat} (hi : i < n) : indexAddrA P t (.sl r o n z) (.int .i64 (i : Int)) = some (.ptr r (o + i * s)) := by
  show indexAddrA P t (.sl r o n z) (.int .i64 (Int.ofNat i)) = _
  simp only [indexAddrA, h, hs, hi, if_true]
def scalarD : TypeDesc → Bool
  | .struct _ | .array _ _ => false
  | _ => true
theorem part_one {t : TypeId} {d : TypeDesc} (h : P.underlying t = some d) (hd : scalarD d = true) (cs : List AV) (o : Nat) : partA P t cs o = cs[o]? := by
  unfold partA
  rw [h]
  cases d <;> simp_all [scalarD]
theorem load_one {H : Hp} {t : TypeId} {d : TypeDesc} (h : P.underlying t = some d) (hd : scalarD d = true) {r o : Nat} {cs : List AV} {imm : Nat} {tip : Bool} (hg : H.get r = some (.cells cs imm tip)) : aload P H t (.ptr r o) = cs[o]? := by
  simp only [aload, hg, part_one h hd]
theorem load_icy {H : Hp} {t : TypeId} {d : TypeDesc} (h : P.underlying t = some d) (hd : scalarD d = true) (cs : List AV) : aload P H t (.iptr cs) = cs[0]? := by
  simp only [aload, part_one h hd]

/-- A row of a slice whose elements have z cells. -/
def rowA (z : Nat) : Option (List AV) → Option AV
  | some row => if row.length = z then some (.iptr row) else none
  | none => none
theorem rowA_some (z : Nat) (row : List AV) : rowA z (some row) = if row.length = z then some (.iptr row) else none := rfl
def byteA : Option UInt8 → Option AV
  | some b => some (.int .u8 b.toNat)
  | none => none
theorem byteA_some (b : UInt8) : byteA (some b) = some (.int .u8 b.toNat) := rfl
/-- The first s cells as one value. -/
def aggA (s : Nat) (cs : List AV) : Option AV := if (cs.take s).length = s then some (.agg (cs.take s)) else none
theorem aggA_eq (s : Nat) (cs : List AV) : aggA s cs = if (cs.take s).length = s then some (.agg (cs.take s)) else none := rfl
theorem part_agg {t : TypeId} {d : TypeDesc} {s : Nat} (h : P.underlying t = some d) (hd : scalarD d = false) (hs : sizeA P t = some s) (cs : List AV) (o : Nat) : partA P t cs o = aggA s (cs.drop o) := by
  unfold partA aggA
  rw [h]
  cases d <;> simp_all [scalarD]
theorem index_lst' {t e : TypeId} {s : Nat} (h : P.underlying t = some (.slice e)) (hs : sizeA P e = some s) (xs : List (List AV)) {n : Int} (hn : 0 ≤ n) (k : IntKind) : indexAddrA P t (.lst xs) (.int k n) = rowA s (xs[n.toNat]?) := by
  obtain ⟨m, rfl⟩ := Int.eq_ofNat_of_zero_le hn
  show indexAddrA P t (.lst xs) (.int k (Int.ofNat m)) = rowA s (xs[m]?)
  simp only [indexAddrA, h, hs]
  cases xs[m]? <;> rfl
theorem index_sl' {t e : TypeId} {s : Nat} (h : P.underlying t = some (.slice e)) (hs : sizeA P e = some s) (r o l z : Nat) {n : Int} (hn : 0 ≤ n) (k : IntKind) : indexAddrA P t (.sl r o l z) (.int k n) = bif decide (n.toNat < l) then some (.ptr r (o + n.toNat * s)) else none := by
  obtain ⟨m, rfl⟩ := Int.eq_ofNat_of_zero_le hn
  show indexAddrA P t (.sl r o l z) (.int k (Int.ofNat m)) = bif decide (m < l) then some (.ptr r (o + m * s)) else none
  simp only [indexAddrA, h, hs]
  by_cases hm : m < l <;> simp [hm]
theorem index_str {t : TypeId} (h : P.underlying t = some .string) (s : List UInt8) {n : Int} (hn : 0 ≤ n) (k : IntKind) : indexA P t (.str s) (.int k n) = byteA (s[n.toNat]?) := by
  obtain ⟨m, rfl⟩ := Int.eq_ofNat_of_zero_le hn
  show indexA P t (.str s) (.int k (Int.ofNat m)) = byteA (s[m]?)
  simp only [indexA, h]
  cases s[m]? <;> rfl
/-- A load from a block. -/
def loadC (P : Program) (t : TypeId) (o : Nat) : Option HB → Option AV
  | some (.cells cs _ _) => partA P t cs o
  | _ => none
theorem loadC_cells (t : TypeId) (o : Nat) (cs : List AV) (imm : Nat) (tip : Bool) : loadC P t o (some (.cells cs imm tip)) = partA P t cs o := rfl
theorem aload_p (H : Hp) (t : TypeId) (r o : Nat) : aload P H t (.ptr r o) = loadC P t o (H.get r) := rfl
theorem aload_c (H : Hp) (t : TypeId) (cs : List AV) : aload P H t (.iptr cs) = partA P t cs 0 := rfl
theorem get_alloc (H : Hp) (b : HB) (t : Nat) : (H.alloc b).get t = bif t == H.next then some b else H.get t := by
  rw [Hp.get_alloc]
  by_cases h : t = H.next
  · simp [h]
  · have : (t == H.next) = false := by simpa using h
    rw [if_neg h, this, cond_false]

/-- A store into a block. -/
noncomputable def storeC (H : Hp) (r o : Nat) (vc : List AV) : Option Nat → Option HB → Option Hp
  | some s, some (.cells cs imm tip) => if vc.length = s ∧ imm ≤ o ∧ o + s ≤ cs.length ∧ vc.all AV.one = true then some (H.set r (.cells (splice cs o vc) imm tip)) else none
  | _, _ => none
theorem storeC_cells (H : Hp) (r o : Nat) (vc : List AV) (s : Nat) (cs : List AV) (imm : Nat) (tip : Bool) : storeC H r o vc (some s) (some (.cells cs imm tip)) = if vc.length = s ∧ imm ≤ o ∧ o + s ≤ cs.length ∧ vc.all AV.one = true then some (H.set r (.cells (splice cs o vc) imm tip)) else none := rfl
theorem astore_p (H : Hp) (t : TypeId) (r o : Nat) (v : AV) : astore P H t (.ptr r o) v = storeC H r o v.cells (sizeA P t) (H.get r) := by
  unfold astore
  simp only []
  cases h1 : H.get r with
  | none => cases sizeA P t <;> rfl
  | some b => cases b with
    | map es => cases sizeA P t <;> rfl
    | cells cs imm tip => cases sizeA P t with
      | none => rfl
      | some s => rfl
theorem splice_eq (cs : List AV) (o : Nat) (new : List AV) : splice cs o new = cs.take o ++ new ++ cs.drop (o + new.length) := rfl
theorem cells_agg (cs : List AV) : AV.cells (.agg cs) = cs := rfl
theorem cells_int (k : IntKind) (n : Int) : AV.cells (.int k n) = [.int k n] := rfl
theorem cells_bool (b : Bool) : AV.cells (.bool b) = [.bool b] := rfl
theorem cells_str (b : List UInt8) : AV.cells (.str b) = [.str b] := rfl
theorem cells_lst (b : List (List AV)) : AV.cells (.lst b) = [.lst b] := rfl
theorem cells_sl (r o l z : Nat) : AV.cells (.sl r o l z) = [.sl r o l z] := rfl
theorem cells_nilS : AV.cells .nilS = [.nilS] := rfl
theorem cells_ptr (r o : Nat) : AV.cells (.ptr r o) = [.ptr r o] := rfl
theorem cells_map (r : Nat) : AV.cells (.map r) = [.map r] := rfl
theorem cells_clo (g : Nat) (cap : List AV) : AV.cells (.clo g cap) = [.clo g cap] := rfl
theorem one_int (k : IntKind) (n : Int) : AV.one (.int k n) = true := rfl
theorem one_bool (b : Bool) : AV.one (.bool b) = true := rfl
theorem one_str (b : List UInt8) : AV.one (.str b) = true := rfl
theorem one_lst (b : List (List AV)) : AV.one (.lst b) = true := rfl
theorem one_sl (r o l z : Nat) : AV.one (.sl r o l z) = true := rfl
theorem one_nilS : AV.one .nilS = true := rfl
theorem one_ptr (r o : Nat) : AV.one (.ptr r o) = true := rfl
theorem one_map (r : Nat) : AV.one (.map r) = true := rfl
theorem one_clo (g : Nat) (cap : List AV) : AV.one (.clo g cap) = true := rfl
theorem H0_next : H0.next = 0 := rfl
theorem sliceH_str (H : Hp) (t : TypeId) (s : List UInt8) (lo hi : Option AV) : sliceHA P H t (.str s) lo hi = sliceA P t (.str s) lo hi := rfl
theorem sliceH_lst (H : Hp) (t : TypeId) (s : List (List AV)) (lo hi : Option AV) : sliceHA P H t (.lst s) lo hi = sliceA P t (.lst s) lo hi := rfl
theorem sliceH_sl (H : Hp) (t : TypeId) (r o n z : Nat) (lo hi : Option AV) : sliceHA P H t (.sl r o n z) lo hi = sliceA P t (.sl r o n z) lo hi := rfl
theorem sliceH_nil (H : Hp) (t : TypeId) (lo hi : Option AV) : sliceHA P H t .nilS lo hi = sliceA P t .nilS lo hi := rfl

theorem nb1 (n k : Nat) : (n == n + (k + 1)) = false := by simp
theorem nb2 (n k : Nat) : (n + (k + 1) == n) = false := by simp
theorem nb3 (n a b : Nat) : (n + a == n + b) = (a == b) := by
  by_cases h : a = b
  · simp [h]
  · have h1 : (a == b) = false := by simpa using h
    rw [h1]; simp; omega
/-! Heaps. -/
theorem Hp.get_set' (H : Hp) (r r' : Nat) (b : HB) : (H.set r b).get r' = if r' = r then some b else H.get r' := Hp.get_set H r r' b

/-- The known calls of a list. -/
structure Ent where
  f : FuncId
  sp : List AV → Option AV

def lookE : List Ent → FuncId → List AV → Option AV
  | [], _, _ => none
  | e :: l, f, args => match Nat.beq e.f f with
    | true => e.sp args
    | false => lookE l f args

def iceE : List Ent → FuncId → Bool
  | [], _ => false
  | e :: l, f => match Nat.beq e.f f with
    | true => true
    | false => iceE l f

def EntOk (P : Program) (ρ : Nat → Int) (e : Ent) : Prop := ∀ args r, e.sp args = some r → Con P ρ e.f args r

theorem lookE_ok {P : Program} {ρ : Nat → Int} : ∀ {l : List Ent}, (∀ e ∈ l, EntOk P ρ e) → ∀ f args r, lookE l f args = some r → Con P ρ f args r
  | [], _, _, _, _, h => by simp [lookE] at h
  | e :: l, hl, f, args, r, h => by
    simp only [lookE] at h
    split at h
    · rename_i hf
      rw [← Nat.eq_of_beq_eq_true hf]
      exact hl e List.mem_cons_self args r h
    · exact lookE_ok (fun e he => hl e (List.mem_cons_of_mem _ he)) f args r h

/-- A specification as a known call: 'enc' says how the arguments look. -/
noncomputable def spOf {α : Type} (enc : α → List AV) (out : α → AV) (args : List AV) : Option AV := open Classical in
  if h : ∃ x, enc x = args then some (out (Classical.choose h)) else none

theorem spOf_enc {α : Type} {enc : α → List AV} {out : α → AV} (inj : ∀ x y, enc x = enc y → out x = out y) (x : α) : spOf enc out (enc x) = some (out x) := by
  unfold spOf
  have h : ∃ y, enc y = enc x := ⟨x, rfl⟩
  rw [dif_pos h]
  rw [inj _ _ (Classical.choose_spec h)]

theorem spOf_ok {P : Program} {ρ : Nat → Int} {α : Type} {f : FuncId} {enc : α → List AV} {out : α → AV} (h : ∀ x, Con P ρ f (enc x) (out x)) : EntOk P ρ ⟨f, spOf enc out⟩ := fun args r hr => by
  change spOf enc out args = some r at hr
  unfold spOf at hr
  split at hr
  · rename_i hx
    simp only [Option.some.injEq] at hr
    subst hr
    have := h (Classical.choose hx)
    rw [Classical.choose_spec hx] at this
    exact this
  · simp at hr
end
attribute [irreducible] WpL Wp WpCall WpOp spOf
end Go.Ab
