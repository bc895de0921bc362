/- Parts: SemF. -/
import Derived.Test.YtjkmbpieknaekaaICQ
set_option linter.unusedSimpArgs false
set_option linter.unusedVariables false
set_option linter.unusedSectionVars false
set_option linter.defProp false
namespace Go.Ab
set_option maxRecDepth 20000
set_option linter.unusedVariables false
set_option linter.unusedSimpArgs false
open Go
abbrev addF (d : Int) (s : MS) : MS := { s with fuel := s.fuel + d }
structure Rdy (d : Int) (s : MS) : Prop where
  fin : s.fin ≠ 3
  lo : 0 ≤ s.fuel
  hi : s.fuel + d ≤ 1000
def RelF (d : Int) (s s' : MS) : Prop := (Rdy d s ∧ s' = addF d s) ∨ (s.fin = 3 ∧ s.out <+: s'.out)
def SimF {α : Type} (d : Int) (A B : Option (α × MS)) : Prop := ∀ r r', A = some r → B = some r' → RelF d r.2 r'.2 ∧ (r.2.fin ≠ 3 → r.1 = r'.1)
def GrowO {α : Type} (s : MS) (A : Option (α × MS)) : Prop := ∀ q, A = some q → s.out <+: q.2.out
def DeadO {α : Type} (s : MS) (A : Option (α × MS)) : Prop := s.fin ≠ 0 → ∀ q, A = some q → q.2 = s
theorem GrowO.none {α : Type} (s : MS) : GrowO s (Option.none : Option (α × MS)) := fun _ h => by cases h
theorem GrowO.pure {α : Type} (s : MS) (v : α) : GrowO s (some (v, s)) := fun q h => by cases h; exact List.prefix_refl _
theorem GrowO.pure' {α : Type} {s t : MS} (v : α) (h : s.out <+: t.out) : GrowO s (some (v, t)) := fun q e => by cases e; exact h
theorem GrowO.trans {α : Type} {s t : MS} {A : Option (α × MS)} (h : s.out <+: t.out) (k : GrowO t A) : GrowO s A := fun q e => h.trans (k q e)
theorem GrowO.bind {α β : Type} {s : MS} {A : Option (α × MS)} {f : α × MS → Option (β × MS)} (h : GrowO s A) (k : ∀ r, GrowO r.2 (f r)) : GrowO s (A.bind f) := fun q e => by
  obtain ⟨x, hx, hf⟩ := Option.bind_eq_some_iff.1 e
  exact (h x hx).trans (k x q hf)
theorem GrowO.bindK {β : Type} {s : MS} {A : Option Ex} {f : Ex → Option (β × MS)} (k : ∀ r, GrowO s (f r)) : GrowO s (A.bind f) := fun q e => by
  obtain ⟨x, hx, hf⟩ := Option.bind_eq_some_iff.1 e
  exact k x q hf
theorem GrowO.ite {α : Type} {c : Prop} [Decidable c] {s : MS} {A B : Option (α × MS)} (h : GrowO s A) (k : GrowO s B) : GrowO s (if c then A else B) := by
  split
  · exact h
  · exact k
theorem trap_out (c : Int) (s : MS) : s.out <+: (trapM c s).out := by unfold trapM; split <;> exact List.prefix_refl _
theorem tick_out (s : MS) : s.out <+: (tickM s).out := by unfold tickM; split; exact List.prefix_refl _; split <;> exact List.prefix_refl _
theorem outM_out (v : Int) (s : MS) : s.out <+: (outM v s).out := by
  unfold outM
  split
  · exact List.prefix_append _ _
  · exact List.prefix_refl _
theorem store_out (nm : Nm) (a v : Int) (s : MS) : s.out <+: (storeM nm a v s).out := by
  unfold storeM
  simp only
  have h : s.out <+: (if badAt a (lkC s.cells nm) = true then trapM 2 s else s).out := by
    split
    · exact trap_out _ _
    · exact List.prefix_refl _
  generalize (if badAt a (lkC s.cells nm) = true then trapM 2 s else s) = t at h
  split
  · exact h
  · exact h
theorem exprM_grow : ∀ (n : Nat) (x : Ex) (vs : List (Nm × Int)) (s : MS), GrowO s (exprM n x vs s)
  | 0, x, vs, s => .none s
  | n + 1, x, vs, s => by
    have IH := exprM_grow n
    unfold exprM
    repeat' (first | exact GrowO.pure _ _ | exact IH _ _ _ | exact GrowO.pure' _ (trap_out _ _) | apply GrowO.ite | apply GrowO.bind | apply GrowO.bindK | intro _)
theorem argsM_grow (n : Nat) : ∀ (l : List Ex) (vs : List (Nm × Int)) (s : MS), GrowO s (argsM n l vs s)
  | [], vs, s => GrowO.pure _ _
  | x :: l, vs, s => by
    have IH := argsM_grow n l
    unfold argsM
    repeat' (first | exact GrowO.pure _ _ | exact IH _ _ | exact exprM_grow _ _ _ _ | apply GrowO.bind | intro _)
theorem stepM_grow (p : Pr) (fi : List (Nm × Int)) : ∀ n : Nat,
    (∀ x vs s, GrowO s (stmtM p fi n x vs s)) ∧ (∀ l vs s, GrowO s (stmtsM p fi n l vs s)) ∧ (∀ x vs s, GrowO s (whileM p fi n x vs s)) ∧ (∀ k al s, GrowO s (callM p fi n k al s))
  | 0 => ⟨fun x vs s r h => by simp [stmtM] at h, fun l vs s r h => by simp [stmtsM] at h, fun x vs s r h => by simp [whileM] at h, fun k al s r h => by simp [callM] at h⟩
  | n + 1 => by
    obtain ⟨I1, I2, I3, I4⟩ := stepM_grow p fi n
    refine ⟨fun x vs s => ?_, fun l vs s => ?_, fun x vs s => ?_, fun k al s => ?_⟩
    · unfold stmtM
      repeat' (first | exact GrowO.pure _ _ | exact GrowO.pure' _ (trap_out _ _) | exact GrowO.pure' _ (tick_out _) | exact GrowO.pure' _ (outM_out _ _) | exact GrowO.pure' _ (store_out _ _ _ _) | exact exprM_grow _ _ _ _ | exact argsM_grow _ _ _ _ | exact I2 _ _ _ | exact I3 _ _ _ | exact GrowO.trans (tick_out _) (I4 _ _ _) | apply GrowO.ite | apply GrowO.bind | intro _)
    · unfold stmtsM
      cases l with
      | nil => exact GrowO.pure _ _
      | cons x l =>
        simp only
        repeat' (first | exact GrowO.pure _ _ | exact I1 _ _ _ | exact I2 _ _ _ | apply GrowO.ite | apply GrowO.bind | intro _)
    · unfold whileM
      repeat' (first | exact GrowO.pure _ _ | exact exprM_grow _ _ _ _ | exact GrowO.trans (tick_out _) (I2 _ _ _) | exact GrowO.trans (tick_out _) (I3 _ _ _) | exact I3 _ _ _ | apply GrowO.ite | apply GrowO.bind | intro _)
    · unfold callM
      refine GrowO.ite (.none _) fun q e => ?_
      obtain ⟨f, hf, e⟩ := Option.bind_eq_some_iff.1 e
      obtain ⟨vs, hv, e⟩ := Option.bind_eq_some_iff.1 e
      exact GrowO.bind (I2 _ _ _) (fun r => exprM_grow _ _ _ _) q e
theorem exprM_dead {n : Nat} {x : Ex} {vs : List (Nm × Int)} {s : MS} : DeadO s (exprM n x vs s) := fun h q e => by
  cases n with
  | zero => cases e
  | succ n => rw [exprM, if_pos h] at e; cases e; rfl
theorem argsM_dead {n : Nat} : ∀ {l : List Ex} {vs : List (Nm × Int)} {s : MS}, DeadO s (argsM n l vs s)
  | [], vs, s => fun h q e => by cases e; rfl
  | x :: l, vs, s => fun h q e => by
    rw [argsM] at e
    obtain ⟨r, hr, e⟩ := Option.bind_eq_some_iff.1 e
    obtain ⟨r2, hr2, e⟩ := Option.bind_eq_some_iff.1 e
    cases e
    have := exprM_dead h r hr
    show r2.2 = s
    rw [this] at hr2
    exact argsM_dead h r2 hr2
theorem tick_dead {s : MS} (h : s.fin ≠ 0) : tickM s = s := by unfold tickM; rw [if_pos h]
theorem trap_dead {c : Int} {s : MS} (h : s.fin ≠ 0) : trapM c s = s := by unfold trapM; rw [if_neg h]
theorem outM_dead {v : Int} {s : MS} (h : s.fin ≠ 0) : outM v s = s := by unfold outM; rw [if_neg h]
theorem store_dead {nm : Nm} {a v : Int} {s : MS} (h : s.fin ≠ 0) : storeM nm a v s = s := by
  unfold storeM
  rw [trap_dead h, ite_self]
  simp only
  rw [if_neg h]
theorem DeadO.pure {α : Type} (s : MS) (v : α) : DeadO s (some (v, s)) := fun h q e => by cases e; rfl
theorem DeadO.pure' {α : Type} {s t : MS} (v : α) (h : s.fin ≠ 0 → t = s) : DeadO s (some (v, t)) := fun k q e => by cases e; exact h k
theorem DeadO.bind {α β : Type} {s : MS} {A : Option (α × MS)} {f : α × MS → Option (β × MS)} (h : DeadO s A) (k : ∀ r, DeadO r.2 (f r)) : DeadO s (A.bind f) := fun hs q e => by
  obtain ⟨x, hx, hf⟩ := Option.bind_eq_some_iff.1 e
  have e1 := h hs x hx
  have := k x (by rw [e1]; exact hs) q hf
  rw [this, e1]
theorem DeadO.ite {α : Type} {c : Prop} [Decidable c] {s : MS} {A B : Option (α × MS)} (h : DeadO s A) (k : DeadO s B) : DeadO s (if c then A else B) := by
  split
  · exact h
  · exact k
theorem DeadO.tick {α : Type} {s : MS} {A : Option (α × MS)} (h : DeadO (tickM s) A) : DeadO s A := fun hs q e => by
  rw [tick_dead hs] at h; exact h hs q e
theorem stepM_dead (p : Pr) (fi : List (Nm × Int)) : ∀ n : Nat,
    (∀ x vs s, DeadO s (stmtM p fi n x vs s)) ∧ (∀ l vs s, DeadO s (stmtsM p fi n l vs s)) ∧ (∀ x vs s, DeadO s (whileM p fi n x vs s)) ∧ (∀ k al s, DeadO s (callM p fi n k al s))
  | 0 => ⟨fun x vs s h r e => by simp [stmtM] at e, fun l vs s h r e => by simp [stmtsM] at e, fun x vs s h r e => by simp [whileM] at e, fun k al s h r e => by simp [callM] at e⟩
  | n + 1 => by
    obtain ⟨I1, I2, I3, I4⟩ := stepM_dead p fi n
    refine ⟨fun x vs s => ?_, fun l vs s => ?_, fun x vs s => ?_, fun k al s => ?_⟩
    · unfold stmtM
      repeat' (first | exact DeadO.pure _ _ | exact DeadO.pure' _ trap_dead | exact DeadO.pure' _ tick_dead | exact DeadO.pure' _ outM_dead | exact DeadO.pure' _ store_dead | exact exprM_dead | exact argsM_dead | exact I2 _ _ _ | exact I3 _ _ _ | exact DeadO.tick (I4 _ _ _) | apply DeadO.ite | apply DeadO.bind | intro _)
    · unfold stmtsM
      cases l with
      | nil => exact DeadO.pure _ _
      | cons x l =>
        simp only
        repeat' (first | exact DeadO.pure _ _ | exact I1 _ _ _ | exact I2 _ _ _ | apply DeadO.ite | apply DeadO.bind | intro _)
    · unfold whileM
      repeat' (first | exact DeadO.pure _ _ | exact exprM_dead | exact DeadO.tick (I2 _ _ _) | exact DeadO.tick (I3 _ _ _) | exact I3 _ _ _ | apply DeadO.ite | apply DeadO.bind | intro _)
    · unfold callM
      intro hs q e
      split at e
      · cases e
      obtain ⟨f, hf, e⟩ := Option.bind_eq_some_iff.1 e
      obtain ⟨vs, hv, e⟩ := Option.bind_eq_some_iff.1 e
      exact DeadO.bind (I2 _ _ _) (fun r => exprM_dead) hs q e
section
variable {d : Int}
theorem SimF.none {α : Type} {B : Option (α × MS)} : SimF d Option.none B := fun _ _ h => by cases h
theorem SimF.pure {α : Type} {s : MS} (v : α) (h : Rdy d s) : SimF d (some (v, s)) (some (v, addF d s)) := fun r r' e e' => by
  cases e; cases e'
  exact ⟨.inl ⟨h, rfl⟩, fun _ => rfl⟩
theorem SimF.pure' {α : Type} {s t : MS} (v : α) (h : Rdy d s) (ht : t = addF d s) : SimF d (some (v, s)) (some (v, t)) := by subst ht; exact .pure v h
theorem SimF.ite {α : Type} {c : Prop} [Decidable c] {A B A' B' : Option (α × MS)} (h : SimF d A A') (k : SimF d B B') : SimF d (if c then A else B) (if c then A' else B') := by
  split
  · exact h
  · exact k
theorem SimF.bindK {β : Type} {A : Option Ex} {f g : Ex → Option (β × MS)} (k : ∀ r, SimF d (f r) (g r)) : SimF d (A.bind f) (A.bind g) := fun q q' e e' => by
  obtain ⟨x, hx, hf⟩ := Option.bind_eq_some_iff.1 e
  obtain ⟨x', hx', hf'⟩ := Option.bind_eq_some_iff.1 e'
  rw [hx] at hx'; cases hx'
  exact k x q q' hf hf'
theorem SimF.bind {α β : Type} {A B : Option (α × MS)} {f : α × MS → Option (β × MS)} (h : SimF d A B) (hd : ∀ r, DeadO r.2 (f r)) (hg : ∀ r, GrowO r.2 (f r)) (hf : ∀ v s, Rdy d s → SimF d (f (v, s)) (f (v, addF d s))) : SimF d (A.bind f) (B.bind f) := fun q q' e e' => by
  obtain ⟨x, hx, hq⟩ := Option.bind_eq_some_iff.1 e
  obtain ⟨x', hx', hq'⟩ := Option.bind_eq_some_iff.1 e'
  obtain ⟨h1, h2⟩ := h x x' hx hx'
  rcases h1 with ⟨h3, h4⟩ | ⟨h3, h4⟩
  · have h5 := h2 h3.fin
    obtain ⟨v, s⟩ := x
    obtain ⟨v', s'⟩ := x'
    simp only at h4 h5
    subst h4; subst h5
    exact hf v s h3 q q' hq hq'
  · have h5 := hd x (by omega) q hq
    have h6 := hg x' q' hq'
    rw [h5]
    exact ⟨.inr ⟨h3, h4.trans h6⟩, fun hn => absurd h3 hn⟩
theorem trap_add (c : Int) {s : MS} (h : Rdy d s) : Rdy d (trapM c s) ∧ trapM c (addF d s) = addF d (trapM c s) := by
  unfold trapM
  by_cases e : s.fin = 0
  · simp only [if_pos e]; exact ⟨⟨by simp, h.lo, h.hi⟩, trivial⟩
  · simp only [if_neg e]; exact ⟨h, trivial⟩
theorem outM_add (v : Int) {s : MS} (h : Rdy d s) : Rdy d (outM v s) ∧ outM v (addF d s) = addF d (outM v s) := by
  unfold outM
  by_cases e : s.fin = 0
  · simp only [if_pos e]; exact ⟨⟨h.fin, h.lo, h.hi⟩, trivial⟩
  · simp only [if_neg e]; exact ⟨h, trivial⟩
theorem store_add (nm : Nm) (a v : Int) {s : MS} (h : Rdy d s) : Rdy d (storeM nm a v s) ∧ storeM nm a v (addF d s) = addF d (storeM nm a v s) := by
  obtain ⟨t1, t2⟩ := trap_add (d := d) 2 h
  unfold storeM
  simp only
  by_cases e : badAt a (lkC s.cells nm) = true
  · simp only [if_pos e, t2]
    by_cases e2 : (trapM 2 s).fin = 0
    · simp only [if_pos e2]; exact ⟨⟨t1.fin, t1.lo, t1.hi⟩, trivial⟩
    · simp only [if_neg e2]; exact ⟨t1, trivial⟩
  · simp only [if_neg e]
    by_cases e2 : s.fin = 0
    · simp only [if_pos e2]; exact ⟨⟨h.fin, h.lo, h.hi⟩, trivial⟩
    · simp only [if_neg e2]; exact ⟨h, trivial⟩
theorem tick_sim (hd : 0 ≤ d) {α : Type} {F G : MS → Option (α × MS)} {s : MS} (h : Rdy d s) (hF : ∀ s, Rdy d s → SimF d (F s) (F (addF d s))) (hG : ∀ s, Rdy d s → SimF d (G s) (G (addF d s)))
    (gF : ∀ s, GrowO s (F s)) (gG : ∀ s, GrowO s (G s)) (dG : ∀ s, DeadO s (G s)) :
    SimF d (if (tickM s).fin = 0 then F (tickM s) else G (tickM s)) (if (tickM (addF d s)).fin = 0 then F (tickM (addF d s)) else G (tickM (addF d s))) := by
  by_cases e : s.fin = 0
  · have e' : (addF d s).fin = 0 := e
    by_cases f : s.fuel = 0
    · have t1 : tickM s = { s with fin := 3 } := by unfold tickM; rw [if_neg (by simp [e]), if_pos f]
      rw [t1]
      simp only [Int.reduceEq, if_false]
      by_cases hd0 : d = 0
      · have t2 : tickM (addF d s) = { addF d s with fin := 3 } := by unfold tickM; rw [if_neg (by simp [e]), if_pos (by show s.fuel + d = 0; omega)]
        rw [t2]
        simp only [Int.reduceEq, if_false]
        intro r r' h1 h2
        have h3 := dG _ (by simp) r h1
        have h4 := gG _ r' h2
        rw [h3]
        exact ⟨.inr ⟨rfl, h4⟩, fun hn => absurd rfl hn⟩
      · intro r r' h1 h2
        have h3 := dG _ (by simp) r h1
        rw [h3]
        have t2 : tickM (addF d s) = { addF d s with fuel := w64 ((addF d s).fuel - 1) } := by unfold tickM; rw [if_neg (by simp [e]), if_neg (by show ¬ s.fuel + d = 0; omega)]
        rw [t2] at h2
        rw [if_pos (by exact e)] at h2
        have h4 := gF _ r' h2
        change s.out <+: r'.2.out at h4
        exact ⟨.inr ⟨rfl, h4⟩, fun hn => absurd rfl hn⟩
    · have hlo := h.lo
      have hhi := h.hi
      have t1 : tickM s = { s with fuel := s.fuel - 1 } := by
        unfold tickM; rw [if_neg (by simp [e]), if_neg f]
        unfold w64; rw [IntWalk.i64_in _ (by omega)]
      have t2 : tickM (addF d s) = addF d { s with fuel := s.fuel - 1 } := by
        unfold tickM; rw [if_neg (by simp [e]), if_neg (by show ¬ s.fuel + d = 0; omega)]
        unfold w64 addF; simp only
        rw [IntWalk.i64_in _ (by omega)]
        congr 1; omega
      rw [t1, t2]
      have hr : Rdy d { s with fuel := s.fuel - 1 } := ⟨h.fin, by show 0 ≤ s.fuel - 1; omega, by show s.fuel - 1 + d ≤ 1000; omega⟩
      rw [if_pos (by exact e), if_pos (by exact e)]
      exact hF _ hr
  · have e' : (addF d s).fin ≠ 0 := e
    rw [tick_dead e, tick_dead e', if_neg e, if_neg e']
    exact hG _ h
theorem exprM_sim : ∀ (n : Nat) (x : Ex) (vs : List (Nm × Int)) (s : MS), Rdy d s → SimF d (exprM n x vs s) (exprM n x vs (addF d s))
  | 0, x, vs, s, h => .none
  | n + 1, x, vs, s, h => by
    have IH := exprM_sim n
    unfold exprM
    refine SimF.ite (SimF.pure _ h) (SimF.ite (SimF.pure _ h) (SimF.ite (SimF.pure _ h) (SimF.ite ?_ (SimF.ite ?_ ?_))))
    · refine SimF.bindK fun k => SimF.bind (IH _ _ _ h) (fun r => ?_) (fun r => ?_) fun v s h => ?_
      · exact DeadO.ite (DeadO.pure' _ trap_dead) (DeadO.pure _ _)
      · exact GrowO.ite (GrowO.pure' _ (trap_out _ _)) (GrowO.pure _ _)
      · obtain ⟨t1, t2⟩ := trap_add (d := d) 2 h
        exact SimF.ite (SimF.pure' _ t1 t2) (SimF.pure _ h)
    · refine SimF.bindK fun k => SimF.bind (IH _ _ _ h) (fun r => ?_) (fun r => ?_) fun v s h => ?_
      · refine DeadO.ite (fun hs q e => ?_) (fun hs q e => ?_) <;> (obtain ⟨f, hf, e⟩ := Option.bind_eq_some_iff.1 e; exact exprM_dead hs q e)
      · exact GrowO.ite (GrowO.bindK fun _ => exprM_grow _ _ _ _) (GrowO.bindK fun _ => exprM_grow _ _ _ _)
      · exact SimF.ite (SimF.bindK fun _ => IH _ _ _ h) (SimF.bindK fun _ => IH _ _ _ h)
    · refine SimF.bindK fun k => SimF.bind (IH _ _ _ h) (fun r => ?_) (fun r => ?_) fun v s h => ?_
      · refine DeadO.ite (DeadO.pure _ _) (fun hs q e => ?_)
        obtain ⟨f, hf, e⟩ := Option.bind_eq_some_iff.1 e
        exact DeadO.bind exprM_dead (fun r => DeadO.ite (DeadO.pure' _ trap_dead) (DeadO.pure _ _)) hs q e
      · exact GrowO.ite (GrowO.pure _ _) (GrowO.bindK fun _ => GrowO.bind (exprM_grow _ _ _ _) fun r => GrowO.ite (GrowO.pure' _ (trap_out _ _)) (GrowO.pure _ _))
      · refine SimF.ite (SimF.pure _ h) (SimF.bindK fun _ => SimF.bind (IH _ _ _ h) (fun r => ?_) (fun r => ?_) fun v s h => ?_)
        · exact DeadO.ite (DeadO.pure' _ trap_dead) (DeadO.pure _ _)
        · exact GrowO.ite (GrowO.pure' _ (trap_out _ _)) (GrowO.pure _ _)
        · obtain ⟨t1, t2⟩ := trap_add (d := d) 1 h
          exact SimF.ite (SimF.pure' _ t1 t2) (SimF.pure _ h)
theorem argsM_sim (n : Nat) : ∀ (l : List Ex) (vs : List (Nm × Int)) (s : MS), Rdy d s → SimF d (argsM n l vs s) (argsM n l vs (addF d s))
  | [], vs, s, h => SimF.pure _ h
  | x :: l, vs, s, h => by
    unfold argsM
    refine SimF.bind (exprM_sim n x vs s h) (fun r => ?_) (fun r => ?_) fun v s h => ?_
    · exact DeadO.bind argsM_dead fun r => DeadO.pure _ _
    · exact GrowO.bind (argsM_grow _ _ _ _) fun r => GrowO.pure _ _
    · exact SimF.bind (argsM_sim n l vs s h) (fun r => DeadO.pure _ _) (fun r => GrowO.pure _ _) fun v s h => SimF.pure _ h
theorem stepM_sim (hd : 0 ≤ d) (p : Pr) (fi : List (Nm × Int)) : ∀ n : Nat,
    (∀ x vs s, Rdy d s → SimF d (stmtM p fi n x vs s) (stmtM p fi n x vs (addF d s))) ∧ (∀ l vs s, Rdy d s → SimF d (stmtsM p fi n l vs s) (stmtsM p fi n l vs (addF d s))) ∧
    (∀ x vs s, Rdy d s → SimF d (whileM p fi n x vs s) (whileM p fi n x vs (addF d s))) ∧ (∀ k al s, Rdy d s → SimF d (callM p fi n k al s) (callM p fi n k al (addF d s)))
  | 0 => ⟨fun x vs s h r r' e => by simp [stmtM] at e, fun l vs s h r r' e => by simp [stmtsM] at e, fun x vs s h r r' e => by simp [whileM] at e, fun k al s h r r' e => by simp [callM] at e⟩
  | n + 1 => by
    obtain ⟨I1, I2, I3, I4⟩ := stepM_sim hd p fi n
    obtain ⟨G1, G2, G3, G4⟩ := stepM_grow p fi n
    obtain ⟨D1, D2, D3, D4⟩ := stepM_dead p fi n
    refine ⟨fun x vs s h => ?_, fun l vs s h => ?_, fun x vs s h => ?_, fun k al s h => ?_⟩
    · unfold stmtM
      refine SimF.ite ?_ (SimF.ite ?_ (SimF.ite ?_ (SimF.ite (I3 _ _ _ h) (SimF.ite ?_ (SimF.ite ?_ (SimF.ite ?_ (SimF.pure _ h)))))))
      · exact SimF.bind (exprM_sim _ _ _ _ h) (fun r => DeadO.pure _ _) (fun r => GrowO.pure _ _) fun v s h => SimF.pure _ h
      · refine SimF.bind (exprM_sim _ _ _ _ h) (fun r => ?_) (fun r => ?_) fun v s h => ?_
        · exact DeadO.bind exprM_dead fun r => DeadO.pure' _ store_dead
        · exact GrowO.bind (exprM_grow _ _ _ _) fun r => GrowO.pure' _ (store_out _ _ _ _)
        · refine SimF.bind (exprM_sim _ _ _ _ h) (fun r => DeadO.pure' _ store_dead) (fun r => GrowO.pure' _ (store_out _ _ _ _)) fun v2 s h => ?_
          obtain ⟨t1, t2⟩ := store_add (d := d) x.name v v2 h
          exact SimF.pure' _ t1 t2
      · exact SimF.bind (exprM_sim _ _ _ _ h) (fun r => DeadO.ite (D2 _ _ _) (D2 _ _ _)) (fun r => GrowO.ite (G2 _ _ _) (G2 _ _ _)) fun v s h => SimF.ite (I2 _ _ _ h) (I2 _ _ _ h)
      · refine SimF.bind (exprM_sim _ _ _ _ h) (fun r => DeadO.pure' _ outM_dead) (fun r => GrowO.pure' _ (outM_out _ _)) fun v s h => ?_
        obtain ⟨t1, t2⟩ := outM_add (d := d) v h
        exact SimF.pure' _ t1 t2
      · refine SimF.bind (argsM_sim _ _ _ _ h) (fun r => ?_) (fun r => ?_) fun v s h => ?_
        · exact DeadO.ite (DeadO.tick (DeadO.bind (D4 _ _ _) fun _ => DeadO.pure _ _)) (DeadO.pure' _ tick_dead)
        · exact GrowO.ite (GrowO.trans (tick_out _) (GrowO.bind (G4 _ _ _) fun _ => GrowO.pure _ _)) (GrowO.pure' _ (tick_out _))
        · exact tick_sim hd (F := fun t => (callM p fi n (lkV fi x.to) v t).bind fun r2 => some (setV vs x.name r2.1, r2.2)) (G := fun t => some (vs, t)) h
            (fun s h => SimF.bind (I4 _ _ _ h) (fun _ => DeadO.pure _ _) (fun _ => GrowO.pure _ _) fun v s h => SimF.pure _ h) (fun s h => SimF.pure _ h)
            (fun s => GrowO.bind (G4 _ _ _) fun _ => GrowO.pure _ _) (fun s => GrowO.pure _ _) (fun s => DeadO.pure _ _)
      · obtain ⟨t1, t2⟩ := trap_add (d := d) (w64 (16 + x.n)) h
        exact SimF.pure' _ t1 t2
    · unfold stmtsM
      cases l with
      | nil => exact SimF.pure _ h
      | cons x l =>
        simp only
        exact SimF.ite (SimF.pure _ h) (SimF.bind (I1 _ _ _ h) (fun r => D2 _ _ _) (fun r => G2 _ _ _) fun v s h => I2 _ _ _ h)
    · unfold whileM
      refine SimF.bind (exprM_sim _ _ _ _ h) (fun r => ?_) (fun r => ?_) fun v s h => ?_
      · exact DeadO.ite (DeadO.ite (DeadO.tick (DeadO.bind (D2 _ _ _) fun _ => D3 _ _ _)) (DeadO.tick (D3 _ _ _))) (DeadO.pure _ _)
      · exact GrowO.ite (GrowO.ite (GrowO.trans (tick_out _) (GrowO.bind (G2 _ _ _) fun _ => G3 _ _ _)) (GrowO.trans (tick_out _) (G3 _ _ _))) (GrowO.pure _ _)
      · refine SimF.ite ?_ (SimF.pure _ h)
        exact tick_sim hd (F := fun t => (stmtsM p fi n x.thn vs t).bind fun r2 => whileM p fi n x r2.1 r2.2) (G := fun t => whileM p fi n x vs t) h
            (fun s h => SimF.bind (I2 _ _ _ h) (fun _ => D3 _ _ _) (fun _ => G3 _ _ _) fun v s h => I3 _ _ _ h) (fun s h => I3 _ _ _ h)
            (fun s => GrowO.bind (G2 _ _ _) fun _ => G3 _ _ _) (fun s => G3 _ _ _) (fun s => D3 _ _ _)
    · unfold callM
      refine SimF.ite .none fun q q' e e' => ?_
      obtain ⟨f, hf, e⟩ := Option.bind_eq_some_iff.1 e
      obtain ⟨f', hf', e'⟩ := Option.bind_eq_some_iff.1 e'
      rw [hf] at hf'; cases hf'
      obtain ⟨vs, hv, e⟩ := Option.bind_eq_some_iff.1 e
      obtain ⟨vs', hv', e'⟩ := Option.bind_eq_some_iff.1 e'
      rw [hv] at hv'; cases hv'
      exact SimF.bind (f := fun r => exprM n f.value r.1 r.2) (I2 f.body vs s h) (fun r => exprM_dead) (fun r => exprM_grow _ _ _ _) (fun v s h => exprM_sim _ _ _ _ h) q q' e e'
end
/-- Two runs of one call, the second with more fuel. -/
theorem fuel_more {d : Int} (hd : 0 ≤ d) {p : Pr} {fi : List (Nm × Int)} {n m : Nat} {k : Int} {al : List Int} {s : MS} {r r' : Int × MS} (hs : Rdy d s) (h : callM p fi n k al s = some r) (h' : callM p fi m k al (addF d s) = some r') : RelF d r.2 r'.2 ∧ (r.2.fin ≠ 3 → r.1 = r'.1) := by
  have a := callM_more h m
  have b := callM_more h' n
  rw [Nat.add_comm] at b
  exact (stepM_sim hd p fi (n + m)).2.2.2 _ _ _ hs r r' a b
/-- .. and how they end. -/
theorem fuel_end {d f : Int} (hd : 0 ≤ d) (h0 : 0 ≤ f) (h1 : f + d ≤ 1000) {p : Pr} {fi : List (Nm × Int)} {n m : Nat} {k : Int} {al : List Int} {r r' : Int × MS} (h : callM p fi n k al (startM p f) = some r) (h' : callM p fi m k al (startM p (f + d)) = some r') :
    ((endM r).kind = 3 ∧ (endM r).code = 0 ∧ (endM r).value = 0 ∧ (endM r).out <+: (endM r').out) ∨ (((endM r).kind = 1 ∨ (endM r).kind = 2) ∧ endM r' = endM r) := by
  have eo : ∀ r : Int × MS, (endM r).out = r.2.out := fun r => by unfold endM; split; rfl; split <;> rfl
  obtain ⟨h2, h3⟩ := fuel_more hd (s := startM p f) ⟨by show (0 : Int) ≠ 3; omega, h0, h1⟩ h h'
  rcases h2 with ⟨h4, h5⟩ | ⟨h4, h5⟩
  · right
    have h6 := h3 h4.fin
    obtain ⟨v, s⟩ := r
    obtain ⟨v', s'⟩ := r'
    simp only at h5 h6
    subst h5; subst h6
    have h7 := h4.fin
    simp only at h7
    unfold endM
    by_cases e2 : s.fin = 2
    · simp [e2]
    · simp [e2, h7]
  · left
    rw [eo, eo]
    refine ⟨?_, ?_, ?_, h5⟩ <;> unfold endM <;> rw [if_neg (by omega), if_pos h4]
end Go.Ab
