/- Regions that draw their order, in the calculus: with calls in them: what was read must read the same before each act that it may come behind of. -/
import Derived.Test.YtlanljjbcpepjaaAbWd
namespace Go.Ab
set_option linter.unusedSimpArgs false
set_option linter.unusedVariables false
set_option linter.unusedSectionVars false
open Go

/-- What an operation of the row did. -/
structure Rc where
  op : Op
  did : Bool
  E : Env
  H : Hp
  val : AV
  H' : Hp

section
variable (P : Program) (cfg : Cfg) (f : FuncId)

def WpT : List SOp → List Rc → Env → Hp → (List Rc → Env → Hp → Prop) → Prop
  | [], tr, E, H, Q => Q tr E H
  | o :: l, tr, E, H, Q => match o.g with
    | none => WpOp P cfg f o.op E H fun v H' => WpT l (tr ++ [⟨o.op, true, E, H, v, H'⟩]) (setO E o.d v) H' Q
    | some (s, b) => (E.at s = .bool b ∧ WpOp P cfg f o.op E H fun v H' => WpT l (tr ++ [⟨o.op, true, E, H, v, H'⟩]) (setO E o.d v) H' Q) ∨ ((E.at s = .bool (!b) ∨ E.at s = undefA) ∧ WpT l (tr ++ [⟨o.op, false, E, H, undefA, H⟩]) (setO E o.d undefA) H Q)

def heapT (tr : List Rc) (H' : Hp) (m : Nat) : Hp := match tr[m]? with
  | some r => r.H
  | none => H'

def SameR (r : Rc) (H : Hp) : Prop := match kindOf r.op with
  | .read => ∃ H2, operA P cfg (fun _ => .fail) 0 r.E H r.op = .val r.val H2
  | .make => ∃ b, H.get r.H.next = some b ∧ r.H'.get r.H.next = some b
  | _ => True

def SameT (tr : List Rc) (H' : Hp) (i m : Nat) : Prop := match tr[i]? with
  | some r => r.did = true → SameR P cfg r (heapT tr H' m)
  | none => True

def LooksT (need : List (Nat × Nat)) (tr : List Rc) (H' : Hp) : Prop := (∀ r ∈ tr, r.H.next ≤ r.H'.next) ∧ ∀ p ∈ need, SameT P cfg tr H' p.1 p.2
end

section
variable {P : Program} {cfg : Cfg} {f N : Nat}

def toRc (r : Rec) : Rc := ⟨r.o.op, r.did, r.E, r.H, r.val, r.H'⟩

theorem HB.beq_refl (b : HB) : HB.beq b b = true := by
  cases b with
  | cells a i t => simp [HB.beq, AV.beqs_refl]
  | map es => simp [HB.beq, AV.beqs_refl]

theorem WpT.run {all : List Oper} {Q : List Rc → Env → Hp → Prop} : ∀ {l : List Oper} {r : List SOp} {tr : List Rc} {E : Env} {H : Hp}, slimL N all l = some r → WpT P cfg f r tr E H Q →
    ∃ n E' H' rs, runD P cfg (ev P cfg n) f N all l E H = .done E' H' rs ∧ Q (tr ++ rs.map toRc) E' H'
  | [], r, tr, E, H, hs, hq => by
    simp only [slimL, Option.some.injEq] at hs
    subst hs
    unfold WpT at hq; exact ⟨0, E, H, [], rfl, by simpa using hq⟩
  | o :: l, r, tr, E, H, hs, hq => by
    simp only [slimL] at hs
    split at hs
    · rename_i d g r' h1 h2 h3
      simp only [Option.some.injEq] at hs
      subst hs
      obtain ⟨w1, w2⟩ := wanted_slim (E := E) h2
      have hle : ∀ k k', k ≤ k' → Le (ev P cfg k) (ev P cfg k') := fun k k' hk t ht => ev_mono hk ht
      have hop : WpOp P cfg f o.op E H (fun v H' => WpT P cfg f r' (tr ++ [⟨o.op, true, E, H, v, H'⟩]) (setO E d v) H' Q) → wantedA all E o = true → ∃ n E' H' rs, runD P cfg (ev P cfg n) f N all (o :: l) E H = .done E' H' rs ∧ Q (tr ++ rs.map toRc) E' H' := fun hw hwant => by
        unfold WpOp at hw
        obtain ⟨n, v, H1, g1, g2⟩ := hw
        obtain ⟨m, E2, H2, rs, g3, g4⟩ := WpT.run h3 g2
        refine ⟨max n m, E2, H2, ⟨o, true, E, H, v, H1⟩ :: rs, ?_, by simpa [toRc] using g4⟩
        simp only [runD, hwant]
        rw [operA_mono (hle n (max n m) (Nat.le_max_left _ _)) (by rw [g1]; simp), g1]
        simp only [putA_slim h1, afterPutD]
        rw [runD_mono (hle m (max n m) (Nat.le_max_right _ _)) (by rw [g3]; simp), g3]
        rfl
      unfold WpT at hq
      cases hg : g with
      | none =>
        rw [hg] at hq
        exact hop hq (w1 hg)
      | some sb =>
        obtain ⟨s, b⟩ := sb
        rw [hg] at hq
        simp only [] at hq
        rcases hq with ⟨e, hq⟩ | ⟨e, hq⟩
        · exact hop hq ((w2 s b hg).1 e)
        · obtain ⟨m, E2, H2, rs, g3, g4⟩ := WpT.run h3 hq
          refine ⟨m, E2, H2, ⟨o, false, E, H, undefA, H⟩ :: rs, ?_, by simpa [toRc] using g4⟩
          simp only [runD, (w2 s b hg).2 e, putA_slim h1, afterPutD, g3, consD]
    · simp at hs

theorem looks_of {need : List (Nat × Nat)} {rs : List Rec} {H' : Hp} (h : LooksT P cfg need (rs.map toRc) H') : looksD P cfg need rs H' = true := by
  unfold looksD
  simp only [Bool.and_eq_true, List.all_eq_true]
  refine ⟨fun r hm => Nat.ble_eq_true_of_le (h.1 _ (List.mem_map.2 ⟨r, hm, rfl⟩)), fun p hp => ?_⟩
  have hs := h.2 p hp
  have hheap : heapT (rs.map toRc) H' p.2 = heapAt rs H' p.2 := by
    unfold heapT heapAt
    rw [List.getElem?_map]
    cases rs[p.2]? <;> rfl
  unfold SameT at hs
  rw [List.getElem?_map, hheap] at hs
  cases hr : rs[p.1]? with
  | none => rfl
  | some r =>
    rw [hr] at hs
    simp only [Option.map_some, toRc] at hs
    simp only [Bool.or_eq_true, Bool.not_eq_true']
    cases hd : r.did with
    | false => exact .inl rfl
    | true =>
      right
      have hs := hs hd
      unfold SameR at hs
      unfold sameAt
      cases hk : kindOf r.o.op with
      | calm => rfl
      | act => rfl
      | read =>
        rw [hk] at hs
        simp only [] at hs ⊢
        obtain ⟨H2, h2⟩ := hs
        rw [h2]
        exact AV.beq_refl _
      | make =>
        rw [hk] at hs
        simp only [] at hs ⊢
        obtain ⟨b, h1, h2⟩ := hs
        rw [h1, h2]
        exact HB.beq_refl b

theorem Wp.drawL {id : Nat} {ops ops2 : List Oper} {l : List SOp} {need : List (Nat × Nat)} {E : Env} {H : Hp} {Q : AX → Env → Hp → Prop}
    (hpl : ∀ ih : Task → Res, runPlan P cfg ih f N E H (cfg.plan f id) ops = runDraw P cfg ih f N ops2 E H) (hp : calmD ops2 = true) (hs : slimL N ops2 ops2 = some l) (hn : needD ops2 = need)
    (h : ∀ K : List Rc → Env → Hp → Prop, (∀ tr E' H', LooksT P cfg need tr H' → Q .normal E' H' → K tr E' H') → WpT P cfg f l [] E H K) : Wp P cfg f N (.draw id ops) E H Q := by
  unfold Wp
  intro code hc
  cases code with
  | region id' ops' draw =>
    cases draw with
    | false => simp only [slim, slimR] at hc; split at hc <;> simp at hc
    | true =>
      simp only [slim, SC.draw.injEq] at hc
      obtain ⟨rfl, rfl⟩ := hc
      obtain ⟨n, E', H', rs, h1, h2, h3⟩ := WpT.run hs (h (fun tr E' H' => LooksT P cfg need tr H' ∧ Q .normal E' H') fun _ _ _ h h' => ⟨h, h'⟩)
      refine ⟨_, _, _, Ev.draw (n := n) (r := .done .normal E' H') ?_ (by simp), h3⟩
      rw [hpl]
      unfold runDraw
      rw [hp]
      simp only [h1]
      rw [hn, looks_of (by simpa using h2)]
  | _ => simp [slim] at hc

/-- In the order of the text. -/
theorem Wp.drawT {id : Nat} {ops : List Oper} {l : List SOp} {need : List (Nat × Nat)} {E : Env} {H : Hp} {Q : AX → Env → Hp → Prop} (hpl : cfg.plan f id = .text) (hp : calmD ops = true) (hs : slimL N ops ops = some l) (hn : needD ops = need)
    (h : ∀ K : List Rc → Env → Hp → Prop, (∀ tr E' H', LooksT P cfg need tr H' → Q .normal E' H' → K tr E' H') → WpT P cfg f l [] E H K) : Wp P cfg f N (.draw id ops) E H Q :=
  Wp.drawL (fun ih => by rw [hpl]; rfl) hp hs hn h
/-- In another order. -/
theorem Wp.drawP {id : Nat} {ops : List Oper} {ord : List Nat} {l : List SOp} {need : List (Nat × Nat)} {E : Env} {H : Hp} {Q : AX → Env → Hp → Prop} (hpl : cfg.plan f id = .perm ord) (hb : permB ord ops = true) (hp : calmD (permD ord ops) = true) (hs : slimL N (permD ord ops) (permD ord ops) = some l) (hn : needD (permD ord ops) = need)
    (h : ∀ K : List Rc → Env → Hp → Prop, (∀ tr E' H', LooksT P cfg need tr H' → Q .normal E' H' → K tr E' H') → WpT P cfg f l [] E H K) : Wp P cfg f N (.draw id ops) E H Q :=
  Wp.drawL (fun ih => by rw [hpl]; simp only [runPlan, hb]) hp hs hn h

theorem WpT.nil {tr : List Rc} {E : Env} {H : Hp} {Q : List Rc → Env → Hp → Prop} (h : Q tr E H) : WpT P cfg f [] tr E H Q := h

/-- One operation, by its rule. -/
theorem WpT.step {d : Nat} {op : Op} {l : List SOp} {tr : List Rc} {E : Env} {H : Hp} {Q : List Rc → Env → Hp → Prop}
    (h : WpL P cfg f [⟨some d, op, none⟩] E H fun E' H' => WpT P cfg f l (tr ++ [⟨op, true, E, H, E'.at d, H'⟩]) E' H' Q) : WpT P cfg f (⟨some d, op, none⟩ :: l) tr E H Q := by
  unfold WpL at h
  simp only [] at h
  unfold WpT
  refine WpOp.mono (fun v H' hq => ?_) h
  unfold WpL at hq
  have : (setO E (some d) v).at d = v := by simp only [setO, at_set, beq_self_eq_true, cond_true]
  rw [this] at hq
  exact hq
theorem WpT.step0 {op : Op} {l : List SOp} {tr : List Rc} {E : Env} {H : Hp} {Q : List Rc → Env → Hp → Prop} (hk : kindOf op = .act)
    (h : WpL P cfg f [⟨none, op, none⟩] E H fun E' H' => ∀ v, WpT P cfg f l (tr ++ [⟨op, true, E, H, v, H'⟩]) E' H' Q) : WpT P cfg f (⟨none, op, none⟩ :: l) tr E H Q := by
  unfold WpL at h
  simp only [] at h
  unfold WpT
  refine WpOp.mono (fun v H' hq => ?_) h
  unfold WpL at hq
  exact hq v
theorem WpT.guard {d : Option Nat} {op : Op} {s : Nat} {b t : Bool} {l : List SOp} {tr : List Rc} {E : Env} {H : Hp} {Q : List Rc → Env → Hp → Prop} (h : E.at s = .bool t) (h1 : t = b → WpT P cfg f (⟨d, op, none⟩ :: l) tr E H Q) (h2 : t = !b → WpT P cfg f l (tr ++ [⟨op, false, E, H, undefA, H⟩]) (setO E d undefA) H Q) :
    WpT P cfg f (⟨d, op, some (s, b)⟩ :: l) tr E H Q := by
  unfold WpT
  simp only []
  by_cases e : t = b
  · left
    refine ⟨by rw [h, e], ?_⟩
    have := h1 e
    unfold WpT at this
    exact this
  · right
    have e2 : t = !b := by cases t <;> cases b <;> simp_all
    exact ⟨.inl (by rw [h, e2]), h2 e2⟩
theorem WpT.guardU {d : Option Nat} {op : Op} {s : Nat} {b : Bool} {l : List SOp} {tr : List Rc} {E : Env} {H : Hp} {Q : List Rc → Env → Hp → Prop} (h : E.at s = undefA) (h2 : WpT P cfg f l (tr ++ [⟨op, false, E, H, undefA, H⟩]) (setO E d undefA) H Q) :
    WpT P cfg f (⟨d, op, some (s, b)⟩ :: l) tr E H Q := by
  unfold WpT
  exact .inr ⟨.inr h, h2⟩

/-! What was read reads the same. -/
theorem same_load {t : TypeId} {x : Operand} {E : Env} {H0 H0' H : Hp} {v a : AV} (h : aeval E x = some a) (h1 : aload P H t a = some v) : SameR P cfg ⟨.load t x, true, E, H0, v, H0'⟩ H :=
  ⟨H, by simp only [operA, opA, opLoad, Go.Ab.ret, h, h1, resOf]⟩
theorem same_lookup {t : TypeId} {x y : Operand} {ok : Bool} {E : Env} {H0 H0' H : Hp} {v a b : AV} (h : aeval E x = some a) (h1 : aeval E y = some b) (h2 : lookupA P H t a b ok = some v) : SameR P cfg ⟨.lookup t x y ok, true, E, H0, v, H0'⟩ H :=
  ⟨H, by simp only [operA, opA, opLookup, Go.Ab.ret, h, h1, h2, resOf]⟩
theorem same_len {t : TypeId} {x : Operand} {E : Env} {H0 H0' H : Hp} {v a : AV} (h : aeval E x = some a) (h1 : lenAt P H t a = some v) : SameR P cfg ⟨.call ⟨.builtin .len, #[x], #[t]⟩, true, E, H0, v, H0'⟩ H :=
  ⟨H, by simp only [operA, callA, aevals, h, builtinA, h1, resOf]⟩
theorem same_conv {s t : TypeId} {x : Operand} {E : Env} {H0 H0' H : Hp} {v a : AV} (h : aeval E x = some a) (h1 : convertA P H s t a = some v) : SameR P cfg ⟨.convert s t x, true, E, H0, v, H0'⟩ H :=
  ⟨H, by simp only [operA, opA, opConvert, Go.Ab.ret, h, h1, resOf]⟩
theorem same_slice {t : TypeId} {x : Operand} {lo hi : Option Operand} {lv hv : Option AV} {E : Env} {H0 H0' H : Hp} {v a : AV} (h : aeval E x = some a) (h1 : aevalO E lo = some lv) (h2 : aevalO E hi = some hv) (h3 : sliceHA P H t a lv hv = some v) : SameR P cfg ⟨.slice t x lo hi none, true, E, H0, v, H0'⟩ H :=
  ⟨H, by simp only [operA, opA, opSlice, Go.Ab.ret, h, h1, h2, h3, resOf]⟩
theorem same_make {op : Op} {E : Env} {H0 H0' H : Hp} {v : AV} {b : HB} (hk : kindOf op = .make) (h : H.get H0.next = some b) (h2 : H0'.get H0.next = some b) : SameR P cfg ⟨op, true, E, H0, v, H0'⟩ H := by
  unfold SameR
  rw [hk]
  exact ⟨b, h, h2⟩
theorem sameT_at {tr : List Rc} {H' : Hp} {i m : Nat} {r : Rc} (h : tr[i]? = some r) (hs : r.did = true → SameR P cfg r (heapT tr H' m)) : SameT P cfg tr H' i m := by
  unfold SameT; rw [h]; exact hs
end
section
variable {P : Program} {cfg : Cfg} {f : FuncId} {l : List SOp} {E : Env} {H : Hp} {Q : Env → Hp → Prop} {d : Nat} {x y : Operand} {ts : Array TypeId} {k k' : IntKind} {a b : Int}
theorem WpL.min2 (h : aeval E x = some (.int k a)) (h1 : aeval E y = some (.int k' b)) (hk : WpL P cfg f l (T.set E d (some (.int k (min a b)))) H Q) : WpL P cfg f (⟨some d, .call ⟨.builtin .min, #[x, y], ts⟩, none⟩ :: l) E H Q :=
  WpL.builtin (c := ⟨.builtin .min, #[x, y], ts⟩) rfl (vs := [.int k a, .int k' b]) (by simp only [aevals, h, h1]) (v := .int k (min a b)) (by
    simp only [builtinA, mms, mm, Bool.false_eq_true, if_false, decide_eq_true_eq]
    congr 3; omega) hk
theorem WpL.max2 (h : aeval E x = some (.int k a)) (h1 : aeval E y = some (.int k' b)) (hk : WpL P cfg f l (T.set E d (some (.int k (max a b)))) H Q) : WpL P cfg f (⟨some d, .call ⟨.builtin .max, #[x, y], ts⟩, none⟩ :: l) E H Q :=
  WpL.builtin (c := ⟨.builtin .max, #[x, y], ts⟩) rfl (vs := [.int k a, .int k' b]) (by simp only [aevals, h, h1]) (v := .int k (max a b)) (by
    simp only [builtinA, mms, mm, if_true, decide_eq_true_eq]
    congr 3; omega) hk
end
attribute [irreducible] WpT
end Go.Ab
