/- How a run's state lies in memory: what statements leave alone. -/
import Derived.Test.YtlanljjbcpepjaaRep6
import Derived.Test.YtlanljjbcpepjaaAbWd
namespace Go.Ab
set_option linter.unusedVariables false
set_option linter.unusedSectionVars false
open Go

def outB (ov : AV) (r : Nat) : Prop := ∃ n, ov = .sl r 0 n 1
structure FrS (X : Mx) (ex : Nat → Prop) (ov : AV) (H : Hp) (ov' : AV) (H' : Hp) : Prop where
  next : H.next ≤ H'.next
  get : ∀ r, r < H.next → ¬ X.own r → ¬ outB ov r → ¬ ex r → H'.get r = H.get r
  out : ∀ r, outB ov' r → outB ov r ∨ H.next ≤ r
theorem FrS.trans {X : Mx} {ex : Nat → Prop} {oa ob oc : AV} {a b c : Hp} (h : FrS X ex oa a ob b) (k : FrS X ex ob b oc c) : FrS X ex oa a oc c where
  next := Nat.le_trans h.next k.next
  get r h1 h2 h3 h4 := by
    rw [k.get r (Nat.lt_of_lt_of_le h1 h.next) h2 (fun e => ?_) h4]
    · exact h.get r h1 h2 h3 h4
    · rcases h.out r e with e | e
      · exact h3 e
      · omega
  out r h1 := by
    rcases k.out r h1 with e | e
    · exact h.out r e
    · exact .inr (Nat.le_trans h.next e)
theorem FrA.toS {X : Mx} {H H' : Hp} (h : FrA X H H') (ex : Nat → Prop) (ov : AV) : FrS X ex ov H ov H' := ⟨h.next, fun r h1 h2 _ _ => h.get r h1 h2, fun r h => .inl h⟩
theorem FrE.toS {X : Mx} {H H' : Hp} (h : FrE X H H') (ex : Nat → Prop) (ov : AV) : FrS X ex ov H ov H' := h.toA.toS ex ov
theorem FrS.refl (X : Mx) (ex : Nat → Prop) (ov : AV) (H : Hp) : FrS X ex ov H ov H := (FrE.refl X H).toS ex ov
theorem FrS.weak {X : Mx} {ex ex' : Nat → Prop} {oa ob : AV} {a b : Hp} (h : FrS X ex oa a ob b) (hx : ∀ r, r < a.next → ex r → ex' r) : FrS X ex' oa a ob b := ⟨h.next, fun r h1 h2 h3 h4 => h.get r h1 h2 h3 fun e => h4 (hx r h1 e), h.out⟩

theorem RepM.own_lt {X : Mx} {H : Hp} {s : MS} {ov : AV} (h : RepM X H s ov) {r : Nat} (hr : X.own r) : r < H.next := by
  rcases hr with rfl | hr
  · exact h.lm
  · exact h.ls r hr
theorem RepM.out_lt {X : Mx} {H : Hp} {s : MS} {ov : AV} (h : RepM X H s ov) {r : Nat} (hr : outB ov r) : r < H.next := by
  obtain ⟨n, rfl⟩ := hr
  rcases h.out with ⟨h1, _⟩ | ⟨ro, h1, h2, h3, _⟩
  · simp at h1
  · simp only [AV.sl.injEq] at h1
    omega
theorem RepM.other {X : Mx} {H H' : Hp} {s : MS} {ov : AV} (h : RepM X H s ov) (hn : H.next ≤ H'.next) (hg : ∀ r, r < H.next → (X.own r ∨ r = X.rc ∨ r = X.rf ∨ outB ov r) → H'.get r = H.get r) : RepM X H' s ov where
  m := by rw [hg _ h.lm (.inl (.inl rfl))]; exact h.m
  c := by rw [hg _ h.lc (.inr (.inl rfl))]; exact h.c
  f := by rw [hg _ h.lf (.inr (.inr (.inl rfl)))]; exact h.f
  len := h.len
  cell j r nm l h1 h2 := by
    have hr := List.mem_of_getElem? h1
    rw [hg _ (h.ls r hr) (.inl (.inr hr))]
    exact h.cell j r nm l h1 h2
  out := by
    rcases h.out with h1 | ⟨ro, h1, h2, h3, h4, h5, h6⟩
    · exact .inl h1
    · exact .inr ⟨ro, h1, by rw [hg ro h3 (.inr (.inr (.inr ⟨_, h1⟩)))]; exact h2, Nat.lt_of_lt_of_le h3 hn, h4, h5, h6⟩
  lm := Nat.lt_of_lt_of_le h.lm hn
  lc := Nat.lt_of_lt_of_le h.lc hn
  lf := Nat.lt_of_lt_of_le h.lf hn
  ls r hr := Nat.lt_of_lt_of_le (h.ls r hr) hn
  mc' := h.mc'
  mf := h.mf
  ms := h.ms
  cf := h.cf
  cs := h.cs
  fs := h.fs
  nd := h.nd

/-- The variables of a call. -/
structure VarOk (X : Mx) (H : Hp) (rv : Nat) (vs : List (Nm × Int)) (ov : AV) : Prop where
  get : H.get rv = some (.map (vEs vs))
  lt : rv < H.next
  no : ¬ X.own rv
  nc : rv ≠ X.rc
  nf : rv ≠ X.rf
  nb : ¬ outB ov rv
theorem VarOk.nm {X : Mx} {H : Hp} {rv : Nat} {vs : List (Nm × Int)} {ov : AV} (h : VarOk X H rv vs ov) : rv ≠ X.rm := fun e => h.no (.inl e)
theorem VarOk.frS {X : Mx} {ex : Nat → Prop} {H H' : Hp} {rv : Nat} {vs : List (Nm × Int)} {ov ov' : AV} (h : VarOk X H rv vs ov) (f : FrS X ex ov H ov' H') (hx : ¬ ex rv) : VarOk X H' rv vs ov' where
  get := by rw [f.get _ h.lt h.no h.nb hx]; exact h.get
  lt := Nat.lt_of_lt_of_le h.lt f.next
  no := h.no
  nc := h.nc
  nf := h.nf
  nb e := by
    rcases f.out _ e with e | e
    · exact h.nb e
    · have := h.lt; omega
theorem VarOk.frE {X : Mx} {H H' : Hp} {rv : Nat} {vs : List (Nm × Int)} {ov : AV} (h : VarOk X H rv vs ov) (f : FrE X H H') : VarOk X H' rv vs ov := h.frS (f.toS (fun _ => False) ov) (fun e => e)
theorem VarOk.frA {X : Mx} {H H' : Hp} {rv : Nat} {vs : List (Nm × Int)} {ov : AV} (h : VarOk X H rv vs ov) (f : FrA X H H') : VarOk X H' rv vs ov := h.frS (f.toS (fun _ => False) ov) (fun e => e)
theorem RepM.setV {X : Mx} {H : Hp} {s : MS} {ov : AV} {rv : Nat} {vs : List (Nm × Int)} (h : RepM X H s ov) (hv : VarOk X H rv vs ov) (vs' : List (Nm × Int)) :
    RepM X (H.set rv (.map (vEs vs'))) s ov ∧ VarOk X (H.set rv (.map (vEs vs'))) rv vs' ov ∧ FrS X (· = rv) ov H ov (H.set rv (.map (vEs vs'))) := by
  have hne : ∀ r, r ≠ rv → (H.set rv (.map (vEs vs'))).get r = H.get r := fun r hr => by rw [Hp.get_set, if_neg hr]
  refine ⟨h.other (Nat.le_refl _) fun r hr ho => hne r fun e => ?_, ⟨by rw [Hp.get_set, if_pos rfl], hv.lt, hv.no, hv.nc, hv.nf, hv.nb⟩, ⟨Nat.le_refl _, fun r h1 h2 h3 h4 => hne r h4, fun r h1 => .inl h1⟩⟩
  subst e
  rcases ho with ho | ho | ho | ho
  · exact hv.no ho
  · exact hv.nc ho
  · exact hv.nf ho
  · exact hv.nb ho
/-- A block that a call keeps. -/
theorem FrS.keep {X : Mx} {ex : Nat → Prop} {H0 H H' : Hp} {s : MS} {ov ov' : AV} (f : FrS X ex ov H ov' H') (h : RepM X H0 s ov) {r : Nat} (h1 : H0.next ≤ r) (h2 : r < H.next) (h3 : ¬ ex r) : H'.get r = H.get r :=
  f.get r h2 (fun e => by have := h.own_lt e; omega) (fun e => by have := h.out_lt e; omega) h3

/-- A list of numbers in a slice of its own. -/
def IntsR (H : Hp) (v : AV) (l : List Int) : Prop := (v = .nilS ∧ l = []) ∨ ∃ r, v = .sl r 0 l.length 1 ∧ H.get r = some (.cells (ints l) 0 true)
theorem ints_one (l : List Int) : (ints l).all AV.one = true := by simp [ints, AV.one]
theorem ints_append (a b : List Int) : ints (a ++ b) = ints a ++ ints b := by simp [ints]
theorem intsR_append {P : Program} {t e : TypeId} {z : AV} (ht : P.underlying t = some (.slice e)) (hs : sizeA P e = some 1) (hb : bytesA P e = some 8) (hz : zeroA P e = some [z]) {H : Hp} {lv : AV} {l : List Int} (hrep : IntsR H lv l) {r' : Nat} {x : Int}
    (hg : H.get r' = some (.cells [.int .i64 x] 0 true)) (hl : l.length < 2 ^ 40) :
    ∃ H6, appendA P false H t t lv (.sl r' 0 1 1) = some (.sl H.next 0 (l.length + 1) 1, H6) ∧ H6.next = H.next + 1 ∧ H6.get H.next = some (.cells (ints (l ++ [x])) 0 true) ∧ ∀ k, k < H.next → ¬ outB lv k → H6.get k = H.get k := by
  have hsrc : srcCells H 1 (.sl r' 0 1 1) = some (0 + 1, [.int .i64 x]) := by
    have := src_sl (H := H) (r := r') (o := 0) (n := 1) (z := 1) (s := 1) hg rfl
    rw [this]; rfl
  have hu : srcType P t = true := by unfold srcType; rw [ht]
  have hm : maxRoom = 70368744177664 := rfl
  rcases hrep with ⟨rfl, rfl⟩ | ⟨r, rfl, q2⟩
  · refine ⟨H.alloc (.cells [.int .i64 x] 0 true), append_nil ht hs hb hz hu hsrc rfl rfl (by rw [hm]; omega) (by rw [hm]; omega), rfl, ?_, fun k hk _ => ?_⟩
    · rw [Hp.get_alloc, if_pos rfl]; rfl
    · rw [Hp.get_alloc, if_neg (by omega)]
  · refine ⟨(H.kill r).alloc (.cells (ints l ++ [.int .i64 x]) 0 true), append_sl ht hs hb hz hu hsrc rfl rfl q2 (by rw [ints_len, Nat.mul_one]) (by rw [hm]; omega) (by rw [hm]; omega), rfl, ?_, fun k hk hne => ?_⟩
    · show ((H.kill r).alloc _).get (H.kill r).next = _
      rw [Hp.get_alloc, if_pos rfl, ints_append]; rfl
    · have hkr : ¬ k = r := fun e => hne ⟨_, by rw [e]⟩
      rw [Hp.get_alloc, if_neg (by simp only [Hp.next_kill]; omega), Hp.get_kill, if_neg hkr]

/-- A word is put out. -/
theorem RepM.putOut {X : Mx} {H H6 : Hp} {s : MS} {ov : AV} {x : Int} {n0 : Nat} (h : RepM X H s ov) (h0 : s.fin = 0) (hlt : H.next ≤ n0) (hn6 : H6.next = n0 + 1) (hget : H6.get n0 = some (.cells (ints (s.out ++ [x])) 0 true)) (hk : ∀ k, k < H.next → ¬ outB ov k → H6.get k = H.get k) :
    RepM X (H6.set X.rm (.cells (mc X (outM x s) (.sl n0 0 (s.out.length + 1) 1)) 0 true)) (outM x s) (.sl n0 0 (s.out.length + 1) 1) ∧ FrS X (fun _ => False) ov H (.sl n0 0 (s.out.length + 1) 1) (H6.set X.rm (.cells (mc X (outM x s) (.sl n0 0 (s.out.length + 1) 1)) 0 true)) := by
  have ho : outM x s = { s with out := s.out ++ [x] } := by simp only [outM, h0, if_true]
  have nb : ∀ r, (X.own r ∨ r = X.rc ∨ r = X.rf) → ¬ outB ov r := fun r hr ⟨n, e⟩ => by
    rcases h.out with ⟨h1, _⟩ | ⟨ro, h1, h2, h3, h4, h5, h6⟩
    · rw [h1] at e; simp at e
    · rw [h1] at e
      simp only [AV.sl.injEq] at e
      obtain ⟨rfl, _⟩ := e
      rcases hr with hr | hr | hr
      · exact h4 hr
      · exact h5 hr
      · exact h6 hr
  have g : ∀ r, r < H.next → r ≠ X.rm → ¬ outB ov r → (H6.set X.rm (.cells (mc X (outM x s) (.sl n0 0 (s.out.length + 1) 1)) 0 true)).get r = H.get r := fun r h1 h2 h3 => by
    rw [Hp.get_set, if_neg h2, hk r h1 h3]
  have hlm := h.lm
  refine ⟨?_, ⟨by show H.next ≤ H6.next; omega, fun r h1 h2 h3 _ => g r h1 (fun e => h2 (.inl e)) h3, fun r ⟨n, e⟩ => .inr (by simp only [AV.sl.injEq] at e; omega)⟩⟩
  refine { m := ?_, c := ?_, f := ?_, len := ?_, cell := ?_, out := ?_, lm := ?_, lc := ?_, lf := ?_, ls := ?_, mc' := h.mc', mf := h.mf, ms := h.ms, cf := h.cf, cs := h.cs, fs := h.fs, nd := h.nd }
  · rw [Hp.get_set, if_pos rfl]
  · rw [g _ h.lc h.mc'.symm (nb _ (.inr (.inl rfl))), ho]; exact h.c
  · rw [g _ h.lf h.mf.symm (nb _ (.inr (.inr rfl)))]; exact h.f
  · rw [ho]; exact h.len
  · intro j r nm l h1 h2
    rw [ho] at h2
    have hr := List.mem_of_getElem? h1
    rw [g _ (h.ls r hr) (fun e => h.ms (e ▸ hr)) (nb _ (.inl (.inr hr)))]
    exact h.cell j r nm l h1 h2
  · refine .inr ⟨n0, by rw [ho]; simp, ?_, by show n0 < H6.next; omega, fun e => by have := h.own_lt e; omega, by have := h.lc; omega, by have := h.lf; omega⟩
    rw [Hp.get_set, if_neg (by omega), hget, ho]
  · show X.rm < H6.next; omega
  · show X.rc < H6.next; have := h.lc; omega
  · show X.rf < H6.next; have := h.lf; omega
  · intro r hr; show r < H6.next; have := h.ls r hr; omega
theorem OutR.ints {X : Mx} {H : Hp} {ov : AV} {out : List Int} (h : OutR X H ov out) : IntsR H ov out := by
  rcases h with h | ⟨ro, h1, h2, _⟩
  · exact .inl h
  · exact .inr ⟨ro, h1, h2⟩

/-- A list of numbers, however it lies. -/
def slB (v : AV) (r : Nat) : Prop := ∃ o n z, v = .sl r o n z
def ArgsV (H : Hp) (v : AV) (l : List Int) : Prop :=
  (v = .nilS ∧ l = []) ∨ (v = .lst (l.map fun n => [.int .i64 n])) ∨ ∃ r o cs imm tip, v = .sl r o l.length 1 ∧ H.get r = some (.cells cs imm tip) ∧ ∀ i, i < l.length → cs[o + i]? = some (.int .i64 (l.getD i 0))
theorem IntsR.argsV {H : Hp} {v : AV} {l : List Int} (h : IntsR H v l) : ArgsV H v l := by
  rcases h with h | ⟨r, h1, h2⟩
  · exact .inl h
  · exact .inr (.inr ⟨r, 0, _, _, _, h1, h2, fun i hi => by rw [Nat.zero_add]; exact ints_get hi⟩)
theorem ArgsV.at {P : Program} {H : Hp} {v : AV} {l : List Int} (h : ArgsV H v l) {t e : TypeId} {k : IntKind} (ht : P.underlying t = some (.slice e)) (he : P.underlying e = some (.int k)) (hs : sizeA P e = some 1) {i : Nat} (hi : i < l.length) :
    ∃ a, indexAddrA P t v (.int .i64 (i : Int)) = some a ∧ ∀ H' : Hp, (∀ r, slB v r → H'.get r = H.get r) → aload P H' e a = some (.int .i64 (l.getD i 0)) := by
  rcases h with ⟨_, rfl⟩ | rfl | ⟨r, o, cs, imm, tip, rfl, h2, h3⟩
  · simp at hi
  · refine ⟨_, index_lst ht hs (i := i) (row := [.int .i64 (l.getD i 0)]) ?_ rfl, fun H' _ => load_icy he rfl _⟩
    rw [List.getElem?_map, List.getElem?_eq_getElem hi, Option.map_some, List.getD_eq_getElem?_getD, List.getElem?_eq_getElem hi, Option.getD_some]
  · refine ⟨_, index_sl ht hs hi, fun H' hg => ?_⟩
    rw [load_one he rfl (by rw [hg r ⟨_, _, _, rfl⟩]; exact h2), Nat.mul_one]
    exact h3 i hi
theorem ArgsV.mono {H H' : Hp} {v : AV} {l : List Int} (h : ArgsV H v l) (hg : ∀ r, slB v r → H'.get r = H.get r) : ArgsV H' v l := by
  rcases h with h | h | ⟨r, o, cs, imm, tip, h1, h2, h3⟩
  · exact .inl h
  · exact .inr (.inl h)
  · exact .inr (.inr ⟨r, o, cs, imm, tip, h1, by rw [hg r ⟨_, _, _, h1⟩]; exact h2, h3⟩)
theorem ArgsV.len {P : Program} {H H' : Hp} {v : AV} {l : List Int} (h : ArgsV H v l) {t e : TypeId} (ht : P.underlying t = some (.slice e)) : lenAt P H' t v = some (.int .i64 l.length) := by
  rcases h with ⟨rfl, rfl⟩ | rfl | ⟨r, o, cs, imm, tip, rfl, _, _⟩
  · exact lenAt_nil ht
  · rw [lenAt_lst ht]; simp
  · exact lenAt_sl ht _ _ _ _
end Go.Ab
