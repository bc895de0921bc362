/- How a run's state lies in memory. -/
import Derived.Test.YtlanljjbcpepjaaSem6
namespace Go.Ab
set_option linter.unusedVariables false
open Go

/-- The numbers of the machine's blocks. -/
structure Mx where
  p : Pr
  rm : Nat
  rc : Nat
  rf : Nat
  rs : List Nat
  fi : List (Nm × Int)
def Mx.own (X : Mx) (r : Nat) : Prop := r = X.rm ∨ r ∈ X.rs
def mc (X : Mx) (s : MS) (ov : AV) : List AV := [.lst (X.p.arrays.map Ar.cells), .lst (X.p.funcs.map Fu.cells), .map X.rc, .map X.rf, .int .i64 s.fuel, .int .i64 s.fin, .int .i64 s.code, ov]
def OutR (X : Mx) (H : Hp) (ov : AV) (out : List Int) : Prop :=
  (ov = .nilS ∧ out = []) ∨ ∃ ro, ov = .sl ro 0 out.length 1 ∧ H.get ro = some (.cells (ints out) 0 true) ∧ ro < H.next ∧ ¬ X.own ro ∧ ro ≠ X.rc ∧ ro ≠ X.rf
structure RepM (X : Mx) (H : Hp) (s : MS) (ov : AV) : Prop where
  m : H.get X.rm = some (.cells (mc X s ov) 0 true)
  c : H.get X.rc = some (.map (cEs s.cells X.rs))
  f : H.get X.rf = some (.map (vEs X.fi))
  len : X.rs.length = s.cells.length
  cell : ∀ (j r : Nat) (nm : Nm) (l : List Int), X.rs[j]? = some r → s.cells[j]? = some (nm, l) → H.get r = some (.cells (ints l) 0 true)
  out : OutR X H ov s.out
  lm : X.rm < H.next
  lc : X.rc < H.next
  lf : X.rf < H.next
  ls : ∀ r ∈ X.rs, r < H.next
  mc' : X.rm ≠ X.rc
  mf : X.rm ≠ X.rf
  ms : X.rm ∉ X.rs
  cf : X.rc ≠ X.rf
  cs : X.rc ∉ X.rs
  fs : X.rf ∉ X.rs
  nd : X.rs.Nodup
/-- What an expression leaves alone. -/
structure FrE (X : Mx) (H H' : Hp) : Prop where
  next : H.next ≤ H'.next
  get : ∀ r, r < H.next → r ≠ X.rm → H'.get r = H.get r
theorem FrE.refl (X : Mx) (H : Hp) : FrE X H H := ⟨Nat.le_refl _, fun _ _ _ => rfl⟩
theorem FrE.trans {X : Mx} {a b c : Hp} (h : FrE X a b) (k : FrE X b c) : FrE X a c := ⟨Nat.le_trans h.next k.next, fun r h1 h2 => (k.get r (Nat.lt_of_lt_of_le h1 h.next) h2).trans (h.get r h1 h2)⟩
theorem FrE.alloc {X : Mx} {a b : Hp} (h : FrE X a b) (x : HB) : FrE X a (b.alloc x) := ⟨Nat.le_trans h.next (Nat.le_succ _), fun r h1 h2 => by
  have := h.next
  rw [Hp.get_alloc, if_neg (by omega)]; exact h.get r h1 h2⟩
theorem FrE.set {X : Mx} {a b : Hp} (h : FrE X a b) {r : Nat} (hr : r = X.rm ∨ a.next ≤ r) (x : HB) : FrE X a (b.set r x) := ⟨h.next, fun k h1 h2 => by
  rw [Hp.get_set, if_neg (by omega)]; exact h.get k h1 h2⟩

/-- What a store leaves alone. -/
structure FrA (X : Mx) (H H' : Hp) : Prop where
  next : H.next ≤ H'.next
  get : ∀ r, r < H.next → ¬ X.own r → H'.get r = H.get r
theorem FrE.toA {X : Mx} {H H' : Hp} (h : FrE X H H') : FrA X H H' := ⟨h.next, fun r h1 h2 => h.get r h1 fun e => h2 (.inl e)⟩
theorem FrA.refl (X : Mx) (H : Hp) : FrA X H H := ⟨Nat.le_refl _, fun _ _ _ => rfl⟩
theorem FrA.trans {X : Mx} {a b c : Hp} (h : FrA X a b) (k : FrA X b c) : FrA X a c := ⟨Nat.le_trans h.next k.next, fun r h1 h2 => (k.get r (Nat.lt_of_lt_of_le h1 h.next) h2).trans (h.get r h1 h2)⟩
theorem trapM_fin (c : Int) (s : MS) : (trapM c s).fin ≠ 0 := by
  unfold trapM
  split
  · simp
  · assumption
theorem storeM_bad {nm : Nm} {a v : Int} {s : MS} (h : a < 0 ∨ ((lkC s.cells nm).length : Int) ≤ a) : storeM nm a v s = trapM 2 s := by
  have hb : badAt a (lkC s.cells nm) = true := by simp only [badAt, Bool.or_eq_true, decide_eq_true_eq]; exact h
  simp only [storeM, hb, if_true]
  rw [if_neg (trapM_fin 2 s)]
theorem storeM_ok {nm : Nm} {a v : Int} {s : MS} (h : 0 ≤ a) (h2 : a < (lkC s.cells nm).length) : storeM nm a v s = if s.fin = 0 then { s with cells := setC s.cells nm a.toNat v } else s := by
  have hb : badAt a (lkC s.cells nm) = false := by simp only [badAt, Bool.or_eq_false_iff, decide_eq_false_iff_not]; omega
  simp only [storeM, hb, Bool.false_eq_true, if_false]

theorem OutR.mono {X : Mx} {H H' : Hp} {ov : AV} {out : List Int} (h : OutR X H ov out) (hn : H.next ≤ H'.next) (hg : ∀ r, r < H.next → r ≠ X.rm → H'.get r = H.get r) : OutR X H' ov out := by
  rcases h with h | ⟨ro, h1, h2, h3, h4, h5, h6⟩
  · exact .inl h
  · exact .inr ⟨ro, h1, by rw [hg ro h3 (fun e => h4 (.inl e))]; exact h2, Nat.lt_of_lt_of_le h3 hn, h4, h5, h6⟩

theorem RepM.upd {X : Mx} {H H' : Hp} {s s' : MS} {ov : AV} (h : RepM X H s ov) (fr : FrE X H H') (hm : H'.get X.rm = some (.cells (mc X s' ov) 0 true)) (hc : s'.cells = s.cells) (ho : s'.out = s.out) : RepM X H' s' ov where
  m := hm
  c := by rw [fr.get _ h.lc h.mc'.symm, hc]; exact h.c
  f := by rw [fr.get _ h.lf h.mf.symm]; exact h.f
  len := by rw [hc]; exact h.len
  cell j r nm l h1 h2 := by
    have hr := List.mem_of_getElem? h1
    rw [fr.get _ (h.ls r hr) (fun e => h.ms (e ▸ hr))]
    exact h.cell j r nm l h1 (hc ▸ h2)
  out := by rw [ho]; exact h.out.mono fr.next fr.get
  lm := Nat.lt_of_lt_of_le h.lm fr.next
  lc := Nat.lt_of_lt_of_le h.lc fr.next
  lf := Nat.lt_of_lt_of_le h.lf fr.next
  ls r hr := Nat.lt_of_lt_of_le (h.ls r hr) fr.next
  mc' := h.mc'
  mf := h.mf
  ms := h.ms
  cf := h.cf
  cs := h.cs
  fs := h.fs
  nd := h.nd
theorem RepM.same {X : Mx} {H H' : Hp} {s : MS} {ov : AV} (h : RepM X H s ov) (hn : H.next ≤ H'.next) (hg : ∀ r, r < H.next → H'.get r = H.get r) : RepM X H' s ov :=
  h.upd ⟨hn, fun r h1 _ => hg r h1⟩ (by rw [hg _ h.lm]; exact h.m) rfl rfl
theorem RepM.alloc {X : Mx} {H : Hp} {s : MS} {ov : AV} (h : RepM X H s ov) (b : HB) : RepM X (H.alloc b) s ov :=
  h.same (Nat.le_succ _) fun r hr => by rw [Hp.get_alloc, if_neg (by omega)]

/-- What a look-up of an array gives. -/
def CellV (X : Mx) (s : MS) (nm : Nm) (lv : AV) : Prop :=
  (lv = .nilS ∧ lkC s.cells nm = [] ∧ ∀ k x, setC s.cells nm k x = s.cells) ∨ ∃ j r nm', X.rs[j]? = some r ∧ s.cells[j]? = some (nm', lkC s.cells nm) ∧ lv = .sl r 0 (lkC s.cells nm).length 1 ∧ ∀ k x, setC s.cells nm k x = s.cells.set j (nm', (lkC s.cells nm).set k x)

theorem lookup_map {P : Program} {H : Hp} {t kt e r : Nat} {es : List (AV × AV)} {nm : Nm} {z : AV} (ht : P.underlying t = some (.map kt e)) (hk : keyKind P kt = some .string) (hz : zeroV P e = some z) (hg : H.get r = some (.map es)) :
    (findA .string (.str nm) es 0 = some none → lookupA P H t (.map r) (.str nm) false = some z) ∧ ∀ i v, findA .string (.str nm) es 0 = some (some (i, v)) → lookupA P H t (.map r) (.str nm) false = some v := by
  refine ⟨fun h => ?_, fun i v h => ?_⟩ <;> simp only [lookupA, ht, hk, hz, entriesA, hg, h, okOr]
theorem update_map {P : Program} {H : Hp} {t kt e r : Nat} {es : List (AV × AV)} {nm : Nm} {x : AV} (ht : P.underlying t = some (.map kt e)) (hk : keyKind P kt = some .string) (hg : H.get r = some (.map es)) :
    (findA .string (.str nm) es 0 = some none → mapUpdateA P H t (.map r) (.str nm) x = some (H.set r (.map (es ++ [(.str nm, x)])))) ∧ ∀ i v, findA .string (.str nm) es 0 = some (some (i, v)) → mapUpdateA P H t (.map r) (.str nm) x = some (H.set r (.map (es.set i (.str nm, x)))) := by
  refine ⟨fun h => ?_, fun i v h => ?_⟩ <;> simp only [mapUpdateA, ht, hk, hg, h]

theorem RepM.look {P : Program} {X : Mx} {H : Hp} {s : MS} {ov : AV} (h : RepM X H s ov) {t kt e : Nat} (ht : P.underlying t = some (.map kt e)) (hk : keyKind P kt = some .string) (hz : zeroV P e = some .nilS) (nm : Nm) :
    ∃ lv, lookupA P H t (.map X.rc) (.str nm) false = some lv ∧ CellV X s nm lv := by
  obtain ⟨l1, l2⟩ := lookup_map (nm := nm) ht hk hz h.c
  rcases find_cEs nm s.cells X.rs 0 h.len with ⟨h1, h2, h3⟩ | ⟨j, r, nm', h1, h2, h3, h4⟩
  · exact ⟨_, l1 h1, .inl ⟨rfl, h2, h3⟩⟩
  · exact ⟨_, l2 _ _ h3, .inr ⟨j, r, nm', h1, h2, rfl, h4⟩⟩
/-- A map of numbers. -/
theorem look_vEs {P : Program} {H : Hp} {t kt e r : Nat} (ht : P.underlying t = some (.map kt e)) (hk : keyKind P kt = some .string) (hz : zeroV P e = some (.int .i64 0)) {vs : List (Nm × Int)} (hg : H.get r = some (.map (vEs vs))) (nm : Nm) :
    lookupA P H t (.map r) (.str nm) false = some (.int .i64 (lkV vs nm)) := by
  obtain ⟨l1, l2⟩ := lookup_map (nm := nm) ht hk hz hg
  rcases find_vEs nm vs 0 with ⟨h1, h2, h3⟩ | ⟨j, hj, h1, h3⟩
  · rw [l1 h1, h2]
  · rw [l2 _ _ h1]
theorem upd_vEs {P : Program} {H : Hp} {t kt e r : Nat} (ht : P.underlying t = some (.map kt e)) (hk : keyKind P kt = some .string) {vs : List (Nm × Int)} (hg : H.get r = some (.map (vEs vs))) (nm : Nm) (x : Int) :
    mapUpdateA P H t (.map r) (.str nm) (.int .i64 x) = some (H.set r (.map (vEs (setV vs nm x)))) := by
  obtain ⟨l1, l2⟩ := update_map (nm := nm) (x := .int .i64 x) ht hk hg
  rcases find_vEs nm vs 0 with ⟨h1, h2, h3⟩ | ⟨j, hj, h1, h3⟩
  · rw [l1 h1, h3]
  · rw [l2 _ _ h1, h3, Nat.zero_add]

theorem ints_set (l : List Int) (k : Nat) (x : Int) : ints (l.set k x) = (ints l).set k (.int .i64 x) := by simp [ints, List.map_set]
theorem splice_at (cs : List AV) (k : Nat) (v : AV) (h : k < cs.length) : splice cs k [v] = cs.set k v := by
  unfold splice
  rw [List.set_eq_take_append_cons_drop, if_pos h]
  simp
/-- A cell of an array is set. -/
theorem RepM.cellSet {X : Mx} {H : Hp} {s : MS} {ov : AV} (h : RepM X H s ov) {j r : Nat} {nm : Nm} {l l' : List Int} (hr : X.rs[j]? = some r) (hc : s.cells[j]? = some (nm, l)) (hl : l'.length = l.length) :
    RepM X (H.set r (.cells (ints l') 0 true)) { s with cells := s.cells.set j (nm, l') } ov := by
  have hrm := List.mem_of_getElem? hr
  have hjl : j < X.rs.length := (List.getElem?_eq_some_iff.1 hr).1
  have nr : ∀ k, k ≠ r → (H.set r (.cells (ints l') 0 true)).get k = H.get k := fun k hk => by rw [Hp.get_set, if_neg hk]
  refine { m := ?_, c := ?_, f := ?_, len := ?_, cell := ?_, out := ?_, lm := h.lm, lc := h.lc, lf := h.lf, ls := h.ls, mc' := h.mc', mf := h.mf, ms := h.ms, cf := h.cf, cs := h.cs, fs := h.fs, nd := h.nd }
  · rw [nr _ (fun e => h.ms (by rw [e]; exact hrm))]; exact h.m
  · rw [nr _ (fun e => h.cs (by rw [e]; exact hrm)), cEs_set _ _ _ _ _ _ hc hl]; exact h.c
  · rw [nr _ (fun e => h.fs (by rw [e]; exact hrm))]; exact h.f
  · simp [h.len]
  · intro j' r' nm' l2 h1 h2
    by_cases hj : j' = j
    · subst hj
      rw [hr] at h1
      simp only [Option.some.injEq] at h1
      subst h1
      rw [List.getElem?_set_self (by rw [← h.len]; exact hjl)] at h2
      simp only [Option.some.injEq, Prod.mk.injEq] at h2
      rw [Hp.get_set, if_pos rfl, h2.2]
    · rw [List.getElem?_set_ne (fun e => hj e.symm)] at h2
      rw [nr _ (fun e => ?_)]
      · exact h.cell j' r' nm' l2 h1 h2
      · subst e
        exact hj ((List.getElem?_inj (by exact (List.getElem?_eq_some_iff.1 h1).1) h.nd).1 (h1.trans hr.symm))
  · rcases h.out with h1 | ⟨ro, h1, h2, h3, h4, h5, h6⟩
    · exact .inl h1
    · exact .inr ⟨ro, h1, by rw [nr _ (fun e => h4 (.inr (by rw [e]; exact hrm)))]; exact h2, h3, h4, h5, h6⟩
theorem take_set {l : List Int} {k : Nat} (h : k < l.length) (v : Int) : (ints l).take k ++ (.int .i64 v :: (ints l).drop (k + 1)) = ints (l.set k v) := by
  rw [ints_set, List.set_eq_take_append_cons_drop, if_pos (by rw [ints_len]; exact h)]
theorem CellV.len {P : Program} {X : Mx} {s : MS} {nm : Nm} {lv : AV} (h : CellV X s nm lv) {H : Hp} {t e : TypeId} (ht : P.underlying t = some (.slice e)) : lenAt P H t lv = some (.int .i64 (lkC s.cells nm).length) := by
  rcases h with ⟨rfl, h2, _⟩ | ⟨j, r, nm', _, _, rfl, _⟩
  · rw [h2]; exact lenAt_nil ht
  · exact lenAt_sl ht _ _ _ _
theorem lookup_congr {P : Program} {H H' : Hp} {r : Nat} (h : H'.get r = H.get r) (t : TypeId) (k : AV) (ok : Bool) : lookupA P H' t (.map r) k ok = lookupA P H t (.map r) k ok := by
  simp only [lookupA, entriesA, h]
theorem ints_get {l : List Int} {k : Nat} (h : k < l.length) : (ints l)[k]? = some (.int .i64 (l.getD k 0)) := by
  simp only [ints, List.getElem?_map, List.getElem?_eq_getElem h, Option.map_some, List.getD_eq_getElem?_getD, Option.getD_some]
theorem beq_ne {a b : Nat} (h : a ≠ b) : (a == b) = false := by simpa using h
end Go.Ab
