/- A run's start and end on plain data. -/
import Derived.Test.YtlanljjbcpepjaaRep6b
namespace Go.Ab
set_option linter.unusedVariables false
open Go

def zeroC (l : List Ar) : List (Nm × List Int) := l.map fun a => (a.name, List.replicate a.len.toNat 0)
def fnIx : List Fu → Nat → List (Nm × Int) → List (Nm × Int)
  | [], _, m => m
  | f :: l, i, m => fnIx l (i + 1) (setV m f.name i)
def hasV : List (Nm × Int) → Nm → Bool
  | [], _ => false
  | p :: l, nm => if nm = p.1 then true else hasV l nm
structure Oc where
  kind : Int
  code : Int
  out : List Int
  value : Int
def endM (r : Int × MS) : Oc := if r.2.fin = 2 then ⟨2, r.2.code, r.2.out, 0⟩ else if r.2.fin = 3 then ⟨3, 0, r.2.out, 0⟩ else ⟨1, 0, r.2.out, r.1⟩
def startM (p : Pr) (fuel : Int) : MS := ⟨fuel, 0, 0, zeroC p.arrays, []⟩
def OcV (H : Hp) (v : AV) (o : Oc) : Prop := ∃ ov, v = .agg [.int .i64 o.kind, .int .i64 o.code, ov, .int .i64 o.value] ∧ IntsR H ov o.out ∧ ∀ k, slB ov k → k < H.next

theorem endM_out (r : Int × MS) : (endM r).out = r.2.out := by unfold endM; split <;> (try split) <;> rfl
theorem endM_kind (r : Int × MS) : (endM r).kind = if r.2.fin = 2 then 2 else if r.2.fin = 3 then 3 else 1 := by unfold endM; split <;> (try split) <;> rfl
theorem find_has (nm : Nm) : ∀ (vs : List (Nm × Int)) (i : Nat), (hasV vs nm = false → findA .string (.str nm) (vEs vs) i = some none ∧ lkV vs nm = 0) ∧ (hasV vs nm = true → ∃ j, findA .string (.str nm) (vEs vs) i = some (some (j, .int .i64 (lkV vs nm))))
  | [], i => ⟨fun _ => ⟨rfl, rfl⟩, fun h => by simp [hasV] at h⟩
  | p :: l, i => by
    by_cases h : nm = p.1
    · refine ⟨fun h2 => by simp [hasV, h] at h2, fun _ => ⟨i, ?_⟩⟩
      simp [vEs, findA, keyA, lkV, h]
    · have hf : findA .string (.str nm) (vEs (p :: l)) i = findA .string (.str nm) (vEs l) (i + 1) := by
        show findA .string (.str nm) ((.str p.1, .int .i64 p.2) :: vEs l) i = _
        have : (nm == p.1) = false := by simpa using h
        simp [findA, keyA, this]
      have hl : lkV (p :: l) nm = lkV l nm := by simp [lkV, h]
      have hh : hasV (p :: l) nm = hasV l nm := by simp [hasV, h]
      rw [hf, hl, hh]
      exact find_has nm l (i + 1)
theorem look_ok {P : Program} {H : Hp} {t kt e r : Nat} (ht : P.underlying t = some (.map kt e)) (hk : keyKind P kt = some .string) (hz : zeroV P e = some (.int .i64 0)) {vs : List (Nm × Int)} (hg : H.get r = some (.map (vEs vs))) (nm : Nm) :
    lookupA P H t (.map r) (.str nm) true = some (.tup [.int .i64 (lkV vs nm), .bool (hasV vs nm)]) := by
  obtain ⟨h1, h2⟩ := find_has nm vs 0
  cases hh : hasV vs nm with
  | false =>
    obtain ⟨g1, g2⟩ := h1 hh
    simp only [lookupA, ht, hk, hz, entriesA, hg, g1, okOr, g2]
  | true =>
    obtain ⟨j, g1⟩ := h2 hh
    simp only [lookupA, ht, hk, entriesA, hg, g1, okOr]

theorem find_new (nm : Nm) : ∀ (cs : List (Nm × List Int)) (rs : List Nat) (i : Nat), nm ∉ cs.map (·.1) → findA .string (.str nm) (cEs cs rs) i = some none
  | [], _, _, _ => rfl
  | _ :: _, [], _, _ => rfl
  | p :: l, r :: rs, i, h => by
    simp only [List.map_cons, List.mem_cons, not_or] at h
    show findA .string (.str nm) ((.str p.1, .sl r 0 p.2.length 1) :: cEs l rs) i = _
    have : (nm == p.1) = false := by simpa using h.1
    simp only [findA, keyA, this]
    exact find_new nm l rs (i + 1) h.2
theorem cEs_snoc : ∀ (cs : List (Nm × List Int)) (rs : List Nat) (c : Nm × List Int) (r : Nat), rs.length = cs.length → cEs (cs ++ [c]) (rs ++ [r]) = cEs cs rs ++ [(.str c.1, .sl r 0 c.2.length 1)]
  | [], [], _, _, _ => rfl
  | [], _ :: _, _, _, h => by simp at h
  | _ :: _, [], _, _, h => by simp at h
  | p :: l, q :: rs, c, r, h => by
    simp only [List.cons_append, cEs]
    rw [cEs_snoc l rs c r (by simpa using h)]

theorem rep_zero (n : Nat) : rep [.int .i64 0] n = ints (List.replicate n 0) := by
  induction n with
  | zero => rfl
  | succ n ih => simp only [rep, ih]; simp [ints, List.replicate_succ]
theorem make_ints {P : Program} {H : Hp} {t e : TypeId} (ht : P.underlying t = some (.slice e)) (hs : sizeA P e = some 1) (hb : bytesA P e = some 8) (hz : zeroA P e = some [.int .i64 0]) {n : Int} (h0 : 0 ≤ n) (h1 : n < 2 ^ 40) :
    makeSliceA P H t (.int .i64 n) (.int .i64 n) = some (.sl H.next 0 n.toNat 1, H.alloc (.cells (ints (List.replicate n.toNat 0)) 0 true)) := by
  obtain ⟨m, rfl⟩ := Int.eq_ofNat_of_zero_le h0
  have hm : maxRoom = 70368744177664 := rfl
  show makeSliceA P H t (.int .i64 (Int.ofNat m)) (.int .i64 (Int.ofNat m)) = _
  simp only [makeSliceA, ht, hs, hb, hz]
  rw [if_pos ⟨Nat.le_refl _, by rw [hm]; omega, by rw [hm]; omega, rfl⟩, rep_zero]
  rfl
end Go.Ab
