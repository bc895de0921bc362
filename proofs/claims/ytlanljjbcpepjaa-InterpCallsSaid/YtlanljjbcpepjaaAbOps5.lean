/- Operations, on: len, min, max, maps, conversions; all operations under one statement. -/
import Derived.Test.YtlanljjbcpepjaaAbOps4
namespace Go.Ab
open Go Go.RowKit

section
variable {P : Program} {B : Bs} {G : Gh} {H H' : Hp} {w : World}

theorem sz_toList (sv : ByteArray) : sv.data.toList.length = sv.size := by show sv.data.toList.length = sv.data.size; simp

/-- A map's entries. -/
theorem entries_sim (h : R B H w G) {m : AV} {mv : Value} {es : List (AV × AV)} (hm : VR G m mv) (he : entriesA H m = some es) :
    (mv = .map none ∧ es = []) ∨ ∃ r b o x ms clock, m = .map r ∧ mv = .map (some b) ∧ G.β r = some (b, o, x) ∧ H.get r = some (.map es) ∧ w.heap[b]? = some (.map ms clock) ∧ Ents G es ms.toList := by
  unfold entriesA at he
  split at he
  · simp only [Option.some.injEq] at he
    subst he
    cases hm
    exact .inl ⟨rfl, rfl⟩
  · rename_i r
    split at he
    · rename_i es' hg
      simp only [Option.some.injEq] at he
      subst he
      cases hm with
      | map hr =>
        rename_i b o x
        obtain ⟨ms, clock, h1, h2⟩ := h.map r b o x _ hr hg
        exact .inr ⟨r, b, o, x, ms, clock, rfl, rfl, hr, hg, h1, h2⟩
    · simp at he
  · simp at he

theorem run_getMap {b : Nat} {ms : Array MapEntry} {clock : Nat} (h : w.heap[b]? = some (.map ms clock)) : (getObj b).run P w = .ok (.map ms clock) w := by
  simp [getObj, Sem.run, h]

theorem len_sim (h : R B H w G) {t ty : TypeId} {x c : AV} {xv : Value} (hx : VR G x xv) (hl : lenAt P H t x = some c) : ∃ v, (Builtin.len_ #[t] ty #[xv]).run P w = .ok v w ∧ VR G c v := by
  unfold lenAt at hl
  split at hl
  · rename_i hd
    split at hl
    · simp only [Option.some.injEq] at hl
      subst hl
      cases hx with
      | str sv _ hs =>
        subst hs
        refine ⟨_, ?_, .int _ _⟩
        rw [sz_toList]
        simp [Builtin.len_, run_und hd, goInt]
    · simp at hl
  · rename_i e hd
    split at hl
    · simp only [Option.some.injEq] at hl
      subst hl
      cases hx
      exact ⟨_, by simp [Builtin.len_, run_und hd, goInt], .int _ _⟩
    · simp only [Option.some.injEq] at hl
      subst hl
      cases hx
      · exact ⟨_, by simp [Builtin.len_, run_und hd, goInt], .int _ _⟩
      · exact ⟨_, by simp [Builtin.len_, run_und hd, goInt], .int _ _⟩
    · simp only [Option.some.injEq] at hl
      subst hl
      cases hx
      exact ⟨_, by simp [Builtin.len_, run_und hd, goInt], .int _ _⟩
    · simp at hl
  · rename_i n e hd
    simp only [Option.some.injEq] at hl
    subst hl
    refine ⟨.int .i64 n, ?_, .int _ _⟩
    simp only [Builtin.len_]
    simp [run_und hd, goInt]
  · rename_i kt e hd
    split at hl
    · rename_i es he
      simp only [Option.some.injEq] at hl
      subst hl
      rcases entries_sim h hx he with ⟨rfl, rfl⟩ | ⟨r, b, o, xx, ms, clock, rfl, rfl, hr, hg, hw, hes⟩
      · exact ⟨_, by simp [Builtin.len_, run_und hd, goInt], .int _ _⟩
      · refine ⟨.int .i64 es.length, ?_, .int _ _⟩
        have : ms.size = es.length := by have := hes.1; simpa using this.symm
        simp [Builtin.len_, run_und hd, run_getMap hw, goInt, this]
    · simp at hl
  · simp at hl

theorem mm_sim {mx : Bool} {x y c : AV} {xv yv : Value} (hx : VR G x xv) (hy : VR G y yv) (h : mm mx x y = some c) : ∃ v, ((if mx then Builtin.max2 else Builtin.min2) xv yv).run P w = .ok v w ∧ VR G c v := by
  unfold mm at h
  split at h
  · simp only [Option.some.injEq] at h
    subst h
    cases hx; cases hy
    cases mx
    · refine ⟨_, rfl, ?_⟩
      simp only [Bool.false_eq_true, if_false, decide_eq_true_eq]
      exact .int _ _
    · refine ⟨_, rfl, ?_⟩
      simp only [if_true, decide_eq_true_eq]
      exact .int _ _
  · simp at h

theorem mms_sim {mx : Bool} : ∀ {xs : List AV} {xvs : List Value} {x c : AV} {xv : Value}, VR G x xv → VRs G xs xvs → mms mx x xs = some c →
    ∃ v, (xvs.foldlM (if mx then Builtin.max2 else Builtin.min2) xv).run P w = .ok v w ∧ VR G c v
  | [], xvs, x, c, xv, hx, hxs, h => by
    simp only [mms, Option.some.injEq] at h
    subst h
    have : xvs = [] := by have := hxs.1; simpa using this.symm
    subst this
    exact ⟨xv, rfl, hx⟩
  | y :: ys, [], _, _, _, _, hxs, _ => by have := hxs.1; simp at this
  | y :: ys, yv :: yvs, x, c, xv, hx, hxs, h => by
    obtain ⟨h1, h2⟩ := hxs.of_cons
    simp only [mms] at h
    split at h
    · rename_i z hz
      obtain ⟨zv, g1, g2⟩ := mm_sim (P := P) (w := w) hx h1 hz
      obtain ⟨v, k1, k2⟩ := mms_sim g2 h2 h
      exact ⟨v, by rw [List.foldlM_cons, Sem.run_bind, g1]; exact k1, k2⟩
    · simp at h

theorem keyKind_some {t : TypeId} {d : TypeDesc} (h : keyKind P t = some d) : P.underlying t = some d ∧ ((∃ k, d = .int k) ∨ d = .string ∨ d = .bool) := by
  unfold keyKind at h
  split at h <;> simp only [Option.some.injEq, reduceCtorEq] at h <;> subst h
  · rename_i k hd; exact ⟨hd, .inl ⟨k, rfl⟩⟩
  · rename_i hd; exact ⟨hd, .inr (.inl rfl)⟩
  · rename_i hd; exact ⟨hd, .inr (.inr rfl)⟩

theorem key_sim {d : TypeDesc} {x y : AV} {xv yv : Value} {r : Bool} (hx : VR G x xv) (hy : VR G y yv) (h : keyA d x y = some r) : Instr.sameNow d xv yv = some r := by
  unfold keyA at h
  split at h
  · split at h
    · cases hx; cases hy; exact h
    · simp at h
  · split at h
    · cases hx with
      | str a _ ha => cases hy with
        | str b _ hb =>
          subst ha hb
          simp only [Option.some.injEq] at h
          subst h
          simp only [Instr.sameNow, Option.some.injEq]
          show (a.data == b.data) = (a.data.toList == b.data.toList)
          rw [Bool.eq_iff_iff]
          simp only [beq_iff_eq, Array.toList_inj]
    · simp at h
  · split at h
    · cases hx; cases hy; exact h
    · simp at h
  · simp at h

theorem find_sim {d : TypeDesc} {k : AV} {kv : Value} (hk : VR G k kv) : ∀ {es : List (AV × AV)} {ms : List MapEntry} {i : Nat}, Ents G es ms →
    (findA d k es i = some none → Instr.findNow d kv ms i = some none) ∧
    (∀ j v, findA d k es i = some (some (j, v)) → ∃ k' m, es[j - i]? = some (k', v) ∧ ms[j - i]? = some m ∧ i ≤ j ∧ keyA d k k' = some true ∧ Instr.findNow d kv ms i = some (some (j, m.val)))
  | [], ms, i, he => by
    have : ms = [] := by have := he.1; simpa using this.symm
    subst this
    exact ⟨fun _ => rfl, fun j v h => by simp [findA] at h⟩
  | e :: es, [], i, he => by have := he.1; simp at this
  | (k', v') :: es, m :: ms, i, he => by
    obtain ⟨h1, h2⟩ := he.2 0 (k', v') m rfl rfl
    have he' : Ents G es ms := ⟨by simpa using he.1, fun j a b ha hb => he.2 (j + 1) a b (by simpa using ha) (by simpa using hb)⟩
    obtain ⟨r1, r2⟩ := find_sim (d := d) hk (i := i + 1) he'
    constructor
    · intro h
      simp only [findA] at h
      split at h
      · simp at h
      · rename_i hf
        have := key_sim hk h1 hf
        simp only [Instr.findNow, this]
        exact r1 h
      · simp at h
    · intro j v h
      simp only [findA] at h
      split at h
      · rename_i hf
        simp only [Option.some.injEq, Prod.mk.injEq] at h
        obtain ⟨rfl, rfl⟩ := h
        have := key_sim hk h1 hf
        exact ⟨k', m, by simp, by simp, Nat.le_refl _, hf, by simp only [Instr.findNow, this]⟩
      · rename_i hf
        have := key_sim hk h1 hf
        obtain ⟨k2, m2, g1, g2, g3, g4, g5⟩ := r2 j v h
        have e1 : j - i = (j - (i + 1)) + 1 := by omega
        refine ⟨k2, m2, by rw [e1]; simpa using g1, by rw [e1]; simpa using g2, by omega, g4, ?_⟩
        simp only [Instr.findNow, this]
        exact g5
      · simp at h

theorem run_checkKey' (n : Nat) {kt : TypeId} {d : TypeDesc} (hd : keyKind P kt = some d) (e : Bool) (kv : Value) : (Instr.checkKey e (n + 1) kt kv).run P w = .ok () w := by
  obtain ⟨h1, h2⟩ := keyKind_some hd
  simp only [Instr.checkKey, Sem.run_bind, run_und h1, Result.andThen_ok]
  rcases h2 with ⟨k, rfl⟩ | rfl | rfl <;> rfl

theorem run_checkKey {kt : TypeId} {d : TypeDesc} (hd : keyKind P kt = some d) (e : Bool) (kv : Value) : (Instr.checkKey e 10000 kt kv).run P w = .ok () w := run_checkKey' 9999 hd e kv

theorem run_findKey {kt : TypeId} {d : TypeDesc} (hd : P.underlying kt = some d) {kv : Value} {ms : List MapEntry} {r : Option (Nat × Value)} (h : Instr.findNow d kv ms 0 = some r) : (Instr.findKey kt kv ms).run P w = .ok r w := by
  simp [Instr.findKey, run_und hd, h]

theorem run_lookup {t kt e : TypeId} {d : TypeDesc} (hd : P.underlying t = some (.map kt e)) (hk : keyKind P kt = some d) {mv kv : Value} {ok : Bool} {ms : Array MapEntry}
    (hm : (mv = .map none ∧ ms = #[]) ∨ ∃ b clock, mv = .map (some b) ∧ w.heap[b]? = some (.map ms clock)) :
    (∀ j v, Instr.findNow d kv ms.toList 0 = some (some (j, v)) → (Instr.lookup t mv kv ok).run P w = .ok (if ok then .tuple #[v, .bool true] else v) w) ∧
    (∀ zv, (zeroValue e).run P w = .ok zv w → Instr.findNow d kv ms.toList 0 = some none → (Instr.lookup t mv kv ok).run P w = .ok (if ok then .tuple #[zv, .bool false] else zv) w) := by
  have hkd := (keyKind_some hk).1
  rcases hm with ⟨rfl, rfl⟩ | ⟨b, clock, rfl, hw⟩
  · refine ⟨fun j v hf => by simp [Instr.findNow] at hf, fun zv hz hf => ?_⟩
    have hfk := run_findKey (P := P) (w := w) hkd hf
    simp only [Instr.lookup, Sem.run_bind, run_und hd, Result.andThen_ok, Sem.run_pure, run_checkKey hk, hfk, hz]
  · refine ⟨fun j v hf => ?_, fun zv hz hf => ?_⟩
    · have hfk := run_findKey (P := P) (w := w) hkd hf
      simp only [Instr.lookup, Sem.run_bind, run_und hd, Result.andThen_ok, run_getMap hw, Sem.run_pure, run_checkKey hk, hfk]
    · have hfk := run_findKey (P := P) (w := w) hkd hf
      simp only [Instr.lookup, Sem.run_bind, run_und hd, Result.andThen_ok, run_getMap hw, Sem.run_pure, run_checkKey hk, hfk, hz]

theorem lookup_sim (h : R B H w G) {t : TypeId} {m k c : AV} {mv kv : Value} {ok : Bool} (hm : VR G m mv) (hk : VR G k kv) (hl : lookupA P H t m k ok = some c) :
    ∃ v, (Instr.lookup t mv kv ok).run P w = .ok v w ∧ VR G c v := by
  unfold lookupA at hl
  split at hl
  · rename_i kt e hd
    split at hl
    · rename_i es kind hes hkind
      obtain ⟨ms, hms, hE⟩ : ∃ ms : Array MapEntry, ((mv = .map none ∧ ms = #[]) ∨ ∃ b clock, mv = .map (some b) ∧ w.heap[b]? = some (.map ms clock)) ∧ Ents G es ms.toList := by
        rcases entries_sim h hm hes with ⟨rfl, rfl⟩ | ⟨r, b, o, xx, ms, clock, rfl, rfl, hr, hg, hw, he⟩
        · exact ⟨#[], .inl ⟨rfl, rfl⟩, rfl, by simp⟩
        · exact ⟨ms, .inr ⟨b, clock, rfl, hw⟩, he⟩
      obtain ⟨f1, f2⟩ := find_sim (d := kind) hk (i := 0) hE
      obtain ⟨r1, r2⟩ := run_lookup (kv := kv) (ok := ok) hd hkind hms
      split at hl
      · rename_i j v hf
        simp only [Option.some.injEq] at hl
        subst hl
        obtain ⟨k', m', g1, g2, _, _, g5⟩ := f2 j v hf
        have hv := (hE.2 _ _ _ g1 g2).2
        refine ⟨_, r1 _ _ g5, ?_⟩
        cases ok
        · exact hv
        · exact .tup (vs := [m'.val, .bool true]) rfl (VRs.cons hv (VRs.cons (.bool true) (VRs.nil _))).2
      · rename_i hf
        split at hl
        · rename_i v hv
          simp only [Option.some.injEq] at hl
          subst hl
          obtain ⟨zv, z1, z2⟩ := zeroV_run hv
          refine ⟨_, r2 _ (z1 w) (f1 hf), ?_⟩
          cases ok
          · exact z2 G
          · exact .tup (vs := [zv, .bool false]) rfl (VRs.cons (z2 G) (VRs.cons (.bool false) (VRs.nil _))).2
        · simp at hl
      · simp at hl
    · simp at hl
  · simp at hl

end
end Go.Ab
