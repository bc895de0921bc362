/- Parts: Rd. -/
import Derived.Test.YtjkmbpieknaekaaICQ
set_option linter.unusedSimpArgs false
set_option linter.unusedVariables false
set_option linter.unusedSectionVars false
set_option linter.defProp false
namespace Go.Proofs.Ytjkmbpieknaekaa
set_option maxRecDepth 20000
set_option linter.unusedSimpArgs false
set_option linter.unusedVariables false
set_option linter.unusedSectionVars false
set_option linter.defProp false
open Go Go.Ab
noncomputable def lookB : List (Nat × List AV) → Nat → Option (List AV)
  | [], _ => none
  | p :: l, r => bsel (Nat.beq p.1 r) (some p.2) (lookB l r)
def rdLs (g : AV → Option AV) : List AV → Option (List AV)
  | [] => some []
  | c :: cs => match g c, rdLs g cs with
    | some d, some ds => some (d :: ds)
    | _, _ => none
noncomputable def rdB (bl : List (Nat × List AV)) : Nat → AV → Option AV
  | 0, _ => none
  | n + 1, v => match v with
    | .sl r off len z => match lookB bl r with
      | some cs => match Nat.ble (off + len * z) cs.length with
        | true => match rdLs (rdB bl n) ((cs.drop off).take (len * z)) with
          | some l => some (.lst (chunk z len l))
          | none => none
        | false => none
      | none => none
    | .agg cs => match rdLs (rdB bl n) cs with
      | some l => some (.agg l)
      | none => none
    | .int k x => some (.int k x)
    | .str s => some (.str s)
    | .bool b => some (.bool b)
    | .nilS => some (.lst [])
    | _ => none
/-- The blocks of the list lie in memory so. -/
def BlkIn (S : Nat → Prop) (H : Hp) (bl : List (Nat × List AV)) : Prop := ∀ r cs, lookB bl r = some cs → S r ∧ r < H.next ∧ ∃ imm tip, H.get r = some (.cells cs imm tip) ∧ imm ≤ cs.length
theorem BlkIn.nil {S : Nat → Prop} {H : Hp} : BlkIn S H [] := fun r cs h => by simp [lookB] at h
theorem BlkIn.cons {S : Nat → Prop} {H : Hp} {q : Nat} {cs : List AV} {tip : Bool} {bl : List (Nat × List AV)} (hS : S q) (hq : q < H.next) (hg : H.get q = some (.cells cs 0 tip)) (h : BlkIn S H bl) : BlkIn S H ((q, cs) :: bl) := fun r ds e => by
  rw [lookB] at e
  cases hb : Nat.beq q r with
  | true =>
    rw [hb] at e
    have e : some cs = some ds := e
    cases e
    rw [← Nat.eq_of_beq_eq_true hb]
    exact ⟨hS, hq, 0, tip, hg, Nat.zero_le _⟩
  | false =>
    rw [hb] at e
    exact h r ds e
theorem chunk_map (f : AV → AV) (z : Nat) : ∀ (n : Nat) (l : List AV), (chunk z n l).map (List.map f) = chunk z n (l.map f)
  | 0, _ => rfl
  | n + 1, l => by rw [chunk, chunk, List.map_cons, chunk_map f z n, List.map_take, List.map_drop]
theorem rdLs_ok {S : Nat → Prop} {H : Hp} {bl : List (Nat × List AV)} {n : Nat} (ih : ∀ v w, rdB bl n v = some w → RdW S n H v w) : ∀ {cs ws : List AV}, rdLs (rdB bl n) cs = some ws → CellsW S n H cs ws
  | [], ws, h => by
    simp only [rdLs, Option.some.injEq] at h
    subst h; exact .nil
  | c :: cs, ws, h => by
    rw [rdLs] at h
    split at h
    · rename_i d ds h1 h2
      simp only [Option.some.injEq] at h
      subst h
      exact .cons (ih _ _ h1) (rdLs_ok ih h2)
    · cases h
theorem rdB_ok {S : Nat → Prop} {H : Hp} {bl : List (Nat × List AV)} (hb : BlkIn S H bl) : ∀ (n : Nat) (v w : AV), rdB bl n v = some w → RdW S n H v w
  | 0, v, w, h => by cases h
  | n + 1, v, w, h => by
    have ih := rdB_ok hb n
    cases v with
    | sl r off len z =>
      simp only [rdB] at h
      split at h
      · rename_i cs hl
        split at h
        · rename_i hle
          split at h
          · rename_i l hr
            simp only [Option.some.injEq] at h
            subst h
            obtain ⟨us, h1, h2⟩ := rdLs_ok ih hr
            obtain ⟨hS, hq, imm, tip, hg, hi⟩ := hb r cs hl
            refine ⟨.lst (chunk z len us), ⟨hS, hq, cs, imm, tip, us, hg, hi, Nat.le_of_ble_eq_true hle, h1, rfl⟩, fun m hm => ?_⟩
            obtain ⟨m, rfl⟩ : ∃ k, m = k + 1 := ⟨m - 1, by omega⟩
            show AV.lst ((chunk z len us).map fun row => row.map (wkN m)) = _
            rw [chunk_map, h2 m (by omega)]
          · cases h
        · cases h
      · cases h
    | agg cs =>
      simp only [rdB] at h
      split at h
      · rename_i l hr
        simp only [Option.some.injEq] at h
        subst h
        obtain ⟨us, h1, h2⟩ := rdLs_ok ih hr
        refine ⟨.agg us, ⟨us, h1, rfl⟩, fun m hm => ?_⟩
        obtain ⟨m, rfl⟩ : ∃ k, m = k + 1 := ⟨m - 1, by omega⟩
        show AV.agg (us.map (wkN m)) = _
        rw [h2 m (by omega)]
      · cases h
    | int k x => cases h; exact .int k x
    | str s => cases h; exact .str s
    | bool b => cases h; exact .flat ⟨.bool _, trivial⟩ fun m => by cases m <;> rfl
    | nilS => cases h; exact .nilS
    | _ => cases h
/-- What a run that ends leaves: its value, the next block, and what lies in these blocks. -/
noncomputable def leftB (rs : List Nat) : Res → Option (AV × Nat × List (Option HB))
  | .val v H => some (v, H.next, rs.map H.get)
  | _ => none
theorem WpCall.left {P : Program} {cfg : Cfg} {g : FuncId} {args : List AV} {H : Hp} {n nx : Nat} {rs : List Nat} {v : AV} {bs : List (Option HB)} (h : leftB rs (ev P cfg n (.call g args H)) = some (v, nx, bs)) :
    WpCall P cfg g args H fun w H' => w = v ∧ H'.next = nx ∧ rs.map H'.get = bs := by
  unfold WpCall
  generalize hr : ev P cfg n (.call g args H) = r at h
  cases r with
  | val w H' =>
    simp only [leftB, Option.some.injEq, Prod.mk.injEq] at h
    exact ⟨w, H', ⟨fun e => (by cases e), n, hr⟩, h.1, h.2.1, h.2.2⟩
  | _ => cases h
end Go.Proofs.Ytjkmbpieknaekaa
