/- One operation of the abstract machine is one operation of the model's. -/
import Derived.Test.YtlanljjbcpepjaaAbMem
namespace Go.Ab
open Go Go.RowKit

/-- The operation runs to its end; its value and the world are as the abstract machine says. -/
def Sim (P : Program) (B : Bs) (H : Hp) (G : Gh) (w : World) (s : Sem Next) (c : AV) (H' : Hp) : Prop :=
  ∃ n w' G' v, s.run P w = .ok n w' ∧ (n = .value v ∨ (n = .skip ∧ v = undef)) ∧ VR G' c v ∧ Step B H.next G w H' w' G'

theorem vToS_rel {G : Gh} {v : Value} {c : AV} (h : vToS v = some c) : VR G c v := by
  unfold vToS at h
  split at h <;> simp only [Option.some.injEq, reduceCtorEq] at h <;> subst h <;> constructor
  rfl

theorem mapM_rel {G : Gh} : ∀ {vs : List Value} {cs : List AV}, vs.mapM vToS = some cs → VRs G cs vs
  | [], cs, h => by simp at h; subst h; exact VRs.nil G
  | v :: vs, cs, h => by
    rw [List.mapM_cons] at h
    simp only [Option.bind_eq_bind, Option.bind_eq_some_iff, Option.pure_def, Option.some.injEq] at h
    obtain ⟨c, hc, cs', hcs, rfl⟩ := h
    exact VRs.cons (vToS_rel hc) (mapM_rel hcs)

theorem vToA_rel {G : Gh} {v : Value} {c : AV} (h : vToA v = some c) : VR G c v := by
  unfold vToA at h
  split at h
  · rename_i cs
    simp only [Option.map_eq_some_iff] at h
    obtain ⟨l, hl, rfl⟩ := h
    have := mapM_rel (G := G) hl
    exact .agg (vs := cs.toList) this.1 this.2
  · exact vToS_rel h

theorem Holds.list {G : Gh} {w : World} {b : Nat} : ∀ {cs : List AV} {o : Nat}, Holds G w b o cs → ∃ vs, VRs G cs vs ∧ ∀ (j : Nat) v, vs[j]? = some v → w.cell? ⟨b, o + j, none⟩ = some v
  | [], o, _ => ⟨[], VRs.nil G, by simp⟩
  | c :: cs, o, h => by
    obtain ⟨v, h1, h2⟩ := h 0 c rfl
    obtain ⟨vs, k1, k2⟩ := Holds.list (cs := cs) (o := o + 1) (fun j d hj => by
      obtain ⟨u, g1, g2⟩ := h (j + 1) d (by simpa using hj)
      exact ⟨u, by rw [show o + 1 + j = o + (j + 1) by omega]; exact g1, g2⟩)
    refine ⟨v :: vs, VRs.cons h2 k1, fun j u hj => ?_⟩
    cases j with
    | zero => simp at hj; subst hj; exact h1
    | succ j => rw [show o + (j + 1) = o + 1 + j by omega]; exact k2 j u (by simpa using hj)

theorem Holds.drop {G : Gh} {w : World} {b o : Nat} {cs : List AV} (h : Holds G w b o cs) (n : Nat) : Holds G w b (o + n) (cs.drop n) := fun j c hj => by
  rw [List.getElem?_drop] at hj
  rw [Nat.add_assoc]; exact h (n + j) c hj
theorem Holds.take {G : Gh} {w : World} {b o : Nat} {cs : List AV} (h : Holds G w b o cs) (n : Nat) : Holds G w b o (cs.take n) := fun j c hj => by
  rw [List.getElem?_take] at hj
  split at hj
  · exact h j c hj
  · simp at hj

section
variable {P : Program} {w : World} {t : TypeId}

theorem run_und {d : TypeDesc} (h : P.underlying t = some d) : (underlying t).run P w = .ok d w := by simp [underlying, h]
theorem run_info {i : TypeInfo} (h : P.info? t = some i) : (typeInfo t).run P w = .ok i w := by simp [typeInfo, h]
theorem sizeA_some {s : Nat} (h : sizeA P t = some s) : ∃ i, P.info? t = some i ∧ i.size = s := by simpa [sizeA, Option.map_eq_some_iff] using h
theorem run_size {s : Nat} (h : sizeA P t = some s) : (sizeOf t).run P w = .ok s w := by
  obtain ⟨i, h1, h2⟩ := sizeA_some h
  simp [sizeOf, run_info h1, h2]
theorem zeroV_some {c : AV} (h : zeroV P t = some c) : ∃ i v, P.info? t = some i ∧ i.zero = some v ∧ vToA v = some c := by
  unfold zeroV at h
  split at h
  · rename_i x d s sz by' hp al fa z' cm ms he
    exact ⟨_, z', he, rfl, h⟩
  · simp at h
theorem zeroV_run {c : AV} (h : zeroV P t = some c) : ∃ v, (∀ w, (zeroValue t).run P w = .ok v w) ∧ ∀ G, VR G c v := by
  obtain ⟨i, v, h1, h2, h3⟩ := zeroV_some h
  exact ⟨v, fun w => by simp [zeroValue, run_info h1, h2], fun G => vToA_rel h3⟩
theorem zeroA_some {z : List AV} (h : zeroA P t = some z) : ∃ i v c, P.info? t = some i ∧ i.zero = some v ∧ vToA v = some c ∧ c.cells = z := by
  unfold zeroA at h
  split at h
  · rename_i c hc
    simp only [Option.some.injEq] at h
    obtain ⟨i, v, h1, h2, h3⟩ := zeroV_some hc
    exact ⟨i, v, c, h1, h2, h3, h⟩
  · simp at h
theorem zeroA_run {z : List AV} (h : zeroA P t = some z) : ∃ v, (∀ w, (zeroValue t).run P w = .ok v w) ∧ ∀ G, VRs G z v.cells.toList := by
  obtain ⟨i, v, c, h1, h2, h3, rfl⟩ := zeroA_some h
  exact ⟨v, fun w => by simp [zeroValue, run_info h1, h2], fun G => (vToA_rel h3).cells⟩

def isAggD : TypeDesc → Bool
  | .struct _ | .array _ _ => true
  | _ => false
theorem run_isAgg {d : TypeDesc} (h : P.underlying t = some d) : (isAgg t).run P w = .ok (isAggD d) w := by
  simp only [isAgg, Sem.run_bind, run_und h, Result.andThen_ok]
  cases d <;> rfl

theorem partA_cases {cs : List AV} {off : Nat} {c : AV} (h : partA P t cs off = some c) :
    (∃ d s, P.underlying t = some d ∧ isAggD d = true ∧ sizeA P t = some s ∧ ((cs.drop off).take s).length = s ∧ c = .agg ((cs.drop off).take s)) ∨
    (∃ d, P.underlying t = some d ∧ isAggD d = false ∧ cs[off]? = some c) := by
  unfold partA at h
  split at h
  · rename_i f hd
    split at h
    · rename_i s hs
      simp only [] at h
      split at h
      · rename_i hl
        simp only [Option.some.injEq] at h
        exact .inl ⟨_, s, hd, rfl, hs, hl, h.symm⟩
      · simp at h
    · simp at h
  · rename_i n e hd
    split at h
    · rename_i s hs
      simp only [] at h
      split at h
      · rename_i hl
        simp only [Option.some.injEq] at h
        exact .inl ⟨_, s, hd, rfl, hs, hl, h.symm⟩
      · simp at h
    · simp at h
  · rename_i d h1 h2 hd
    refine .inr ⟨d, hd, ?_, h⟩
    cases d <;> first | rfl | exact (h1 _ rfl).elim | exact (h2 _ _ rfl).elim
  · simp at h

/-- A variable is read, out of cells that hold what 'cs' says. -/
theorem run_loadVar {G : Gh} {b o off : Nat} {cs : List AV} {c : AV} (hh : Holds G w b o cs) (h : partA P t cs off = some c) :
    ∃ v, (loadVar t ⟨b, o + off, none⟩).run P w = .ok v w ∧ VR G c v := by
  rcases partA_cases h with ⟨d, s, hd, ha, hs, hl, rfl⟩ | ⟨d, hd, ha, hc⟩
  · obtain ⟨vs, h1, h2⟩ := ((hh.drop off).take s).list
    refine ⟨.agg vs.toArray, ?_, .agg h1.1 h1.2⟩
    simp only [loadVar, Sem.run_bind, run_isAgg hd, ha, Result.andThen_ok, if_true, run_size hs]
    have hlen : vs.length = s := by rw [← h1.1]; exact hl
    rw [← hlen, run_loadCells_list _ _ vs (fun j v hj => by rw [addr_add]; exact h2 j v hj)]
    rfl
  · obtain ⟨v, h1, h2⟩ := hh off c hc
    refine ⟨v, ?_, h2⟩
    simp [loadVar, run_isAgg hd, ha, h1]

/-- A part of an aggregate value. -/
theorem run_part {G : Gh} {off : Nat} {cs : List AV} {vs : List Value} {c : AV} (hv : VRs G cs vs) (h : partA P t cs off = some c) :
    ∃ v, (part t vs.toArray off).run P w = .ok v w ∧ VR G c v := by
  rcases partA_cases h with ⟨d, s, hd, ha, hs, hl, rfl⟩ | ⟨d, hd, ha, hc⟩
  · have h1 := (hv.drop off).take s
    refine ⟨.agg ((vs.drop off).take s).toArray, ?_, .agg h1.1 h1.2⟩
    simp only [part, Sem.run_bind, run_isAgg hd, ha, Result.andThen_ok, if_true, run_size hs, Sem.run_pure]
    congr 2
    apply Array.ext'
    simp
  · have hlt : off < cs.length := (List.getElem?_eq_some_iff.1 hc).1
    have hlt' : off < vs.length := by have := hv.1; omega
    refine ⟨vs[off], ?_, hv.2 off c _ hc (List.getElem?_eq_getElem hlt')⟩
    simp [part, run_isAgg hd, ha, hlt']
end

theorem pure_sim {P : Program} {B : Bs} {G : Gh} {H : Hp} {w : World} (h : R B H w G) {s : Sem Next} {c : AV} {v : Value} (hr : s.run P w = .ok (.value v) w) (hv : VR G c v) : Sim P B H G w s c H :=
  ⟨.value v, w, G, v, hr, .inl rfl, hv, Step.refl h⟩

theorem ret_some {H H' : Hp} {x : Option AV} {c : AV} (h : ret H x = some (c, H')) : x = some c ∧ H' = H := by
  cases x with
  | none => simp [ret] at h
  | some v => simp [ret] at h; exact ⟨by rw [h.1], h.2.symm⟩

section
variable {P : Program} {B : Bs} {G : Gh} {H H' : Hp} {w : World} (h : R B H w G) {c : AV}
include h

theorem load_sim {t : TypeId} {a : AV} {av : Value} (ha : VR G a av) (hl : aload P H t a = some c) : ∃ v, (Instr.loadAt t av).run P w = .ok v w ∧ VR G c v := by
  unfold aload at hl
  split at hl
  · rename_i r off
    cases ha with
    | ptr hr =>
      split at hl
      · rename_i cs imm tip hc
        obtain ⟨v, h1, h2⟩ := run_loadVar (h.cells _ _ _ _ _ _ _ hr hc) hl
        exact ⟨v, by simpa [Instr.loadAt, Instr.sureAddr] using h1, h2⟩
      · simp at hl
  · rename_i cs
    cases ha with
    | iptr vs hF hv =>
      rename_i b o
      have hh : Holds G w b o cs := fun j d hj => ⟨vs j, h.frz _ _ _ (hF j (List.getElem?_eq_some_iff.1 hj).1), hv j d hj⟩
      obtain ⟨v, h1, h2⟩ := run_loadVar hh hl
      exact ⟨v, by simpa [Instr.loadAt, Instr.sureAddr] using h1, h2⟩
  · simp at hl

theorem store_sim {t : TypeId} {a x : AV} {av xv : Value} (ha : VR G a av) (hx : VR G x xv) (hs : astore P H t a x = some H') :
    ∃ w', (Instr.storeAt t av xv).run P w = .ok () w' ∧ Step B H.next G w H' w' G := by
  unfold astore at hs
  split at hs
  · rename_i r off
    cases ha with
    | ptr hr =>
      rename_i b o ex
      split at hs
      · rename_i cs imm tip s hc hsz
        split at hs
        · rename_i hcond
          obtain ⟨h1, h2, h3, h4⟩ := hcond
          simp only [Option.some.injEq] at hs
          subst hs
          have hcl := hx.cells
          have hlen : xv.cells.toList.length = s := by rw [← hcl.1]; exact h1
          have hone : ∀ v ∈ xv.cells.toList, v.oneCell' = true := fun v hv => by
            obtain ⟨i, hi, rfl⟩ := List.getElem_of_mem hv
            have hi' : i < x.cells.length := by rw [hcl.1]; exact hi
            rw [(hcl.2 i _ _ (List.getElem?_eq_getElem hi') (List.getElem?_eq_getElem hi)).oneCell]
            exact List.all_eq_true.1 h4 _ (List.getElem_mem hi')
          have hex := h.ext r b o ex cs imm tip hr hc
          obtain ⟨w', hw, hst⟩ := writes_step P hr off x.cells xv.cells.toList cs 0 H w h hc hcl hone (by omega) (by omega) (by omega) (fun _ => by omega)
          refine ⟨w', ?_, by simpa using hst⟩
          have hsz' : xv.cells.size = s := by simpa using hlen
          simp only [Instr.storeAt, Instr.sureAddr, Sem.run_bind, Sem.run_pure, Result.andThen_ok, storeVar, run_size hsz, hsz']
          simpa using hw
        · simp at hs
      · simp at hs
  · simp at hs
end
end Go.Ab
