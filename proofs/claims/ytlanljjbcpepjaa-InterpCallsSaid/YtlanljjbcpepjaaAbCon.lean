/- Known calls: what is promised of them, and that a run goes on behind them. -/
import Derived.Test.YtlanljjbcpepjaaAbPlan
import Derived.Below
namespace Go.Ab
open Go Go.RowKit

/-- New blocks alone; more is known of what never changes, on new blocks alone. -/
structure Grow (w : World) (F : Nat → Nat → Option Value) (w' : World) (F' : Nat → Nat → Option Value) : Prop where
  below : Below w.heap.size w w'
  more : ∀ b o v, F b o = some v → F' b o = some v
  icy : ∀ b o v, F' b o = some v → F b o = some v ∨ w.heap.size ≤ b
  frz : ∀ b o v, F' b o = some v → w'.cell? ⟨b, o, none⟩ = some v

/-- A call of f at these arguments gives r, and makes new blocks alone. -/
def Con (P : Program) (ρ : Nat → Int) (f : FuncId) (args : List AV) (r : AV) : Prop :=
  (∃ fn, P.funcs[f]? = some fn ∧ fn.body.isSome = true) ∧ ∀ (G : Gh) (w : World) (vs : List Value), G.ρ = ρ → (∀ b o v, G.F b o = some v → w.cell? ⟨b, o, none⟩ = some v) → VRs G args vs →
    Calls P f vs.toArray w (fun e w' => ∃ v F', e = .returned v ∧ VR { G with F := F' } r v ∧ Grow w G.F w' F')

/-- All calls that the run takes as known are so. -/
def COk (P : Program) (B : Bs) : Prop := ∀ f args r, B.cfg.call f args = some r → Con P B.ρ f args r

theorem below_cell {w w' : World} (h : Below w.heap.size w w') {b o : Nat} (hb : b < w.heap.size) : w'.cell? ⟨b, o, none⟩ = w.cell? ⟨b, o, none⟩ ∧ w'.frozen? ⟨b, o, none⟩ = w.frozen? ⟨b, o, none⟩ :=
  ⟨by simp only [World.cell?, h.block b hb], h.frozen (p := ⟨b, o, none⟩) hb⟩

theorem R.grow {B : Bs} {H : Hp} {w w' : World} {G : Gh} {F' : Nat → Nat → Option Value} (h : R B H w G) (g : Grow w G.F w' F') : Step B H.next G w H w' { G with F := F' } := by
  have hext : Ext G { G with F := F' } := ⟨fun _ _ h => h, g.more, rfl⟩
  have hold : ∀ {b o : Nat} {v : Value}, w.cell? ⟨b, o, none⟩ = some v → w'.cell? ⟨b, o, none⟩ = some v := fun hc => by rw [(below_cell g.below (cell_lt hc)).1]; exact hc
  refine ⟨?_, hext, ⟨g.below.os, g.below.tape, g.below.output, g.below.size, fun k hk _ => g.below.block k hk⟩, fun r b o x hr => .inl hr, fun _ _ h => .inl h, Nat.le_refl _, fun b o v hv => (g.icy b o v hv).imp id fun hb => Nat.le_trans h.base hb⟩
  exact {
    base := Nat.le_trans h.base g.below.size
    dom := h.dom
    lt := fun r b o x hr => ⟨(h.lt r b o x hr).1, Nat.lt_of_lt_of_le (h.lt r b o x hr).2 g.below.size⟩
    cells := fun r b o x cs imm tip hr hc j c hj => by
      obtain ⟨v, h1, h2⟩ := h.cells r b o x cs imm tip hr hc j c hj
      exact ⟨v, hold h1, h2.mono hext⟩
    imm := fun r b o x cs imm tip hr hc j hj hjl => let ⟨v, hv⟩ := h.imm r b o x cs imm tip hr hc j hj hjl; ⟨v, g.more _ _ _ hv⟩
    ext := h.ext
    fits := h.fits
    room := fun r b o x cs imm tip hr hc j hj hjl => by
      obtain ⟨⟨v, h1⟩, h2, h3⟩ := h.room r b o x cs imm tip hr hc j hj hjl
      have hb := (h.lt r b o x hr).2
      refine ⟨⟨v, hold h1⟩, by rw [(below_cell g.below hb).2]; exact h2, ?_⟩
      show F' b (o + j) = none
      cases hF : F' b (o + j) with
      | none => rfl
      | some u => rcases g.icy _ _ _ hF with h4 | h4
                  · rw [h3] at h4; simp at h4
                  · omega
    apart := h.apart
    map := fun r b o x es hr hc => by
      obtain ⟨ms, clock, h1, h2⟩ := h.map r b o x es hr hc
      exact ⟨ms, clock, by rw [g.below.block b (h.lt r b o x hr).2]; exact h1, h2.mono hext⟩
    mapApart := h.mapApart
    frz := g.frz
    val := h.val
    sym := h.sym }
theorem chunk_len (z : Nat) : ∀ (n : Nat) (l : List AV), (chunk z n l).length = n
  | 0, _ => rfl
  | n + 1, l => by simp [chunk, chunk_len z n]

theorem chunk_at (z : Nat) : ∀ (n : Nat) (l : List AV) (i : Nat) (row : List AV), l.length = n * z → (chunk z n l)[i]? = some row → row.length = z ∧ ∀ (j : Nat) c, row[j]? = some c → l[i * z + j]? = some c
  | 0, _, i, row, _, h => by simp [chunk] at h
  | n + 1, l, i, row, hl, h => by
    rw [Nat.add_mul, Nat.one_mul] at hl
    simp only [chunk] at h
    cases i with
    | zero =>
      simp at h
      subst h
      refine ⟨by rw [List.length_take]; omega, fun j c hj => ?_⟩
      rw [List.getElem?_take] at hj
      split at hj
      · rw [Nat.zero_mul, Nat.zero_add]; exact hj
      · simp at hj
    | succ i =>
      obtain ⟨h1, h2⟩ := chunk_at z n (l.drop z) i row (by rw [List.length_drop]; omega) (by simpa using h)
      refine ⟨h1, fun j c hj => ?_⟩
      have := h2 j c hj
      rw [List.getElem?_drop] at this
      rw [Nat.add_mul, Nat.one_mul, show i * z + z + j = z + (i * z + j) by omega]
      exact this

theorem VRs.at {G : Gh} {cs : List AV} {vs : List Value} (h : VRs G cs vs) {i : Nat} {c : AV} (hc : cs[i]? = some c) : ∃ v, vs[i]? = some v ∧ VR G c v := by
  have hi : i < cs.length := (List.getElem?_eq_some_iff.1 hc).1
  have hi' : i < vs.length := by have := h.1; omega
  exact ⟨vs[i], List.getElem?_eq_getElem hi', h.2 i c _ hc (List.getElem?_eq_getElem hi')⟩

theorem iceHL_sound {B : Bs} {w : World} {g : AV → Hp → Option (AV × Hp)}
    (hg : ∀ (v : AV) (H : Hp) (q : AV) (H' : Hp) (G : Gh) (x : Value), R B H w G → VR G v x → g v H = some (q, H') → ∃ G', Step B H.next G w H' w G' ∧ VR G' q x) :
    ∀ (cs : List AV) (vs : List Value) (H : Hp) (ds : List AV) (H' : Hp) (G : Gh), R B H w G → VRs G cs vs → iceHL g cs H = some (ds, H') → ∃ G', Step B H.next G w H' w G' ∧ VRs G' ds vs
  | [], vs, H, ds, H', G, h, hv, hi => by
    simp only [iceHL, Option.some.injEq, Prod.mk.injEq] at hi
    obtain ⟨rfl, rfl⟩ := hi
    exact ⟨G, Step.refl h, hv⟩
  | c :: cs, [], H, ds, H', G, h, hv, hi => by have := hv.1; simp at this
  | c :: cs, v :: vs, H, ds, H', G, h, hv, hi => by
    simp only [iceHL] at hi
    split at hi
    · rename_i d H1 h1
      split at hi
      · rename_i ds' H2 h2
        simp only [Option.some.injEq, Prod.mk.injEq] at hi
        obtain ⟨rfl, rfl⟩ := hi
        obtain ⟨g1, g2⟩ := hv.of_cons
        obtain ⟨G1, s1, r1⟩ := hg c H d H1 G v h g1 h1
        obtain ⟨G2, s2, r2⟩ := iceHL_sound hg cs vs H1 ds' H2 G1 s1.r (g2.mono s1.ext) h2
        exact ⟨G2, s1.trans s2, VRs.cons (r1.mono s2.ext) r2⟩
      · simp at hi
    · simp at hi

theorem iceH_sound {B : Bs} {w : World} : ∀ (n : Nat) (v : AV) (H : Hp) (q : AV) (H' : Hp) (G : Gh) (x : Value), R B H w G → VR G v x → iceH n v H = some (q, H') → ∃ G', Step B H.next G w H' w G' ∧ VR G' q x
  | 0, _, _, _, _, _, _, _, _, h => by simp [iceH] at h
  | n + 1, v, H, q, H', G, x, h, hv, hi => by
    unfold iceH at hi
    split at hi
    · rename_i r off len z
      split at hi
      · rename_i cs imm tip hget
        split at hi
        · rename_i hle
          simp only [Bool.and_eq_true] at hle
          have hle1 := Nat.le_of_ble_eq_true hle.1
          have hle2 := Nat.le_of_ble_eq_true hle.2
          split at hi
          · rename_i l H1 hil
            simp only [Option.some.injEq, Prod.mk.injEq] at hi
            obtain ⟨rfl, rfl⟩ := hi
            cases hv with
            | sl hr hl hcx =>
              rename_i b o xx cap
              have hholds := h.cells r b o xx cs imm tip hr hget
              have s1 := ice_step h hr hget (n := max imm (off + len * z)) (by omega) (by omega) tip id
              obtain ⟨ovs, ho1, ho2⟩ := hholds.list
              have hlen : ((cs.drop off).take (len * z)).length = len * z := by rw [List.length_take, List.length_drop]; omega
              obtain ⟨G2, s2, r2⟩ := iceHL_sound (iceH_sound n) _ ((ovs.drop off).take (len * z)) _ l H1 _ s1.r (((ho1.drop off).take (len * z)).mono s1.ext) hil
              refine ⟨G2, s1.trans s2, ?_⟩
              have hll : l.length = len * z := by
                have e1 := r2.1
                have e2 := ((ho1.drop off).take (len * z)).1
                rw [hlen] at e2
                omega
              have hlc := chunk_len z len l
              have hovl : ovs.length = cs.length := ho1.1.symm
              have hat : ∀ m, m < len * z → ∃ v, ovs[off + m]? = some v ∧ G2.F b (o + off + m) = some v ∧ ∀ c, l[m]? = some c → VR G2 c v := fun m hm => by
                have hlt : off + m < ovs.length := by omega
                refine ⟨ovs[off + m], List.getElem?_eq_getElem hlt, ?_, fun c hc => ?_⟩
                · refine s2.ext.F _ _ _ ?_
                  have hcell := ho2 (off + m) ovs[off + m] (List.getElem?_eq_getElem hlt)
                  show (G.ice w b o (max imm (off + len * z))).F b (o + off + m) = some ovs[off + m]
                  simp only [Gh.ice]
                  rw [← Nat.add_assoc] at hcell
                  split
                  · rename_i v' hv'
                    have := h.frz _ _ _ hv'
                    rw [hcell] at this
                    exact this.symm
                  · rw [if_pos ⟨by trivial, by omega, by omega⟩]
                    exact hcell
                · refine r2.2 m c _ hc ?_
                  rw [List.getElem?_take, if_pos hm, List.getElem?_drop]
                  exact List.getElem?_eq_getElem hlt
              have hin : ∀ i j, i < len → j < z → i * z + j < len * z := fun i j hi hj => by
                calc i * z + j < i * z + z := by omega
                  _ = (i + 1) * z := by rw [Nat.add_mul, Nat.one_mul]
                  _ ≤ len * z := Nat.mul_le_mul_right _ hi
              have key : VR G2 (.lst (chunk z len l)) (.slice (some ⟨b, o + off, none⟩) (chunk z len l).length cap) := by
                refine .lst (fun i j => (ovs[off + (i * z + j)]?).getD undef) (z := z) (fun i row hrow => (chunk_at z len l i row hll hrow).1) (fun i j hi hj => ?_) (fun i j row c hrow hcj => ?_) (by rw [hlc]; exact hl)
                · rw [hlc] at hi
                  obtain ⟨v, e1, e2, _⟩ := hat _ (hin i j hi hj)
                  rw [e1, Nat.add_assoc (o + off)]
                  exact e2
                · have hm := (chunk_at z len l i row hll hrow).2 j c hcj
                  have hlt := (List.getElem?_eq_some_iff.1 hm).1
                  obtain ⟨v, e1, _, e3⟩ := hat (i * z + j) (by omega)
                  rw [e1]
                  exact e3 c hm
              rw [hlc] at key
              exact key
          · simp at hi
        · simp at hi
      · simp at hi
    · rename_i cs
      split at hi
      · rename_i ds H1 hil
        simp only [Option.some.injEq, Prod.mk.injEq] at hi
        obtain ⟨rfl, rfl⟩ := hi
        cases hv with
        | agg hl hvs =>
          obtain ⟨G', s, r⟩ := iceHL_sound (iceH_sound n) cs _ H ds H1 G h ⟨hl, hvs⟩ hil
          exact ⟨G', s, .agg r.1 r.2⟩
      · simp at hi
    · simp at hi
    · simp at hi
    · simp only [Option.some.injEq, Prod.mk.injEq] at hi
      obtain ⟨rfl, rfl⟩ := hi
      exact ⟨G, Step.refl h, hv⟩
end Go.Ab
