/- Operations, on: slices that are cut, built, made, appended to. -/
import Derived.Test.YtlanljjbcpepjaaAbOps2
import Derived.Lib.Strings
import Derived.Laws.Tables
namespace Go.Ab
open Go Go.RowKit

def VRO (G : Gh) : Option AV → Option Value → Prop
  | none, none => True
  | some c, some v => VR G c v
  | _, _ => False

section
variable {P : Program} {B : Bs} {G : Gh} {H H' : Hp} {w : World}

theorem run_sbound {c : AV} {v : Value} {k y : Nat} (code : BoundsCode) (h : VR G c v) (hb : boundA 0 (some c) = some k) (hk : k ≤ y) : (Instr.sliceBound v y code).run P w = .ok k w := by
  unfold boundA at hb
  split at hb
  · simp at *
  · rename_i kk n e
    simp only [Option.some.injEq] at hb e
    subst hb; subst e
    cases h
    simp [Instr.sliceBound, asIntOf, hk]
  · simp at hb

theorem boundA_some {d k : Nat} {c : AV} (h : boundA d (some c) = some k) : boundA 0 (some c) = some k := by
  unfold boundA at *
  split at h <;> simp_all

theorem run_bounds {lo hi : Option AV} {lov hiv : Option Value} {l h len cap : Nat} (hl : VRO G lo lov) (hh : VRO G hi hiv) (bl : boundA 0 lo = some l) (bh : boundA len hi = some h) (h1 : l ≤ h) (h2 : h ≤ len) (h3 : len ≤ cap) (isS : Bool) :
    (Instr.sliceBounds isS len cap lov hiv none).run P w = .ok (l, h, cap) w := by
  cases hi with
  | none =>
    cases hiv with
    | some v => exact hh.elim
    | none =>
      simp only [boundA, Option.some.injEq] at bh
      subst bh
      cases lo with
      | none =>
        cases lov with
        | some v => exact hl.elim
        | none =>
          simp only [boundA, Option.some.injEq] at bl
          subst bl
          simp [Instr.sliceBounds]
      | some c =>
        cases lov with
        | none => exact hl.elim
        | some v => simp [Instr.sliceBounds, run_sbound _ hl bl h1]
  | some ch =>
    cases hiv with
    | none => exact hh.elim
    | some vh =>
      have bh' := boundA_some bh
      cases lo with
      | none =>
        cases lov with
        | some v => exact hl.elim
        | none =>
          simp only [boundA, Option.some.injEq] at bl
          subst bl
          simp [Instr.sliceBounds, run_sbound _ hh bh' (show h ≤ cap by omega)]
      | some c =>
        cases lov with
        | none => exact hl.elim
        | some v => simp [Instr.sliceBounds, run_sbound _ hl bl h1, run_sbound _ hh bh' (show h ≤ cap by omega)]

theorem slice_sim {t : TypeId} {x c : AV} {xv : Value} {lo hi : Option AV} {lov hiv : Option Value} (hx : VR G x xv) (hl : VRO G lo lov) (hh : VRO G hi hiv) (h : sliceA P t x lo hi = some c) :
    ∃ v, (Instr.sliceAt t xv lov hiv none).run P w = .ok v w ∧ VR G c v := by
  unfold sliceA at h
  split at h
  · rename_i s hd
    split at h
    · rename_i l hh' bl bh
      split at h
      · rename_i hc
        simp only [Option.some.injEq] at h
        subst h
        cases hx with
        | str sv _ hs =>
          subst hs
          have hb := run_bounds (P := P) (w := w) (cap := sv.size) hl hh bl bh hc.1 hc.2 (by show sv.data.toList.length ≤ sv.data.size; simp) false
          have hsz : sv.data.toList.length = sv.size := by show sv.data.toList.length = sv.data.size; simp
          rw [hsz] at hb
          refine ⟨.string (sv.extract l hh'), ?_, .str _ _ (Lib.extract_data _ _ _)⟩
          simp only [Instr.sliceAt, Sem.run_bind, run_und hd, Result.andThen_ok, Instr.slice]
          simp [hb]
      · simp at h
    · simp at h
  · rename_i e y hd
    split at h
    · rename_i z hz
      have hrun : ∀ (a : Option Addr) (len cap l h' : Nat), xv = .slice a len cap → boundA 0 lo = some l → boundA len hi = some h' → l ≤ h' → h' ≤ len → len ≤ cap →
          (Instr.sliceAt t xv lov hiv none).run P w = .ok (.slice (if cap = l then a else a.map (·.add (l * z))) (h' - l) (cap - l)) w := fun a len cap l h' e1 bl bh h1 h2 h3 => by
        subst e1
        simp only [Instr.sliceAt, Sem.run_bind, run_und hd, Result.andThen_ok, Instr.slice]
        simp [run_bounds hl hh bl bh h1 h2 h3, run_size hz]
      split at h
      · rename_i r off len z'
        split at h
        · rename_i l h' bl bh
          split at h
          · rename_i hc
            obtain ⟨h1, h2, rfl⟩ := hc
            cases hx with
            | sl hr hlc hx' =>
              rename_i b o x cap
              have := hrun _ len cap l h' rfl bl bh h1 h2 hlc
              split at h
              · rename_i e1
                simp only [Option.some.injEq] at h
                subst h
                subst e1
                rw [Nat.sub_self] at this
                exact ⟨_, this, .lst0 _ _⟩
              · rename_i hne
                simp only [Option.some.injEq] at h
                subst h
                rw [if_neg (by omega)] at this
                refine ⟨_, this, ?_⟩
                simp only [Option.map_some, addr_add]
                rw [Nat.add_assoc]
                refine .sl hr (by omega) ?_
                have e3 : (cap - l) * z' + l * z' = cap * z' := by rw [← Nat.add_mul]; congr 1; omega
                omega
          · simp at h
        · simp at h
      · rename_i xs
        split at h
        · rename_i l h' bl bh
          split at h
          · rename_i hc
            obtain ⟨h1, h2⟩ := hc
            split at h
            · rename_i he
              simp only [Option.some.injEq] at h
              subst h
              have hlen : h' - l = 0 := by
                have := congrArg List.length he
                simp only [List.length_take, List.length_drop, List.length_nil] at this
                omega
              cases hx with
              | lst vs hzz hF hv hcap =>
                have := hrun _ _ _ l h' rfl bl bh h1 h2 hcap
                rw [hlen] at this
                exact ⟨_, this, .lst0 _ _⟩
              | lst0 a cap =>
                have := hrun _ _ _ l h' rfl bl bh h1 h2 (Nat.zero_le cap)
                rw [hlen] at this
                exact ⟨_, this, .lst0 _ _⟩
            · rename_i row rows he
              split at h
              · rename_i hrl
                simp only [Option.some.injEq] at h
                subst h
                have hpos : 0 < h' - l := by
                  have := congrArg List.length he
                  simp only [List.length_take, List.length_drop, List.length_cons] at this
                  omega
                cases hx with
                | lst0 a cap => simp at h2; omega
                | lst vs hzz hF hv hcap =>
                  rename_i b o cap z'
                  have hrun' := hrun _ _ _ l h' rfl bl bh h1 h2 hcap
                  rw [if_neg (by omega)] at hrun'
                  have hget : ∀ i : Nat, (row :: rows)[i]? = if i < h' - l then xs[l + i]? else none := fun i => by
                    rw [← he, List.getElem?_take, List.getElem?_drop]
                  have hz' : z' = z := by
                    have := hget 0
                    rw [if_pos hpos] at this
                    rw [← hzz (l + 0) row (by rw [← this]; rfl)]
                    exact hrl
                  subst hz'
                  have hlen : (row :: rows).length = h' - l := by
                    rw [← he]; simp only [List.length_take, List.length_drop]; omega
                  refine ⟨_, hrun', ?_⟩
                  simp only [Option.map_some, addr_add]
                  rw [← hlen]
                  refine .lst (z := z') (fun i j => vs (l + i) j) (fun i rw' hi => ?_) (fun i j hi hj => ?_) (fun i j rw' d hi hj => ?_) (by rw [hlen]; omega)
                  · rw [hget i] at hi
                    split at hi
                    · exact hzz _ _ hi
                    · simp at hi
                  · have := hF (l + i) j (by rw [hlen] at hi; omega) hj
                    rw [← this]
                    congr 1
                    rw [Nat.add_mul]; omega
                  · rw [hget i] at hi
                    split at hi
                    · exact hv _ _ _ _ hi hj
                    · simp at hi
              · simp at h
          · simp at h
        · simp at h
      · split at h
        · rename_i bl bh
          simp only [Option.some.injEq] at h
          subst h
          cases hx
          have := hrun none 0 0 0 0 rfl bl bh (Nat.le_refl _) (Nat.le_refl _) (Nat.le_refl _)
          exact ⟨_, this, .nilS⟩
        · simp at h
      · simp at h
    · simp at h
  · simp at h

/-! Parts laid over zero cells. -/

theorem VRs.splice {cs new : List AV} {vs nv : List Value} (h : VRs G cs vs) (hn : VRs G new nv) (off : Nat) : VRs G (Ab.splice cs off new) (vs.take off ++ nv ++ vs.drop (off + nv.length)) := by
  unfold Ab.splice
  rw [hn.1]
  exact ((h.take off).append hn).append (h.drop _)

theorem fold_splice (off : Nat) : ∀ (nv : List Value) (k : Nat) (cells : Array Value), off + k + nv.length ≤ cells.size →
    ((nv.zipIdx k).foldl (fun cs (c, j) => cs.setIfInBounds (off + j) c) cells).toList = cells.toList.take (off + k) ++ nv ++ cells.toList.drop (off + k + nv.length)
  | [], k, cells, _ => by simp
  | v :: nv, k, cells, h => by
    simp only [List.length_cons] at h
    rw [List.zipIdx_cons, List.foldl_cons, fold_splice off nv (k + 1) _ (by simp; omega)]
    simp only [Array.toList_setIfInBounds, List.length_cons]
    have hp : off + k < cells.toList.length := by simp; omega
    have h1 : (cells.toList.set (off + k) v).take (off + (k + 1)) = cells.toList.take (off + k) ++ [v] := by
      rw [← Nat.add_assoc, List.take_add_one, List.take_set_of_le (Nat.le_refl _), List.getElem?_set_self hp]; rfl
    rw [h1, List.drop_set_of_lt (by omega), show off + (k + 1) + nv.length = off + k + (nv.length + 1) by omega]
    simp

/-- 'fill' and its abstract twin. -/
theorem fill_sim {place : Nat → Option (Nat × Nat)} : ∀ {ps : List (Nat × AV)} {pv : List (Nat × Value)} {cs out : List AV} {vs : List Value}, ps.length = pv.length →
    (∀ (i : Nat) p q, ps[i]? = some p → pv[i]? = some q → p.1 = q.1 ∧ VR G p.2 q.2) → VRs G cs vs → fillA place cs ps = some out →
    ∃ outv, Instr.fill place vs.toArray pv = some outv.toArray ∧ VRs G out outv
  | [], [], cs, out, vs, _, _, hv, h => by
    simp only [fillA, Option.some.injEq] at h
    subst h
    exact ⟨vs, rfl, hv⟩
  | [], q :: pv, _, _, _, hl, _, _, _ => by simp at hl
  | p :: ps, [], _, _, _, hl, _, _, _ => by simp at hl
  | (i, c) :: ps, (i', v) :: pv, cs, out, vs, hl, hp, hv, h => by
    obtain ⟨rfl, hcv⟩ := hp 0 (i, c) (i', v) rfl rfl
    simp only [] at hcv
    simp only [fillA] at h
    split at h
    · simp at h
    · rename_i off size hpl
      split at h
      · simp at h
      · rename_i hcond
        have hcl := hcv.cells
        have hlc : v.cells.size = c.cells.length := by rw [hcl.1]; simp
        have hcond' : v.cells.size = size ∧ off + v.cells.size ≤ vs.length := by
          rw [hlc, ← hv.1]
          constructor
          · apply Decidable.byContradiction; intro hn; exact hcond (.inl hn)
          · apply Decidable.byContradiction; intro hn; exact hcond (.inr (by omega))
        obtain ⟨outv, h1, h2⟩ := fill_sim (ps := ps) (pv := pv) (cs := Ab.splice cs off c.cells) (out := out) (vs := vs.take off ++ v.cells.toList ++ vs.drop (off + v.cells.toList.length))
          (by simpa using hl) (fun j p q hj hq => hp (j + 1) p q (by simpa using hj) (by simpa using hq)) (hv.splice hcl off) h
        refine ⟨outv, ?_, h2⟩
        simp only [Instr.fill, hpl]
        rw [if_neg (by simp; omega)]
        rw [← h1]
        congr 1
        apply Array.ext'
        have hf := fold_splice off v.cells.toList 0 vs.toArray (by simp; omega)
        simp only [Nat.add_zero] at hf
        rw [List.toList_toArray, ← hf]
        rw [← Array.foldl_toList, Array.toList_zipIdx]

theorem parts_sim {E : Env} {a : Act} : ∀ {ps : List (Nat × Operand)} {out : List (Nat × AV)}, (∀ p ∈ ps, ∀ c, aeval E p.2 = some c → VR G c (a.eval p.2)) → partsA E ps = some out →
    out.length = (ps.map fun x => (x.1, a.eval x.2)).length ∧ ∀ (i : Nat) p q, out[i]? = some p → (ps.map fun x => (x.1, a.eval x.2))[i]? = some q → p.1 = q.1 ∧ VR G p.2 q.2
  | [], out, _, h => by
    simp only [partsA, Option.some.injEq] at h
    subst h
    exact ⟨rfl, by simp⟩
  | (i, x) :: ps, out, hE, h => by
    simp only [partsA] at h
    split at h
    · rename_i v vs hv hvs
      simp only [Option.some.injEq] at h
      subst h
      obtain ⟨h1, h2⟩ := parts_sim (ps := ps) (out := vs) (fun p hp => hE p (by simp [hp])) hvs
      refine ⟨by simpa using h1, fun j p q hj hq => ?_⟩
      cases j with
      | zero =>
        simp at hj hq
        subst hj hq
        exact ⟨rfl, hE (i, x) (by simp) v hv⟩
      | succ j => exact h2 j p q (by simpa using hj) (by simpa using hq)
    · simp at h

theorem build_sim {t : TypeId} {ps : List (Nat × AV)} {pv : List (Nat × Value)} {c : AV} (hl : ps.length = pv.length) (hp : ∀ (i : Nat) p q, ps[i]? = some p → pv[i]? = some q → p.1 = q.1 ∧ VR G p.2 q.2) (h : buildA P t ps = some c) :
    ∃ v, (Instr.build t pv.toArray).run P w = .ok v w ∧ VR G c v := by
  unfold buildA at h
  split at h
  · rename_i z fields hz hd
    split at h
    · rename_i places hpl
      split at h
      · rename_i out hf
        simp only [Option.some.injEq] at h
        subst h
        obtain ⟨it, zv, zc, hit, hzv, hzc, rfl⟩ := zeroA_some hz
        have hzr := (vToA_rel (G := G) hzc).cells
        obtain ⟨outv, h1, h2⟩ := fill_sim hl hp hzr hf
        refine ⟨.agg outv.toArray, run_build w t _ _ ?_, .agg h2.1 h2.2⟩
        simp only [Program.built, hit, hd, hzv]
        unfold placesA at hpl
        rw [hpl]
        simp only [Array.toArray_toList] at h1
        simpa using h1
      · simp at h
    · simp at h
  · rename_i z n e hz hd
    split at h
    · rename_i s hs
      split at h
      · rename_i out hf
        simp only [Option.some.injEq] at h
        subst h
        obtain ⟨it, zv, zc, hit, hzv, hzc, rfl⟩ := zeroA_some hz
        have hzr := (vToA_rel (G := G) hzc).cells
        obtain ⟨ie, hie, hies⟩ := sizeA_some hs
        obtain ⟨outv, h1, h2⟩ := fill_sim hl hp hzr hf
        refine ⟨.agg outv.toArray, run_build w t _ _ ?_, .agg h2.1 h2.2⟩
        simp only [Program.built, hit, hd, hzv, hie, hies]
        simp only [Array.toArray_toList] at h1
        simpa using h1
      · simp at h
    · simp at h
  · simp at h

theorem rep_get (z : List AV) : ∀ (n j : Nat), j < n * z.length → (rep z n)[j]? = z[j % z.length]?
  | 0, j, h => by simp at h
  | n + 1, j, h => by
    simp only [rep]
    by_cases hj : j < z.length
    · rw [List.getElem?_append_left hj, Nat.mod_eq_of_lt hj]
    · have h' : j < n * z.length + z.length := by simpa [Nat.succ_mul] using h
      rw [List.getElem?_append_right (by omega), rep_get z n (j - z.length) (by omega)]
      congr 1
      exact (Nat.mod_eq_sub_mod (by omega)).symm

theorem rep_length (z : List AV) : ∀ n, (rep z n).length = n * z.length
  | 0 => by simp [rep]
  | n + 1 => by simp [rep, rep_length z n, Nat.add_mul]; omega

/-- The zero cells of a row. -/
theorem rep_rel {z : List AV} {zv : Array Value} (hz : VRs G z zv.toList) (n : Nat) : VRs G (rep z n) (((Array.range (n * z.length)).map (zv[· % zv.size]!))).toList := by
  have hl := hz.1
  refine ⟨by simp [rep_length], fun j c v hc hv => ?_⟩
  have hj : j < n * z.length := by
    have := (List.getElem?_eq_some_iff.1 hc).1
    rw [rep_length] at this; exact this
  rw [rep_get z n j hj] at hc
  simp only [Array.toList_map, Array.toList_range, List.getElem?_map, List.getElem?_range hj, Option.map_some, Option.some.injEq] at hv
  have hpos : 0 < z.length := by
    rcases Nat.eq_zero_or_pos z.length with e | e
    · rw [e] at hj; omega
    · exact e
  have hm : j % z.length < z.length := Nat.mod_lt _ hpos
  have hzs : zv.size = z.length := by simpa using hl.symm
  refine hz.2 (j % z.length) c v hc ?_
  rw [hzs] at hv
  rw [← hv]
  simp [hzs, hm]

theorem fillA_length {place : Nat → Option (Nat × Nat)} : ∀ {ps : List (Nat × AV)} {cs out : List AV}, fillA place cs ps = some out → out.length = cs.length
  | [], cs, out, h => by simp only [fillA, Option.some.injEq] at h; rw [h]
  | (i, c) :: ps, cs, out, h => by
    simp only [fillA] at h
    split at h
    · simp at h
    · split at h
      · simp at h
      · rename_i hc
        rw [fillA_length h, length_splice]
        apply Decidable.byContradiction
        intro hn
        exact hc (.inr (by omega))

theorem buildSlice_sim {t : TypeId} {len : Nat} {ps : List (Nat × AV)} {pv : List (Nat × Value)} {c : AV} (hl : ps.length = pv.length) (hp : ∀ (i : Nat) p q, ps[i]? = some p → pv[i]? = some q → p.1 = q.1 ∧ VR G p.2 q.2)
    (hb : buildSliceA P H t len ps = some (c, H')) : Makes P G w (Instr.buildSlice t len pv.toArray) id c H H' := by
  unfold buildSliceA at hb
  split at hb
  · rename_i e hd
    split at hb
    · rename_i s z hs hz
      split at hb
      · rename_i hc
        obtain ⟨h24, hzl⟩ := hc
        split at hb
        · rename_i cs hf
          simp only [Option.some.injEq, Prod.mk.injEq] at hb
          obtain ⟨rfl, rfl⟩ := hb
          obtain ⟨zv, hzr, hzv⟩ := zeroA_run hz
          have hrep := rep_rel (hzv G) len
          obtain ⟨outv, h1, h2⟩ := fill_sim hl hp hrep hf
          have hlen : outv.length = len * s := by
            rw [← h2.1, fillA_length hf, rep_length, hzl]
          refine ⟨.cells cs 0 true, .cells (outv ++ []).toArray e, outv.length + 0, .slice (some ⟨w.heap.size, 0, none⟩) len len, rfl, ?_, .cells cs outv [] e h2, fun G' hG => .sl hG (Nat.le_refl _) (by omega)⟩
          rw [List.append_nil]
          show _ = Result.ok (Value.slice (some ⟨w.heap.size, 0, none⟩) len len) _
          · have h24' : ¬ (len * s > 2 ^ 24) := by omega
            rw [hzl] at h1
            by_cases h0 : len * s = 0
            · rw [h0] at h1
              simp at h1
              simp [Instr.buildSlice, run_und hd, run_size hs, h0, newRow]
              rw [show Array.map (fun _ : Nat => (default : Value)) (Array.range 0) = #[] from by simp, h1]
              rfl
            · simp only [Array.toArray_toList] at h1
              simp [Instr.buildSlice, run_und hd, run_size hs, h24', h0, hzr, h1, newRow]
        · simp at hb
      · simp at hb
    · simp at hb
  · simp at hb

theorem makeSlice_sim {t : TypeId} {l c r : AV} {lv cv : Value} (hl : VR G l lv) (hc : VR G c cv) (hm : makeSliceA P H t l c = some (r, H')) :
    Makes P G w (Instr.makeSlice t lv cv) id r H H' := by
  unfold makeSliceA at hm
  split at hm
  · rename_i e k1 l k2 c hd
    cases hl; cases hc
    split at hm
    · rename_i s b z hs hb hz
      split at hm
      · rename_i hcond
        obtain ⟨h1, h2, h3, h4⟩ := hcond
        simp only [Option.some.injEq, Prod.mk.injEq] at hm
        obtain ⟨rfl, rfl⟩ := hm
        obtain ⟨zv, hzr, hzv⟩ := zeroA_run hz
        obtain ⟨i, hi, hib⟩ : ∃ i, P.info? e = some i ∧ i.bytes = b := by simpa [bytesA, Option.map_eq_some_iff] using hb
        have hm : maxRoom = 70368744177664 := rfl
        rw [hm] at h2 h3
        have hrep := rep_rel (hzv G) l
        have hrow : ((Array.range (c * s)).map (zv.cells[· % zv.cells.size]!)).toList = ((Array.range (l * s)).map (zv.cells[· % zv.cells.size]!)).toList ++ (((Array.range (c * s)).map (zv.cells[· % zv.cells.size]!)).toList.drop (l * s)) := by
          have hle : l * s ≤ c * s := Nat.mul_le_mul_right _ h1
          conv => lhs; rw [← List.take_append_drop (l * s) ((Array.range (c * s)).map (zv.cells[· % zv.cells.size]!)).toList]
          congr 1
          simp only [Array.toList_map, Array.toList_range, ← List.map_take]
          rw [List.take_range, Nat.min_eq_left hle]
        rw [h4] at hrep
        have hmade : Made G (.cells (rep z l) 0 true) _ _ := .cells _ _ (((Array.range (c * s)).map (zv.cells[· % zv.cells.size]!)).toList.drop (l * s)) e hrep
        rw [← hrow, Array.toArray_toList] at hmade
        refine ⟨_, _, _, .slice (some ⟨w.heap.size, 0, none⟩) l c, rfl, ?_, hmade, fun G' hG => .sl hG h1 ?_⟩
        · show _ = Result.ok (Value.slice (some ⟨w.heap.size, 0, none⟩) l c) _
          have w1 : IntKind.i64.wrap (l : Int) = l := IntWalk.i64_in _ (by omega)
          have w2 : IntKind.i64.wrap (c : Int) = c := IntWalk.i64_in _ (by omega)
          have h2' : ¬ ((b : Int) * c > 2 ^ 48) := by
            have : (b : Int) * c = ((c * b : Nat) : Int) := by rw [Nat.mul_comm]; simp
            rw [this]; omega
          have h5 : ¬ ((281474976710656 : Int) < (b : Int) * c) := by simpa using h2'
          have h6 : ¬ (c < l) := by omega
          have p1 : ¬ ((c : Int) < 0) := by omega
          have p2 : ¬ ((l : Int) < 0) := by omega
          simp only [Instr.makeSlice, Sem.run_bind, run_und hd, Result.andThen_ok, asInt, asIntOf]
          by_cases h0 : c * s = 0
          · simp [run_info hi, hib, w1, w2, h5, h6, p1, p2, run_size hs, h0, newRow]
            rw [show ∀ f g : Nat → Value, Array.map f (Array.range 0) = Array.map g (Array.range 0) from fun f g => by simp]
          · simp [run_info hi, hib, w1, w2, h5, h6, p1, p2, run_size hs, h0, hzr, newRow]
        · have hle : l * s ≤ c * s := Nat.mul_le_mul_right _ h1
          simp
          omega
      · simp at hm
    · simp at hm
  · simp at hm
end
end Go.Ab
