/- Operations, on: append, copy, len, maps, conversions. -/
import Derived.Test.YtlanljjbcpepjaaAbOps3
namespace Go.Ab
open Go Go.RowKit

section
variable {P : Program} {B : Bs} {G : Gh} {H H' : Hp} {w : World}

theorem VRs.oneCell {cs : List AV} {vs : List Value} (h : VRs G cs vs) (ho : cs.all AV.one = true) : ∀ v ∈ vs, v.oneCell' = true := fun v hv => by
  obtain ⟨i, hi, rfl⟩ := List.getElem_of_mem hv
  have hi' : i < cs.length := by rw [h.1]; exact hi
  rw [(h.2 i _ _ (List.getElem?_eq_getElem hi') (List.getElem?_eq_getElem hi)).oneCell]
  exact List.all_eq_true.1 ho _ (List.getElem_mem hi')

theorem flatten_get {xs : List (List AV)} {s : Nat} (hs : ∀ (i : Nat) (row : List AV), xs[i]? = some row → row.length = s) : xs.flatten.length = xs.length * s ∧
    ∀ (i j : Nat) (c : AV), j < s → xs.flatten[i * s + j]? = some c → ∃ row, xs[i]? = some row ∧ row[j]? = some c := by
  induction xs with
  | nil => exact ⟨by simp, by simp⟩
  | cons row xs ih =>
    have hr := hs 0 row rfl
    obtain ⟨h1, h2⟩ := ih (fun i r hi => hs (i + 1) r (by simpa using hi))
    refine ⟨by simp [h1, hr, Nat.succ_mul]; omega, fun i j c hj hc => ?_⟩
    rw [List.flatten_cons] at hc
    cases i with
    | zero =>
      rw [Nat.zero_mul, Nat.zero_add, List.getElem?_append_left (by omega)] at hc
      exact ⟨row, rfl, hc⟩
    | succ i =>
      rw [List.getElem?_append_right (by rw [hr, Nat.succ_mul]; omega)] at hc
      rw [hr, show (i + 1) * s + j - s = i * s + j by rw [Nat.succ_mul]; omega] at hc
      obtain ⟨r, g1, g2⟩ := h2 i j c hj hc
      exact ⟨r, by simpa using g1, g2⟩

theorem divmod_lt {k n s : Nat} (h : k < n * s) : k / s < n ∧ k % s < s ∧ k = k / s * s + k % s := by
  have hs : 0 < s := by
    rcases Nat.eq_zero_or_pos s with e | e
    · subst e; omega
    · exact e
  refine ⟨(Nat.div_lt_iff_lt_mul hs).2 h, Nat.mod_lt _ hs, ?_⟩
  have := Nat.div_add_mod k s
  rw [Nat.mul_comm] at this
  omega

/-- The cells of a source, read; in whatever world holds the same cells. -/
theorem sliceHA_sim (h : R B H w G) {t : TypeId} {x c : AV} {xv : Value} {lo hi : Option AV} {lov hiv : Option Value} (hx : VR G x xv) (hl : VRO G lo lov) (hh : VRO G hi hiv) (hs : sliceHA P H t x lo hi = some c) :
    ∃ v, (Instr.sliceAt t xv lov hiv none).run P w = .ok v w ∧ VR G c v := by
  unfold sliceHA at hs
  split at hs
  · rename_i r off
    split at hs
    · rename_i n e cs imm tip hd hg
      split at hs
      · rename_i z l h' hz bl bh
        split at hs
        · rename_i hc
          obtain ⟨h1, h2, h3⟩ := hc
          cases hx with
          | ptr hr =>
            rename_i b o x
            have hf := h.fits _ _ _ _ _ _ _ hr hg
            have hb := run_bounds (P := P) (w := w) (cap := n) hl hh bl bh h1 h2 (Nat.le_refl _) false
            have hrun : (Instr.sliceAt t (.pointer (some ⟨b, o + off, none⟩)) lov hiv none).run P w = .ok (.slice (some (if n = l then ⟨b, o + off, none⟩ else ⟨b, o + off + l * z, none⟩)) (h' - l) (n - l)) w := by
              simp only [Instr.sliceAt, Sem.run_bind, run_und hd, Result.andThen_ok]
              simp [Instr.sureAddr, hb, run_size hz, addr_add]
            split at hs
            · rename_i e1
              simp only [Option.some.injEq] at hs
              subst hs
              subst e1
              rw [Nat.sub_self] at hrun
              exact ⟨_, hrun, .lst0 _ _⟩
            · rename_i hne
              simp only [Option.some.injEq] at hs
              subst hs
              rw [if_neg (by omega)] at hrun
              refine ⟨_, hrun, ?_⟩
              rw [Nat.add_assoc]
              refine .sl hr (by omega) ?_
              have e3 : (n - l) * z + l * z = n * z := by rw [← Nat.add_mul]; congr 1; omega
              omega
        · simp at hs
      · simp at hs
    · simp at hs
  · exact slice_sim hx hl hh hs

theorem src_sim (h : R B H w G) {s n : Nat} {x : AV} {xv : Value} {l : List AV} (hx : VR G x xv) (hs : srcCells H s x = some (n, l)) :
    ∃ nv, VRs G l nv ∧ nv.length = n * s ∧ (∀ w', (Builtin.lenOf xv).run P w' = .ok n w') ∧ (∀ w', (∀ a, w'.cell? a = w.cell? a) → (Builtin.firstCells s n xv).run P w' = .ok nv.toArray w') := by
  unfold srcCells at hs
  split at hs
  · rename_i r off len z
    cases hx with
    | sl hr hl hc =>
      rename_i b o x cap
      split at hs
      · rename_i cs imm tip hg
        simp only [] at hs
        split at hs
        · rename_i hlen
          simp only [Option.some.injEq, Prod.mk.injEq] at hs
          obtain ⟨rfl, rfl⟩ := hs
          obtain ⟨vs, h1, h2⟩ := (((h.cells _ _ _ _ _ _ _ hr hg).drop off).take (len * s)).list
          have hvl : vs.length = len * s := by rw [← h1.1]; exact hlen
          refine ⟨vs, h1, hvl, fun w' => by simp [Builtin.lenOf], fun w' hw => ?_⟩
          exact run_firstCells_some w' s len _ len cap vs hvl (fun j v hj => by rw [hw, addr_add]; exact h2 j v hj)
        · simp at hs
      · simp at hs
  · rename_i xs
    split at hs
    · rename_i hall
      simp only [Option.some.injEq, Prod.mk.injEq] at hs
      obtain ⟨rfl, rfl⟩ := hs
      have hrow : ∀ (i : Nat) (row : List AV), xs[i]? = some row → row.length = s := fun i row hi => by
        have := List.all_eq_true.1 hall row (List.mem_of_getElem? hi)
        simpa using this
      obtain ⟨hfl, hfg⟩ := flatten_get hrow
      cases hx with
      | lst0 a cap =>
        refine ⟨[], VRs.nil G, by simp, fun w' => by simp [Builtin.lenOf], fun w' hw => ?_⟩
        cases a with
        | none => simp [Builtin.firstCells]
        | some a =>
          simp [Builtin.firstCells]
          rfl
      | lst vs hz hF hv hcap =>
        rename_i b o cap z
        have hzs : xs.length = 0 ∨ z = s := by
          cases xs with
          | nil => exact .inl rfl
          | cons row xs => exact .inr (by rw [← hz 0 row rfl, hrow 0 row rfl])
        have hh : Holds G w b o xs.flatten := fun k c hk => by
          have hklt : k < xs.length * s := by rw [← hfl]; exact (List.getElem?_eq_some_iff.1 hk).1
          obtain ⟨d1, d2, d3⟩ := divmod_lt hklt
          have hz' : z = s := by
            rcases hzs with e | e
            · rw [e] at hklt; omega
            · exact e
          subst hz'
          obtain ⟨row, g1, g2⟩ := hfg (k / z) (k % z) c d2 (by rw [← d3]; exact hk)
          refine ⟨vs (k / z) (k % z), ?_, hv _ _ row c g1 g2⟩
          have := h.frz _ _ _ (hF (k / z) (k % z) d1 d2)
          rw [show o + k = o + k / z * z + k % z by omega]
          exact this
        obtain ⟨nv, h1, h2⟩ := hh.list
        have hvl : nv.length = xs.length * s := by rw [← h1.1]; exact hfl
        refine ⟨nv, h1, hvl, fun w' => by simp [Builtin.lenOf], fun w' hw => ?_⟩
        exact run_firstCells_some w' s xs.length _ xs.length cap nv hvl (fun j v hj => by rw [hw, addr_add]; exact h2 j v hj)
    · simp at hs
  · simp only [Option.some.injEq, Prod.mk.injEq] at hs
    obtain ⟨rfl, rfl⟩ := hs
    cases hx
    exact ⟨[], VRs.nil G, by simp, fun w' => by simp [Builtin.lenOf], fun w' hw => by simp [Builtin.firstCells]⟩
  · rename_i b
    split at hs
    · rename_i e
      subst e
      simp only [Option.some.injEq, Prod.mk.injEq] at hs
      obtain ⟨rfl, rfl⟩ := hs
      cases hx with
      | str sv _ hb =>
        subst hb
        have hsz : sv.data.toList.length = sv.size := by show sv.data.toList.length = sv.data.size; simp
        refine ⟨sv.data.toList.map fun x => .int .u8 x.toNat, ⟨by simp, fun i c v hc hv => ?_⟩, by simp, fun w' => by simp [Builtin.lenOf, hsz], fun w' hw => ?_⟩
        · rw [List.getElem?_map] at hc hv
          cases hi : sv.data.toList[i]? with
          | none => rw [hi] at hc; simp at hc
          | some u =>
            rw [hi] at hc hv
            simp only [Option.map_some, Option.some.injEq] at hc hv
            subst hc hv
            exact .int _ _
        · simp only [Builtin.firstCells, Sem.run_pure]
          congr 1
          apply Array.ext'
          have : (sv.extract 0 sv.data.toList.length).data.toList = sv.data.toList := by
            rw [Lib.extract_data, List.drop_zero, Nat.sub_zero, List.take_length]
          simp only [Array.toList_map, this]
    · simp at hs
  · simp at hs

theorem zeroCells_size (z : Array Value) (n : Nat) : (Builtin.zeroCells z n).toList.length = n * z.size := by simp [Builtin.zeroCells]

/-- 'append' as the model runs it, within the room. -/
theorem run_append_fit {t u e ty : TypeId} {du : TypeDesc} (hd : P.underlying t = some (.slice e)) (hu : P.underlying u = some du) (hni : ∀ k, du ≠ .int k) {s : Nat} (hs : sizeA P e = some s)
    {a : Option Addr} {len cap n : Nat} (hlc : len + n ≤ cap) {xv : Value} {nv : List Value} (hl : (Builtin.lenOf xv).run P w = .ok n w) (hf : (Builtin.firstCells s n xv).run P w = .ok nv.toArray w) :
    (Builtin.append_ #[t, u] ty #[.slice a len cap, xv]).run P w = (match a with
      | some a => ((storeCells (a.add (len * s)) nv).run P w).andThen fun _ w' => .ok (.slice (some a) (len + n) cap) w'
      | none => .ok (.slice none (len + n) cap) w) := by
  have hz : (match du with | .int _ => true | _ => false) = false := by cases du <;> first | rfl | exact (hni _ rfl).elim
  simp only [Builtin.append_]
  simp [run_und hd, run_und hu, run_size hs, hl]
  rw [if_pos hlc, hf]
  cases a <;> simp

/-- .. where it must grow. -/
theorem run_append_new {t u e ty : TypeId} {du : TypeDesc} (hd : P.underlying t = some (.slice e)) (hu : P.underlying u = some du) (hni : ∀ k, du ≠ .int k) {s : Nat} (hs : sizeA P e = some s) {b : Nat} (hb : bytesA P e = some b)
    {zv : Value} (hz : ∀ w, (zeroValue e).run P w = .ok zv w)
    {a : Option Addr} {len cap n : Nat} (hlc : cap < len + n) (hroom : (len + n) * b ≤ maxRoom) (hroom' : len + n ≤ maxRoom) {xv : Value} {ov nv : List Value} (hl : (Builtin.lenOf xv).run P w = .ok n w) (hf : (Builtin.firstCells s n xv).run P w.drew = .ok nv.toArray w.drew)
    (ho : (Builtin.firstCells s len (.slice a len cap)).run P w.drew = .ok ov.toArray w.drew) :
    (Builtin.append_ #[t, u] ty #[.slice a len cap, xv]).run P w = .ok (.slice (some ⟨w.heap.size, 0, none⟩) (len + n) (grownCap w (len + n) cap e))
      (w.drew.alloc (.cells (ov ++ nv ++ (Builtin.zeroCells zv.cells (grownCap w (len + n) cap e - (len + n))).toList).toArray e)) := by
  have hz' : (match du with | .int _ => true | _ => false) = false := by cases du <;> first | rfl | exact (hni _ rfl).elim
  obtain ⟨i, hi, hib⟩ : ∃ i, P.info? e = some i ∧ i.bytes = b := by simpa [bytesA, Option.map_eq_some_iff] using hb
  have hm : maxRoom = 70368744177664 := rfl
  rw [hm] at hroom hroom'
  have h48 : ¬ (281474976710656 < Builtin.nextslicecap (len + n) cap * b) := by
    have := growslice_fits hlc (bytes := b) (by omega)
    omega
  have h63 : ¬ (9223372036854775807 < ((len : Int) + (n : Int))) := by omega
  have h1 : ¬ (len + n ≤ cap) := by omega
  simp only [Builtin.append_]
  simp [run_und hd, run_und hu, run_size hs, hl, h1, run_info hi, hib, h63, h48, Question.forced, ho, hf, hz, newRow, grownCap]
  congr 2
  apply Array.ext'
  simp

theorem R.heap {w' : World} (h : R B H w G) (e : w'.heap = w.heap) : R B H w' G := by
  have k : ∀ a, w'.cell? a = w.cell? a := fun a => by simp [World.cell?, e]
  have kf : ∀ a, w'.frozen? a = w.frozen? a := fun a => by simp [World.frozen?, e]
  exact {
    base := by rw [e]; exact h.base
    dom := h.dom
    lt := fun r b o x hr => by rw [e]; exact h.lt r b o x hr
    cells := fun r b o x cs imm tip hr hc j c hj => by rw [k]; exact h.cells r b o x cs imm tip hr hc j c hj
    imm := h.imm
    ext := h.ext
    fits := h.fits
    room := fun r b o x cs imm tip hr hc j hj hjl => by rw [k, kf]; exact h.room r b o x cs imm tip hr hc j hj hjl
    apart := h.apart
    map := fun r b o x es hr hc => by rw [e]; exact h.map r b o x es hr hc
    mapApart := h.mapApart
    frz := fun b o v hf => by rw [k]; exact h.frz b o v hf
    val := h.val
    sym := h.sym }

theorem Step.of_drew {nx : Nat} {w' : World} {G' : Gh} (h : Step B nx G w.drew H' w' G') : Step B nx G w H' w' G' :=
  ⟨h.r, h.ext, ⟨h.fr.os, h.fr.tape, h.fr.output, h.fr.size, h.fr.block⟩, h.new, h.low, h.mono, h.icy⟩

theorem Holds.first {b o off s len : Nat} {cs : List AV} (hh : Holds G w b o cs) (hl : off + len * s = cs.length) {cap : Nat} :
    ∃ ov, VRs G (cs.drop off) ov ∧ ov.length = len * s ∧ ∀ w', (∀ a, w'.cell? a = w.cell? a) → (Builtin.firstCells s len (.slice (some ⟨b, o + off, none⟩) len cap)).run P w' = .ok ov.toArray w' := by
  obtain ⟨vs, h1, h2⟩ := (hh.drop off).list
  have hvl : vs.length = len * s := by rw [← h1.1, List.length_drop]; omega
  exact ⟨vs, h1, hvl, fun w' hw => run_firstCells_some w' s len _ len cap vs hvl (fun j v hj => by rw [hw, addr_add]; exact h2 j v hj)⟩

theorem srcType_some {u : TypeId} (h : srcType P u = true) : ∃ d, P.underlying u = some d ∧ ∀ k, d ≠ .int k := by
  unfold srcType at h
  split at h
  · rename_i e hd; exact ⟨_, hd, by simp⟩
  · rename_i hd; exact ⟨_, hd, by simp⟩
  · simp at h

theorem trim_step (h : R B H w G) (keep : Bool) (s : Nat) (sv : AV) : Step B H.next G w (trimA keep H s sv) w G := by
  unfold trimA
  split
  · rename_i r off len z
    split
    · rename_i cs imm hg
      split
      · rename_i hc
        simp only [Bool.and_eq_true] at hc
        have h1 : off + len * s < cs.length := by simpa [Nat.blt_eq] using hc.1.2
        have h2 := Nat.le_of_ble_eq_true hc.2
        generalize off + len * s = m at h1 h2
        have hgs : ∀ r' b', (H.set r (.cells (cs.take m) imm true)).get r' = some b' → (r' = r ∧ b' = .cells (cs.take m) imm true) ∨ (r' ≠ r ∧ H.get r' = some b') := fun r' b' he => by
          rw [Hp.get_set] at he
          split at he
          · rename_i e; simp only [Option.some.injEq] at he; exact .inl ⟨e, he.symm⟩
          · rename_i e; exact .inr ⟨e, he⟩
        have hsub : ∀ r' cs' imm' tip', (H.set r (.cells (cs.take m) imm true)).get r' = some (.cells cs' imm' tip') → ∃ cs0, H.get r' = some (.cells cs0 imm' tip') ∧ (∀ (j : Nat) c, cs'[j]? = some c → cs0[j]? = some c) ∧ cs'.length ≤ cs0.length ∧ (∀ x, reach x cs' tip' = reach x cs0 tip') := fun r' cs' imm' tip' he => by
          rcases hgs r' _ he with ⟨rfl, e⟩ | ⟨_, e⟩
          · simp only [HB.cells.injEq] at e
            obtain ⟨rfl, rfl, rfl⟩ := e
            refine ⟨cs, hg, fun j c hj => ?_, by rw [List.length_take]; omega, fun x => rfl⟩
            rw [List.getElem?_take] at hj
            split at hj
            · exact hj
            · simp at hj
          · exact ⟨cs', e, fun _ _ h => h, Nat.le_refl _, fun _ => rfl⟩
        refine ⟨?_, Ext.refl _, Fr.refl _ _, New.refl _ _, fun _ _ h => .inl h, Nat.le_refl _, fun _ _ _ h => .inl h⟩
        exact {
          base := h.base
          dom := h.dom
          lt := h.lt
          cells := fun r' b o x cs' imm' tip' hr hc' j c hj => by
            obtain ⟨cs0, e1, e2, _⟩ := hsub r' cs' imm' tip' hc'
            exact h.cells r' b o x cs0 imm' tip' hr e1 j c (e2 j c hj)
          imm := fun r' b o x cs' imm' tip' hr hc' j hj hjl => by
            obtain ⟨cs0, e1, _, e3, _⟩ := hsub r' cs' imm' tip' hc'
            exact h.imm r' b o x cs0 imm' tip' hr e1 j hj (by omega)
          ext := fun r' b o x cs' imm' tip' hr hc' => by
            obtain ⟨cs0, e1, _, e3, e4⟩ := hsub r' cs' imm' tip' hc'
            have := h.ext r' b o x cs0 imm' tip' hr e1
            rw [e4]; omega
          fits := fun r' b o x cs' imm' tip' hr hc' => by
            obtain ⟨cs0, e1, _, e3, e4⟩ := hsub r' cs' imm' tip' hc'
            have := h.fits r' b o x cs0 imm' tip' hr e1
            omega
          room := fun r' b o x cs' imm' tip' hr hc' j hj hjl => by
            obtain ⟨cs0, e1, _, _, e4⟩ := hsub r' cs' imm' tip' hc'
            exact h.room r' b o x cs0 imm' tip' hr e1 j hj (by rw [← e4]; exact hjl)
          apart := fun r1 b1 o1 x1 cs1 imm1 tip1 r2 b2 o2 x2 cs2 imm2 tip2 hr1 hc1 hr2 hc2 hne j j' q1 q2 q3 q4 => by
            obtain ⟨cs01, e1, _, _, e14⟩ := hsub r1 cs1 imm1 tip1 hc1
            obtain ⟨cs02, e2, _, _, e24⟩ := hsub r2 cs2 imm2 tip2 hc2
            exact h.apart r1 b1 o1 x1 cs01 imm1 tip1 r2 b2 o2 x2 cs02 imm2 tip2 hr1 e1 hr2 e2 hne j j' q1 (by rw [← e14]; exact q2) q3 (by rw [← e24]; exact q4)
          map := fun r' b o x es hr hc' => by
            rcases hgs r' _ hc' with ⟨_, e⟩ | ⟨_, e⟩
            · simp at e
            · exact h.map r' b o x es hr e
          mapApart := fun r1 b1 o1 x1 es r2 b2 o2 x2 hr1 hc1 hr2 hc2 hne => by
            rcases hgs r1 _ hc1 with ⟨_, e⟩ | ⟨_, e⟩
            · simp at e
            · refine h.mapApart r1 b1 o1 x1 es r2 b2 o2 x2 hr1 e hr2 ?_ hne
              rw [Hp.get_set] at hc2
              split at hc2
              · rename_i e2; rw [e2, hg]; rfl
              · exact hc2
          frz := h.frz
          val := h.val
          sym := h.sym }
      · exact Step.refl h
    · exact Step.refl h
  · exact Step.refl h

theorem append_sim (h : R B H w G) {keep : Bool} {t u ty : TypeId} {sv x c : AV} {svv xv : Value} (hsv : VR G sv svv) (hx : VR G x xv) (ha : appendA P keep H t u sv x = some (c, H')) :
    ∃ v w' G', (Builtin.append_ #[t, u] ty #[svv, xv]).run P w = .ok v w' ∧ VR G' c v ∧ Step B H.next G w H' w' G' := by
  unfold appendA at ha
  split at ha
  · rename_i e hd
    split at ha
    · rename_i s b z hs hb hz
      split at ha
      · rename_i l0 hst hsrc
        obtain ⟨du, hu, hni⟩ := srcType_some hst
        obtain ⟨nv, h1, h2, h3, h4⟩ := src_sim (P := P) h hx hsrc
        have hnv : nv = [] := by rw [Nat.zero_mul] at h2; exact List.length_eq_zero_iff.1 h2
        subst hnv
        have key : ∀ a len cap, svv = .slice a len cap → len ≤ cap → (Builtin.append_ #[t, u] ty #[svv, xv]).run P w = .ok svv w := fun a len cap e hlc => by
          subst e
          rw [run_append_fit hd hu hni hs (n := 0) (by omega) (h3 w) (h4 w (fun _ => rfl))]
          cases a <;> simp [storeCells]
        split at ha
        · simp only [Option.some.injEq, Prod.mk.injEq] at ha
          obtain ⟨rfl, rfl⟩ := ha
          refine ⟨svv, w, G, ?_, hsv, Step.refl h⟩
          cases hsv with
          | sl hr hl hc => exact key _ _ _ rfl hl
        · simp only [Option.some.injEq, Prod.mk.injEq] at ha
          obtain ⟨rfl, rfl⟩ := ha
          refine ⟨svv, w, G, ?_, hsv, Step.refl h⟩
          cases hsv with
          | lst vs hz hF hv hc => exact key _ _ _ rfl hc
          | lst0 a cap => exact key _ _ _ rfl (Nat.zero_le _)
        · simp only [Option.some.injEq, Prod.mk.injEq] at ha
          obtain ⟨rfl, rfl⟩ := ha
          refine ⟨svv, w, G, ?_, hsv, Step.refl h⟩
          cases hsv with
          | nilS => exact key _ _ _ rfl (Nat.le_refl _)
        · simp at ha
      · rename_i n new hnz hst hsrc
        obtain ⟨du, hu, hni⟩ := srcType_some hst
        obtain ⟨nv, h1, h2, h3, h4⟩ := src_sim (P := P) h hx hsrc
        have hn0 : n ≠ 0 := fun e => by subst e; exact hnz rfl
        have hnl : new.length = n * s := by rw [h1.1, h2]
        obtain ⟨zv, hzr, hzv⟩ := zeroA_run hz
        split at ha
        · rename_i hcond
          obtain ⟨hone, hzl⟩ := hcond
          have hzs : zv.cells.size = s := by have := (hzv G).1; rw [hzl] at this; simpa using this.symm
          have ht := trim_step h keep s sv
          suffices hgoal : ∃ v w' G', (Builtin.append_ #[t, u] ty #[svv, xv]).run P w = .ok v w' ∧ VR G' c v ∧ Step B (trimA keep H s sv).next G w H' w' G' by
            obtain ⟨v, w', G', g1, g2, g3⟩ := hgoal
            exact ⟨v, w', G', g1, g2, ht.trans g3⟩
          replace h := ht.r
          clear ht hsrc
          generalize trimA keep H s sv = H at ha h ⊢
          unfold appendOnto at ha
          split at ha
          · -- onto nil
            split at ha
            · rename_i hroom
              simp only [Option.some.injEq, Prod.mk.injEq] at ha
              obtain ⟨rfl, rfl⟩ := ha
              cases hsv
              have hrun := run_append_new (P := P) (w := w) (ty := ty) hd hu hni hs hb hzr (a := none) (len := 0) (cap := 0) (n := n) (ov := []) (by omega) (by simpa using hroom.1) (by simpa using hroom.2) (h3 w) (h4 w.drew (fun _ => rfl)) (by simp [Builtin.firstCells])
              have hst' := alloc_step (h.heap (w' := w.drew) rfl) h1 (Builtin.zeroCells zv.cells (grownCap w (0 + n) 0 e - (0 + n))).toList e
              have hge := grownCap_ge w (0 + n) 0 e
              refine ⟨_, _, _, hrun, ?_, hst'.of_drew⟩
              rw [Nat.zero_add] at hge ⊢
              refine .sl (Gh.add_self _ _ _) hge ?_
              rw [zeroCells_size, hzs, h2]
              have : grownCap w n 0 e * s = n * s + (grownCap w n 0 e - n) * s := by rw [← Nat.add_mul]; congr 1; omega
              simp
              omega
            · simp at ha
          · -- onto a row of its own
            rename_i r off len zz
            split at ha
            · rename_i cs imm hg
              split at ha
              · rename_i hcond2
                obtain ⟨hr1, hr2, hend, rfl, himm⟩ := hcond2
                cases hsv with
                | sl hr hlc hcx =>
                  rename_i b0 o0 x0 cap
                  have hHolds := h.cells _ _ _ _ _ _ _ hr hg
                  have hex := h.ext _ _ _ _ _ _ _ hr hg
                  simp only [reach] at hex
                  have hoff : off ≤ cs.length := by omega
                  obtain ⟨ov, o1, o2, o3⟩ := hHolds.first (P := P) (off := off) (s := zz) (len := len) hend (cap := cap)
                  have hrn : r ≠ H.next := fun e => by have := h.dom _ _ hr; omega
                  by_cases hfit : len + n ≤ cap
                  · -- in its room
                    have hrun := run_append_fit (P := P) (w := w) (ty := ty) hd hu hni hs (a := some ⟨b0, o0 + off, none⟩) hfit (h3 w) (h4 w (fun _ => rfl))
                    simp only [] at hrun
                    rw [addr_add, Nat.add_assoc, hend] at hrun
                    have hcap : (len + n) * zz ≤ cap * zz := Nat.mul_le_mul_right _ hfit
                    rw [Nat.add_mul] at hcap
                    cases keep with
                    | false =>
                      simp only [Bool.false_eq_true, if_false, Option.some.injEq, Prod.mk.injEq] at ha
                      obtain ⟨rfl, rfl⟩ := ha
                      obtain ⟨w', hw, hstw⟩ := writes_step P hr cs.length new nv cs 0 H w h hg h1 (h1.oneCell hone) (by omega) (by omega) (by simp only [reach]; omega) (by simp)
                      rw [hw] at hrun
                      simp only [Result.andThen_ok] at hrun
                      rw [Nat.add_zero, splice_end] at hstw
                      have hstr := rename_step hstw.r (r := r) (cs := cs ++ new) (imm := imm) hr (by rw [Hp.get_set, if_pos rfl]) (off := off) (by simp; omega)
                      refine ⟨_, w', _, hrun, ?_, (hstw.trans hstr).congr rfl fun k _ => ?_⟩
                      · refine .sl (Gh.add_self _ _ _) hfit ?_
                        omega
                      · rw [Hp.get_alloc, Hp.get_alloc, Hp.get_kill, Hp.get_kill, Hp.get_set, List.drop_append_of_le_length hoff]
                        simp only [Hp.next_kill, Hp.next_set]
                        by_cases e1 : k = H.next
                        · simp only [e1, if_true]
                        · by_cases e2 : k = r
                          · simp only [e2, if_true]
                          · simp only [e1, e2, if_false]
                    | true =>
                      simp only [if_true, Option.some.injEq, Prod.mk.injEq] at ha
                      obtain ⟨rfl, rfl⟩ := ha
                      have hice := ice_step h hr hg (n := cs.length) himm (Nat.le_refl _) true (fun _ => rfl)
                      obtain ⟨w', hw, hstw⟩ := writes_step P (G := G.ice w b0 o0 cs.length) (r := r) (imm := cs.length) (tip := true) hr cs.length new nv cs 0 _ w hice.r (by rw [Hp.get_set, if_pos rfl]) (h1.mono hice.ext) (h1.oneCell hone) (by omega) (by omega) (by simp only [reach]; omega) (by simp)
                      rw [hw] at hrun
                      simp only [Result.andThen_ok] at hrun
                      rw [Nat.add_zero, splice_end] at hstw
                      have hgr : ((H.set r (.cells cs cs.length true)).set r (.cells (cs ++ new) cs.length true)).get r = some (.cells (cs ++ new) cs.length true) := by rw [Hp.get_set, if_pos rfl]
                      have hstr := rename_step hstw.r (r := r) (cs := cs ++ new) (imm := cs.length) hr hgr (off := off) (by simp; omega)
                      have hmid := (hice.trans hstw).trans hstr
                      have hrr : ((G.ice w b0 o0 cs.length).add H.next (b0, o0 + off, x0 - off)).β r = some (b0, o0, x0) := by
                        simp only [Gh.add]; rw [if_neg hrn]; exact hr
                      have hnoMap : ∀ r1 b1 o1 x1 es, ((G.ice w b0 o0 cs.length).add H.next (b0, o0 + off, x0 - off)).β r1 = some (b1, o1, x1) →
                          ((((H.set r (.cells cs cs.length true)).set r (.cells (cs ++ new) cs.length true)).kill r).alloc (.cells ((cs ++ new).drop off) (cs.length - off) true)).get r1 = some (.map es) → b1 ≠ b0 := fun r1 b1 o1 x1 es g1 g2 => by
                        rw [Hp.get_alloc, Hp.get_kill, Hp.get_set, Hp.get_set] at g2
                        simp only [Hp.next_kill, Hp.next_set] at g2
                        by_cases hne : r1 = H.next
                        · simp [hne] at g2
                        · by_cases hne2 : r1 = r
                          · simp [hne2] at g2
                          · simp only [hne, hne2, if_false] at g2
                            have g1' : G.β r1 = some (b1, o1, x1) := by simp only [Gh.add] at g1; rw [if_neg hne] at g1; exact g1
                            exact h.mapApart r1 b1 o1 x1 es r b0 o0 x0 g1' g2 hr (by rw [hg]; rfl) hne2
                      have hHolds' : Holds ((G.ice w b0 o0 cs.length).add H.next (b0, o0 + off, x0 - off)) w' b0 o0 cs := fun j c hj => by
                        have hjl : j < cs.length := (List.getElem?_eq_some_iff.1 hj).1
                        have h5 := hstw.r.cells r b0 o0 x0 _ _ _ hr hgr j c (by rw [List.getElem?_append_left hjl]; exact hj)
                        obtain ⟨v, q1, q2⟩ := h5
                        exact ⟨v, q1, q2.mono hstr.ext⟩
                      have hFF : ∀ j, j < cs.length → ∃ v, ((G.ice w b0 o0 cs.length).add H.next (b0, o0 + off, x0 - off)).F b0 (o0 + j) = some v := fun j hj =>
                        hice.r.imm r b0 o0 x0 cs cs.length true hr (by rw [Hp.get_set, if_pos rfl]) j hj hj
                      have hrev := revive_step hmid.r hrr (h.fits _ _ _ _ _ _ _ hr hg) hHolds' hFF hnoMap
                      refine ⟨_, w', _, hrun, ?_, (hmid.trans hrev).congr rfl fun k _ => ?_⟩
                      · refine .sl (Gh.add_self _ _ _) hfit ?_
                        omega
                      · rw [Hp.get_set, Hp.get_alloc, Hp.get_alloc, Hp.get_kill, Hp.get_set, Hp.get_set, Hp.get_set, List.drop_append_of_le_length hoff]
                        simp only [Hp.next_kill, Hp.next_set]
                        have : cs.length - off = len * zz := by omega
                        rw [this]
                        by_cases e1 : k = r
                        · subst e1; simp only [hrn, if_true, if_false]
                        · simp only [e1, if_false]
                  · -- a new row
                    have hfit' : cap < len + n := by omega
                    have hrun := run_append_new (P := P) (w := w) (ty := ty) hd hu hni hs hb hzr (a := some ⟨b0, o0 + off, none⟩) hfit' hr1 hr2 (h3 w) (h4 w.drew (fun _ => rfl)) (o3 w.drew (fun _ => rfl))
                    have hge := grownCap_ge w (len + n) cap e
                    have hlen2 : (ov ++ nv).length = (len + n) * zz := by rw [List.length_append, o2, h2, Nat.add_mul]
                    have hcapx : grownCap w (len + n) cap e * zz = (ov ++ nv).length + (Builtin.zeroCells zv.cells (grownCap w (len + n) cap e - (len + n))).toList.length := by
                      rw [zeroCells_size, hzs, hlen2, ← Nat.add_mul]; congr 1; omega
                    have hst' := (alloc_step (h.heap (w' := w.drew) rfl) (o1.append h1) (Builtin.zeroCells zv.cells (grownCap w (len + n) cap e - (len + n))).toList e).of_drew
                    have hnn : ∀ (X : HB) (k : Nat), k ≠ H.next → (H.alloc X).get k = H.get k := fun X k hk => by rw [Hp.get_alloc, if_neg hk]
                    have hadd : ∀ p, (G.add H.next p).β H.next = some p := fun p => Gh.add_self _ _ _
                    have hlenX : (cs.drop off ++ new).length = (len + n) * zz := by rw [List.length_append, List.length_drop, hnl, Nat.add_mul]; omega
                    cases keep with
                    | false =>
                      simp only [Bool.false_eq_true, if_false, Option.some.injEq, Prod.mk.injEq] at ha
                      obtain ⟨rfl, rfl⟩ := ha
                      have hk := hst'.r.kill r
                      have hgx : ((H.alloc (.cells (cs.drop off ++ new) 0 true)).kill r).get H.next = some (.cells (cs.drop off ++ new) 0 true) := by
                        rw [Hp.get_kill, if_neg (Ne.symm hrn), Hp.get_alloc, if_pos rfl]
                      have hice := ice_step hk (hadd _) hgx (n := imm - off) (Nat.zero_le _) (by rw [hlenX, Nat.add_mul]; omega) true (fun _ => rfl)
                      have hst2 : Step B H.next G w _ _ _ := ⟨hk, hst'.ext, hst'.fr, hst'.new, hst'.low, hst'.mono, hst'.icy⟩
                      refine ⟨_, _, _, hrun, ?_, (hst2.trans hice).congr rfl fun k _ => ?_⟩
                      · exact .sl (hadd _) hge (by omega)
                      · rw [Hp.get_set, Hp.get_alloc, Hp.get_kill, Hp.get_kill, Hp.get_alloc]
                        simp only [Hp.next_kill]
                        by_cases e1 : k = H.next
                        · simp only [e1, if_true]
                        · simp only [e1, if_false]
                    | true =>
                      simp only [if_true, Option.some.injEq, Prod.mk.injEq] at ha
                      obtain ⟨rfl, rfl⟩ := ha
                      have hgx : (H.alloc (.cells (cs.drop off ++ new) 0 true)).get H.next = some (.cells (cs.drop off ++ new) 0 true) := by rw [Hp.get_alloc, if_pos rfl]
                      have hice := ice_step hst'.r (hadd _) hgx (n := len * zz) (Nat.zero_le _) (by rw [hlenX, Nat.add_mul]; omega) true (fun _ => rfl)
                      have hgr : ((H.alloc (.cells (cs.drop off ++ new) 0 true)).set H.next (.cells (cs.drop off ++ new) (len * zz) true)).get r = some (.cells cs imm true) := by
                        rw [Hp.get_set, if_neg hrn, hnn _ _ hrn]; exact hg
                      have hice2 := ice_step hice.r (r := r) (by
                        show (G.add H.next _).β r = _
                        simp only [Gh.add]; rw [if_neg hrn]; exact hr) hgr (n := cs.length) himm (Nat.le_refl _) false (by simp)
                      refine ⟨_, _, _, hrun, ?_, ((hst'.trans hice).trans hice2).congr rfl fun k _ => ?_⟩
                      · exact .sl (hadd _) hge (by omega)
                      · rw [Hp.get_set, Hp.get_set, Hp.get_alloc, Hp.get_alloc, Hp.get_set]
                        simp only [Hp.next_set]
                        by_cases e1 : k = H.next
                        · have e3 : ¬ H.next = r := fun e => hrn e.symm
                          simp only [e1, e3, if_true, if_false]
                        · simp only [e1, if_false]
              · simp at ha
            · simp at ha
          · simp at ha
        · simp at ha
      · simp at ha
    · simp at ha
  · simp at ha
end
end Go.Ab
