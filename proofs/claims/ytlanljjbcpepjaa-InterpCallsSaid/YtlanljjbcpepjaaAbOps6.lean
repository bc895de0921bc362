/- Operations, on: map updates, conversions; all operations under one statement. -/
import Derived.Test.YtlanljjbcpepjaaAbOps5
namespace Go.Ab
open Go Go.RowKit

section
variable {P : Program} {B : Bs} {G : Gh} {H H' : Hp} {w : World}

/-- A map's entries are replaced. -/
theorem mapWrite_step (h : R B H w G) {r b o x : Nat} {es es' : List (AV × AV)} {ms' : Array MapEntry} {clock' : Nat} (hr : G.β r = some (b, o, x)) (hg : H.get r = some (.map es)) (he : Ents G es' ms'.toList) :
    Step B H.next G w (H.set r (.map es')) { w with heap := w.heap.setIfInBounds b (.map ms' clock') } G := by
  obtain ⟨ms, clock, hw, _⟩ := h.map r b o x es hr hg
  have hb : b < w.heap.size := (h.lt r b o x hr).2
  let w' : World := { w with heap := w.heap.setIfInBounds b (.map ms' clock') }
  have hheap : ∀ k, k ≠ b → w'.heap[k]? = w.heap[k]? := fun k hk => by
    show (w.heap.setIfInBounds b _)[k]? = _
    rw [Array.getElem?_setIfInBounds, if_neg (Ne.symm hk)]
  have hheapb : w'.heap[b]? = some (.map ms' clock') := by
    show (w.heap.setIfInBounds b _)[b]? = _
    simp [hb]
  have hcell : ∀ b' o' v, w.cell? ⟨b', o', none⟩ = some v → b' ≠ b := fun b' o' v hc e => by
    subst e
    unfold World.cell? at hc
    rw [hw] at hc
    simp at hc
  have hkeep : ∀ b' o' v, w.cell? ⟨b', o', none⟩ = some v → w'.cell? ⟨b', o', none⟩ = some v := fun b' o' v hc => by
    rw [World.cell?_of_block (w := w) (hheap b' (hcell b' o' v hc))]; exact hc
  have hget : ∀ k, k ≠ r → (H.set r (.map es')).get k = H.get k := fun k hk => by rw [Hp.get_set, if_neg hk]
  have hgetr : (H.set r (.map es')).get r = some (.map es') := by rw [Hp.get_set, if_pos rfl]
  refine ⟨?_, Ext.refl _, ⟨rfl, rfl, rfl, by simp, fun k hk hn => hheap k (fun e => hn r b o x hr e.symm)⟩, New.refl _ _, fun _ _ h => .inl h, Nat.le_refl _, fun _ _ _ h => .inl h⟩
  exact {
    base := by have := h.base; simpa using this
    dom := h.dom
    lt := fun r b o x hr => by have := h.lt r b o x hr; simpa using this
    cells := fun k b' o' x' cs imm tip hk hc => by
      by_cases e : k = r
      · subst e; rw [hgetr] at hc; simp at hc
      · rw [hget k e] at hc
        intro j c hj
        obtain ⟨v, h1, h2⟩ := h.cells k b' o' x' cs imm tip hk hc j c hj
        exact ⟨v, hkeep _ _ _ h1, h2⟩
    imm := fun k b' o' x' cs imm tip hk hc => by
      by_cases e : k = r
      · subst e; rw [hgetr] at hc; simp at hc
      · rw [hget k e] at hc; exact h.imm k b' o' x' cs imm tip hk hc
    ext := fun k b' o' x' cs imm tip hk hc => by
      by_cases e : k = r
      · subst e; rw [hgetr] at hc; simp at hc
      · rw [hget k e] at hc; exact h.ext k b' o' x' cs imm tip hk hc
    fits := fun k b' o' x' cs imm tip hk hc => by
      by_cases e : k = r
      · subst e; rw [hgetr] at hc; simp at hc
      · rw [hget k e] at hc; exact h.fits k b' o' x' cs imm tip hk hc
    room := fun k b' o' x' cs imm tip hk hc j hj hjl => by
      by_cases e : k = r
      · subst e; rw [hgetr] at hc; simp at hc
      · rw [hget k e] at hc
        obtain ⟨⟨v, h1⟩, h2, h3⟩ := h.room k b' o' x' cs imm tip hk hc j hj hjl
        refine ⟨⟨v, hkeep _ _ _ h1⟩, ?_, h3⟩
        rw [World.frozen?_of_block (w := w) (hheap b' (hcell _ _ _ h1))]; exact h2
    apart := fun k1 b1 o1 x1 cs1 imm1 tip1 k2 b2 o2 x2 cs2 imm2 tip2 hk1 hc1 hk2 hc2 => by
      by_cases e1 : k1 = r
      · subst e1; rw [hgetr] at hc1; simp at hc1
      · by_cases e2 : k2 = r
        · subst e2; rw [hgetr] at hc2; simp at hc2
        · rw [hget k1 e1] at hc1; rw [hget k2 e2] at hc2
          exact h.apart k1 b1 o1 x1 cs1 imm1 tip1 k2 b2 o2 x2 cs2 imm2 tip2 hk1 hc1 hk2 hc2
    map := fun k b' o' x' es1 hk hc => by
      by_cases e : k = r
      · subst e
        have hk' := hk
        rw [hr] at hk'
        simp only [Option.some.injEq, Prod.mk.injEq] at hk'; obtain ⟨rfl, rfl, rfl⟩ := hk'
        rw [hgetr] at hc
        simp only [Option.some.injEq, HB.map.injEq] at hc
        subst hc
        exact ⟨ms', clock', hheapb, he⟩
      · rw [hget k e] at hc
        obtain ⟨ms1, clock1, h1, h2⟩ := h.map k b' o' x' es1 hk hc
        refine ⟨ms1, clock1, ?_, h2⟩
        rw [hheap b' (fun eb => h.mapApart k b' o' x' es1 r b o x hk hc hr (by rw [hg]; rfl) e eb)]; exact h1
    mapApart := fun k1 b1 o1 x1 es1 k2 b2 o2 x2 hk1 hc1 hk2 hs hne => by
      have hs' : (H.get k2).isSome := by
        by_cases e2 : k2 = r
        · subst e2; rw [hg]; rfl
        · rw [hget k2 e2] at hs; exact hs
      by_cases e1 : k1 = r
      · subst e1; exact h.mapApart k1 b1 o1 x1 es k2 b2 o2 x2 hk1 hg hk2 hs' hne
      · rw [hget k1 e1] at hc1; exact h.mapApart k1 b1 o1 x1 es1 k2 b2 o2 x2 hk1 hc1 hk2 hs' hne
    frz := fun b' o' v hf => hkeep _ _ _ (h.frz b' o' v hf)
    val := h.val
    sym := h.sym }

theorem run_setMap {b : Nat} {ms ms' : Array MapEntry} {clock clock' : Nat} (h : w.heap[b]? = some (.map ms clock)) :
    (setObj b (.map ms' clock')).run P w = .ok () { w with heap := w.heap.setIfInBounds b (.map ms' clock') } := by
  simp [setObj, Sem.run, h]

theorem sameBits_key (n : Nat) {d : TypeDesc} {x y : AV} {xv yv : Value} (hx : VR G x xv) (hy : VR G y yv) (h : keyA d x y = some true) : Instr.sameBits n yv xv = true := by
  unfold keyA at h
  split at h
  · split at h
    · split at h
      · rename_i e
        subst e
        cases hx; cases hy
        simp only [Option.some.injEq, beq_iff_eq] at h
        subst h
        cases n <;> simp [Instr.sameBits]
      · simp at h
    · simp at h
  · split at h
    · cases hx with
      | str a _ ha => cases hy with
        | str b _ hb =>
          subst ha hb
          simp only [Option.some.injEq, beq_iff_eq] at h
          have hab : (b == a) = true := by
            show (b.data == a.data) = true
            simp only [beq_iff_eq]
            exact (Array.ext' h).symm
          cases n <;> simp [Instr.sameBits, hab]
    · simp at h
  · split at h
    · cases hx; cases hy
      simp only [Option.some.injEq, beq_iff_eq] at h
      subst h
      cases n <;> simp [Instr.sameBits]
    · simp at h
  · simp at h

theorem run_keyStays {old new : Value} (h : Instr.sameBits 10000 old new = true) : (Instr.keyThatStays old new).run P w = .ok new w := by
  unfold Instr.keyThatStays
  rw [if_pos h]; rfl

theorem mapUpdate_sim (h : R B H w G) {t : TypeId} {m k v : AV} {mv kv vv : Value} (hm : VR G m mv) (hk : VR G k kv) (hv : VR G v vv) (hu : mapUpdateA P H t m k v = some H') :
    ∃ w', (Instr.mapUpdate t mv kv vv).run P w = .ok () w' ∧ Step B H.next G w H' w' G := by
  unfold mapUpdateA at hu
  split at hu
  · rename_i kt e hd
    split at hu
    · rename_i r kind hkind
      split at hu
      · rename_i es hg
        cases hm with
        | map hr =>
          rename_i b o x
          obtain ⟨ms, clock, hw, hE⟩ := h.map r b o x es hr hg
          obtain ⟨f1, f2⟩ := find_sim (d := kind) hk (i := 0) hE
          have hkd := (keyKind_some hkind).1
          split at hu
          · rename_i j v0 hf
            simp only [Option.some.injEq] at hu
            subst hu
            obtain ⟨k', m', g1, g2, _, g4, g5⟩ := f2 j v0 hf
            simp only [Nat.sub_zero] at g1 g2
            have hjl : j < ms.size := by have := (List.getElem?_eq_some_iff.1 g2).1; simpa using this
            have hjm : ms[j]? = some m' := by simpa using g2
            have hsame := sameBits_key 10000 hk (hE.2 j _ _ g1 g2).1 g4
            have hfk := run_findKey (P := P) (w := w) hkd g5
            refine ⟨_, ?_, mapWrite_step h hr hg (ms' := ms.modify j fun e => { e with key := kv, val := vv }) (clock' := clock) ?_⟩
            · simp only [Instr.mapUpdate, Sem.run_bind, run_und hd, Result.andThen_ok, run_getMap hw, run_checkKey hkind, hfk, hjm, Option.map_some, Option.getD_some, run_keyStays hsame, run_setMap hw]
            · refine ⟨by have := hE.1; simpa using this, fun i a c ha hc => ?_⟩
              rw [List.getElem?_set] at ha
              rw [Array.getElem?_toList, Array.getElem?_modify] at hc
              by_cases e : j = i
              · subst e
                rw [if_pos rfl] at hc
                rw [if_pos rfl] at ha
                split at ha
                · simp only [Option.some.injEq] at ha
                  subst ha
                  rw [hjm] at hc
                  simp only [Option.map_some, Option.some.injEq] at hc
                  subst hc
                  exact ⟨hk, hv⟩
                · simp at ha
              · rw [if_neg e] at ha hc
                exact hE.2 i a c ha (by simpa using hc)
          · rename_i hf
            simp only [Option.some.injEq] at hu
            subst hu
            have hfk := run_findKey (P := P) (w := w) hkd (f1 hf)
            refine ⟨_, ?_, mapWrite_step h hr hg (ms' := ms.push { key := kv, val := vv, born := clock }) (clock' := clock + 1) ?_⟩
            · simp only [Instr.mapUpdate, Sem.run_bind, run_und hd, Result.andThen_ok, run_getMap hw, run_checkKey hkind, hfk, run_setMap hw]
            · refine ⟨by have := hE.1; simpa using this, fun i a c ha hc => ?_⟩
              rw [Array.toList_push] at hc
              have hl := hE.1
              by_cases hi : i < es.length
              · rw [List.getElem?_append_left hi] at ha
                rw [List.getElem?_append_left (by omega)] at hc
                exact hE.2 i a c ha hc
              · rw [List.getElem?_append_right (by omega)] at ha
                rw [List.getElem?_append_right (by omega)] at hc
                rw [← hl] at hc
                cases hi0 : i - es.length with
                | zero =>
                  rw [hi0] at ha hc
                  simp at ha hc
                  subst ha hc
                  exact ⟨hk, hv⟩
                | succ n => rw [hi0] at ha; simp at ha
          · simp at hu
      · simp at hu
    · simp at hu
  · simp at hu

theorem bytesOfA_rel : ∀ {cs : List AV} {bs : List UInt8} {vs : List Value}, bytesOfA cs = some bs → VRs G cs vs → ∃ ns : List Int, vs = ns.map (Value.int .u8) ∧ bs = ns.map fun n => UInt8.ofNat n.toNat
  | [], bs, vs, h, hv => by
    simp only [bytesOfA, Option.some.injEq] at h
    subst h
    have : vs = [] := by have := hv.1; simpa using this.symm
    subst this
    exact ⟨[], rfl, rfl⟩
  | c :: cs, bs, [], h, hv => by have := hv.1; simp at this
  | c :: cs, bs, v :: vs, h, hv => by
    obtain ⟨h1, h2⟩ := hv.of_cons
    unfold bytesOfA at h
    split at h
    · rename_i e; simp at e
    · rename_i n cs' e
      simp only [List.cons.injEq] at e
      obtain ⟨rfl, rfl⟩ := e
      split at h
      · rename_i bs' hb
        simp only [Option.some.injEq] at h
        subst h
        obtain ⟨ns, rfl, rfl⟩ := bytesOfA_rel hb h2
        cases h1
        exact ⟨n :: ns, rfl, rfl⟩
      · simp at h
    · simp at h

theorem foldl_push (ns : List Int) : ∀ s : ByteArray, (ns.foldl (fun r n => r.push (UInt8.ofNat n.toNat)) s).data.toList = s.data.toList ++ ns.map fun n => UInt8.ofNat n.toNat := by
  induction ns with
  | nil => intro s; simp
  | cons n ns ih => intro s; rw [List.foldl_cons, ih]; simp [ByteArray.push]

theorem convert_sim (h : R B H w G) {src dst : TypeId} {x c : AV} {xv : Value} (hx : VR G x xv) (hc : convertA P H src dst x = some c) : ∃ v, (convert src dst xv).run P w = .ok v w ∧ VR G c v := by
  unfold convertA at hc
  split at hc
  · rename_i e hs hd
    split at hc
    · rename_i he
      split at hc
      · rename_i n cs hsrc
        split at hc
        · rename_i bs hbs
          obtain ⟨nv, h1, h2, h3, h4⟩ := src_sim (P := P) h hx hsrc
          obtain ⟨ns, hns, rfl⟩ := bytesOfA_rel hbs h1
          split at hc
          · simp only [Option.some.injEq] at hc
            subst hc
            cases hx with
            | sl hr hl hcx =>
              rename_i b o xx cap
              have hl3 := h3 w
              simp [Builtin.lenOf] at hl3
              subst hl3
              have hf := h4 w (fun _ => rfl)
              simp only [Builtin.firstCells, Nat.mul_one] at hf
              rw [hns] at hf
              refine ⟨_, by rw [run_convert_bytes_string w src dst e _ _ _ hs he hd, run_bytesToString w _ _ _ ns hf], .str _ _ ?_⟩
              rw [foldl_push]
              rfl
          · simp only [Option.some.injEq] at hc
            subst hc
            cases hx
            have hl3 := h3 w
            simp [Builtin.lenOf] at hl3
            have : ns = [] := by
              have e1 : (ns.map (Value.int .u8)).length = 0 := by rw [← hns, h2, ← hl3]
              simpa using e1
            subst this
            refine ⟨.string .empty, ?_, .str _ _ rfl⟩
            rw [run_convert_bytes_string w src dst e _ _ _ hs he hd]
            rfl
          · simp at hc
        · simp at hc
      · simp at hc
    · simp at hc
  · rename_i ds k hn hs hd
    split at hc
    · simp only [Option.some.injEq] at hc
      subst hc
      cases hx
      refine ⟨_, ?_, .int _ _⟩
      simp [convert, run_und hs, run_und hd, Conv.intToInt]
    · simp only [Option.some.injEq] at hc
      subst hc
      cases hx
      rename_i k0 e0
      refine ⟨_, ?_, .sx _ _⟩
      simp [convert, run_und hs, run_und hd, Conv.intToInt, Sx.eval]
    · simp at hc
  · rename_i hn hs hd
    split at hc
    · simp only [Option.some.injEq] at hc
      subst hc
      have hx' := hx
      cases hx with
      | str sv _ he =>
        refine ⟨.string sv, ?_, hx'⟩
        simp [convert, run_und hs, run_und hd]
    · simp at hc
  · simp at hc
end
end Go.Ab
