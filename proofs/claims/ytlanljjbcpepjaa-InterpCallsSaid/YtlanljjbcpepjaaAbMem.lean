/- Memory under the abstract machine's relation: new blocks, writes, blocks handed on. -/
import Derived.Test.YtlanljjbcpepjaaAbRel
namespace Go.Ab
open Go Go.RowKit

theorem cell_lt {w : World} {b o : Nat} {v : Value} (h : w.cell? ⟨b, o, none⟩ = some v) : b < w.heap.size := World.block_lt_of_cell? w ⟨b, o, none⟩ h

theorem R.congr {B : Bs} {H H' : Hp} {w : World} {G : Gh} (h : R B H w G) (hn : H'.next = H.next) (hg : ∀ r, (G.β r).isSome → H'.get r = H.get r) : R B H' w G := by
  have k : ∀ r p, G.β r = some p → H'.get r = H.get r := fun r p hr => hg r (by simp [hr])
  exact {
    base := h.base
    dom := fun r p hr => by rw [hn]; exact h.dom r p hr
    lt := h.lt
    cells := fun r b o x cs imm tip hr hc => h.cells r b o x cs imm tip hr (by rw [← k r _ hr]; exact hc)
    imm := fun r b o x cs imm tip hr hc => h.imm r b o x cs imm tip hr (by rw [← k r _ hr]; exact hc)
    ext := fun r b o x cs imm tip hr hc => h.ext r b o x cs imm tip hr (by rw [← k r _ hr]; exact hc)
    fits := fun r b o x cs imm tip hr hc => h.fits r b o x cs imm tip hr (by rw [← k r _ hr]; exact hc)
    room := fun r b o x cs imm tip hr hc => h.room r b o x cs imm tip hr (by rw [← k r _ hr]; exact hc)
    apart := fun r b o x cs imm tip r' b' o' x' cs' imm' tip' hr hc hr' hc' => h.apart r b o x cs imm tip r' b' o' x' cs' imm' tip' hr (by rw [← k r _ hr]; exact hc) hr' (by rw [← k r' _ hr']; exact hc')
    map := fun r b o x es hr hc => h.map r b o x es hr (by rw [← k r _ hr]; exact hc)
    mapApart := fun r b o x es r' b' o' x' hr hc hr' hs => h.mapApart r b o x es r' b' o' x' hr (by rw [← k r _ hr]; exact hc) hr' (by rw [← k r' _ hr']; exact hs)
    frz := h.frz
    val := h.val
    sym := h.sym }

theorem R.kill {B : Bs} {H : Hp} {w : World} {G : Gh} (h : R B H w G) (r0 : Nat) : R B (H.kill r0) w G := by
  have k : ∀ j b, (H.kill r0).get j = some b → H.get j = some b := fun j b hj => by
    rw [Hp.get_kill] at hj
    split at hj
    · simp at hj
    · exact hj
  exact {
    base := h.base
    dom := h.dom
    lt := h.lt
    cells := fun r b o x cs imm tip hr hc => h.cells r b o x cs imm tip hr (k _ _ hc)
    imm := fun r b o x cs imm tip hr hc => h.imm r b o x cs imm tip hr (k _ _ hc)
    ext := fun r b o x cs imm tip hr hc => h.ext r b o x cs imm tip hr (k _ _ hc)
    fits := fun r b o x cs imm tip hr hc => h.fits r b o x cs imm tip hr (k _ _ hc)
    room := fun r b o x cs imm tip hr hc => h.room r b o x cs imm tip hr (k _ _ hc)
    apart := fun r b o x cs imm tip r' b' o' x' cs' imm' tip' hr hc hr' hc' => h.apart r b o x cs imm tip r' b' o' x' cs' imm' tip' hr (k _ _ hc) hr' (k _ _ hc')
    map := fun r b o x es hr hc => h.map r b o x es hr (k _ _ hc)
    mapApart := fun r b o x es r' b' o' x' hr hc hr' hs => h.mapApart r b o x es r' b' o' x' hr (k _ _ hc) hr' (by
      cases hh : (H.kill r0).get r' with
      | none => simp [hh] at hs
      | some b => rw [k _ _ hh]; rfl)
    frz := h.frz
    val := h.val
    sym := h.sym }

def Gh.add (G : Gh) (r : Nat) (p : Nat × Nat × Nat) : Gh := { β := fun k => if k = r then some p else G.β k, F := G.F, ρ := G.ρ }

theorem Gh.add_self (G : Gh) (r : Nat) (p : Nat × Nat × Nat) : (G.add r p).β r = some p := by simp [Gh.add]
theorem Gh.add_ext {G : Gh} {r : Nat} {p : Nat × Nat × Nat} (h : ∀ q, G.β r = some q → False) : Ext G (G.add r p) :=
  ⟨fun k q hk => by
    simp only [Gh.add]
    split
    · rename_i e; subst e; exact (h q hk).elim
    · exact hk, fun _ _ _ h => h, rfl⟩

theorem Holds.mono {G G' : Gh} {w : World} {b o : Nat} {cs : List AV} (e : Ext G G') (h : Holds G w b o cs) : Holds G' w b o cs :=
  fun j c hj => let ⟨v, h1, h2⟩ := h j c hj; ⟨v, h1, h2.mono e⟩

theorem Ents.mono {G G' : Gh} {es : List (AV × AV)} {ms : List MapEntry} (e : Ext G G') (h : Ents G es ms) : Ents G' es ms :=
  ⟨h.1, fun i a b ha hb => ⟨(h.2 i a b ha hb).1.mono e, (h.2 i a b ha hb).2.mono e⟩⟩

/-- A block of the abstract heap that stood for nothing yet is given its row of cells: what the block says, and spare cells behind it. -/
theorem mat_step {B : Bs} {nx r0 : Nat} {X : Hp} {w : World} {G : Gh} (h : R B X w G) {cs : List AV} {vs : List Value} (hno : ∀ q, G.β r0 = some q → False) (hlt0 : r0 < X.next) (hgetn : X.get r0 = some (.cells cs 0 true)) (hnx : nx ≤ r0)
    (hv : VRs G cs vs) (spare : List Value) (e : TypeId) :
    Step B nx G w X (w.alloc (.cells (vs ++ spare).toArray e)) (G.add r0 (w.heap.size, 0, vs.length + spare.length)) := by
  have hext : Ext G (G.add r0 (w.heap.size, 0, vs.length + spare.length)) := Gh.add_ext hno
  have hold : ∀ k b' o', k < w.heap.size → b' = k → (w.alloc (.cells (vs ++ spare).toArray e)).cell? ⟨b', o', none⟩ = w.cell? ⟨b', o', none⟩ := fun k b' o' hk hb => World.cell?_alloc_lt _ _ _ (by simpa [hb] using hk)
  have hnew : ∀ j, (w.alloc (.cells (vs ++ spare).toArray e)).cell? ⟨w.heap.size, j, none⟩ = (vs ++ spare)[j]? := fun j => by
    rw [World.cell?_alloc_new]; simp
  have hβ : ∀ r p, (G.add r0 (w.heap.size, 0, vs.length + spare.length)).β r = some p → (r = r0 ∧ p = (w.heap.size, 0, vs.length + spare.length)) ∨ (r ≠ r0 ∧ G.β r = some p) := fun r p hr => by
    simp only [Gh.add] at hr
    split at hr
    · rename_i e; exact .inl ⟨e, by simpa using hr.symm⟩
    · rename_i e; exact .inr ⟨e, hr⟩
  refine ⟨?_, hext, ⟨rfl, rfl, rfl, by simp, fun k hk _ => ?_⟩, fun r b o x hr => ?_, fun r p hr => (hβ r p hr).elim (fun e => .inr (by rw [e.1]; exact hnx)) (fun e => .inl e.2), by omega, fun _ _ _ h => .inl h⟩
  · exact {
      base := by have := h.base; simp; omega
      dom := fun r p hr => by
        rcases hβ r p hr with ⟨rfl, _⟩ | ⟨_, hr'⟩
        · exact hlt0
        · exact h.dom r p hr'
      lt := fun r b o x hr => by
        rcases hβ r _ hr with ⟨rfl, hp⟩ | ⟨_, hr'⟩
        · simp only [Prod.mk.injEq] at hp; obtain ⟨rfl, rfl, rfl⟩ := hp
          exact ⟨h.base, by simp⟩
        · have := h.lt r b o x hr'; exact ⟨this.1, by simp; omega⟩
      cells := fun r b o x cs' imm tip hr hc => by
        rcases hβ r _ hr with ⟨rfl, hp⟩ | ⟨hne, hr'⟩
        · simp only [Prod.mk.injEq] at hp; obtain ⟨rfl, rfl, rfl⟩ := hp
          rw [hgetn] at hc
          simp only [Option.some.injEq, HB.cells.injEq] at hc
          obtain ⟨rfl, rfl, rfl⟩ := hc
          intro j c hj
          have hjl : j < cs.length := (List.getElem?_eq_some_iff.1 hj).1
          have hjv : j < vs.length := by have := hv.1; omega
          refine ⟨vs[j], ?_, (hv.2 j c _ hj (List.getElem?_eq_getElem hjv)).mono hext⟩
          rw [Nat.zero_add, hnew, List.getElem?_append_left hjv, List.getElem?_eq_getElem hjv]
        · intro j c hj
          obtain ⟨v, h1, h2⟩ := h.cells r b o x cs' imm tip hr' hc j c hj
          exact ⟨v, by rw [hold _ _ _ (cell_lt h1) rfl]; exact h1, h2.mono hext⟩
      imm := fun r b o x cs' imm tip hr hc j hj hjl => by
        rcases hβ r _ hr with ⟨rfl, hp⟩ | ⟨hne, hr'⟩
        · rw [hgetn] at hc
          simp only [Option.some.injEq, HB.cells.injEq] at hc
          obtain ⟨rfl, rfl, rfl⟩ := hc
          omega
        · exact h.imm r b o x cs' imm tip hr' hc j hj hjl
      ext := fun r b o x cs' imm tip hr hc => by
        rcases hβ r _ hr with ⟨rfl, hp⟩ | ⟨hne, hr'⟩
        · simp only [Prod.mk.injEq] at hp; obtain ⟨rfl, rfl, rfl⟩ := hp
          rw [hgetn] at hc
          simp only [Option.some.injEq, HB.cells.injEq] at hc
          obtain ⟨rfl, rfl, rfl⟩ := hc
          have := hv.1
          simp only [reach]; omega
        · exact h.ext r b o x cs' imm tip hr' hc
      fits := fun r b o x cs' imm tip hr hc => by
        rcases hβ r _ hr with ⟨rfl, hp⟩ | ⟨hne, hr'⟩
        · simp only [Prod.mk.injEq] at hp; obtain ⟨rfl, rfl, rfl⟩ := hp
          rw [hgetn] at hc
          simp only [Option.some.injEq, HB.cells.injEq] at hc
          obtain ⟨rfl, rfl, rfl⟩ := hc
          have := hv.1
          omega
        · exact h.fits r b o x cs' imm tip hr' hc
      room := fun r b o x cs' imm tip hr hc j hj hjl => by
        rcases hβ r _ hr with ⟨rfl, hp⟩ | ⟨hne, hr'⟩
        · simp only [Prod.mk.injEq] at hp; obtain ⟨rfl, rfl, rfl⟩ := hp
          rw [hgetn] at hc
          simp only [Option.some.injEq, HB.cells.injEq] at hc
          obtain ⟨rfl, rfl, rfl⟩ := hc
          simp only [reach] at hjl
          refine ⟨⟨(vs ++ spare)[j]'(by simp; omega), ?_⟩, ?_, ?_⟩
          · rw [Nat.zero_add, hnew, List.getElem?_eq_getElem]
          · simp
          · cases hf : G.F w.heap.size (0 + j) with
            | none => exact hf
            | some v => have := cell_lt (h.frz _ _ _ hf); omega
        · obtain ⟨⟨v, h1⟩, h2, h3⟩ := h.room r b o x cs' imm tip hr' hc j hj hjl
          exact ⟨⟨v, by rw [hold _ _ _ (cell_lt h1) rfl]; exact h1⟩, by rw [World.frozen?_alloc_old _ _ _ (by have := cell_lt h1; simp; omega)]; exact h2, h3⟩
      apart := fun r b o x cs1 imm tip r' b' o' x' cs2 imm' tip' hr hc hr' hc' hne j j' hj hjl hj' hjl' he => by
        rcases hβ r _ hr with ⟨rfl, hp⟩ | ⟨hn1, hr1⟩
        · simp only [Prod.mk.injEq] at hp; obtain ⟨rfl, rfl, rfl⟩ := hp
          rcases hβ r' _ hr' with ⟨rfl, hp⟩ | ⟨hn2, hr2⟩
          · exact (hne rfl).elim
          · have := (h.lt r' b' o' x' hr2).2; omega
        · rcases hβ r' _ hr' with ⟨rfl, hp⟩ | ⟨hn2, hr2⟩
          · simp only [Prod.mk.injEq] at hp; obtain ⟨rfl, rfl, rfl⟩ := hp
            have := (h.lt r b o x hr1).2; omega
          · exact h.apart r b o x cs1 imm tip r' b' o' x' cs2 imm' tip' hr1 hc hr2 hc' hne j j' hj hjl hj' hjl' he
      map := fun r b o x es hr hc => by
        rcases hβ r _ hr with ⟨rfl, hp⟩ | ⟨hne, hr'⟩
        · rw [hgetn] at hc; simp at hc
        · obtain ⟨ms, clock, h1, h2⟩ := h.map r b o x es hr' hc
          refine ⟨ms, clock, ?_, h2.mono hext⟩
          rw [Below.heap_alloc _ _ _ (h.lt r b o x hr').2]; exact h1
      mapApart := fun r b o x es r' b' o' x' hr hc hr' hs hne => by
        rcases hβ r _ hr with ⟨rfl, hp⟩ | ⟨hn1, hr1⟩
        · rw [hgetn] at hc; simp at hc
        · rcases hβ r' _ hr' with ⟨rfl, hp⟩ | ⟨hn2, hr2⟩
          · simp only [Prod.mk.injEq] at hp; obtain ⟨rfl, rfl, rfl⟩ := hp
            have := (h.lt r b o x hr1).2; omega
          · exact h.mapApart r b o x es r' b' o' x' hr1 hc hr2 hs hne
      frz := fun b o v hf => by
        have := h.frz b o v hf
        rw [hold _ _ _ (cell_lt this) rfl]; exact this
      val := h.val
      sym := h.sym }
  · exact Below.heap_alloc _ _ _ hk
  · rcases hβ r _ hr with ⟨rfl, hp⟩ | ⟨_, hr'⟩
    · simp only [Prod.mk.injEq] at hp; obtain ⟨rfl, rfl, rfl⟩ := hp
      exact .inr (.inl (Nat.le_refl _))
    · exact .inl hr'

/-- A new map. -/
theorem matMap_step {B : Bs} {nx r0 : Nat} {X : Hp} {w : World} {G : Gh} (h : R B X w G) (hno : ∀ q, G.β r0 = some q → False) (hlt0 : r0 < X.next) (hgetn : X.get r0 = some (.map [])) (hnx : nx ≤ r0) :
    Step B nx G w X (w.alloc (.map #[] 0)) (G.add r0 (w.heap.size, 0, 0)) := by
  have hext : Ext G (G.add r0 (w.heap.size, 0, 0)) := Gh.add_ext hno
  have hold : ∀ k b' o', k < w.heap.size → b' = k → (w.alloc (.map #[] 0)).cell? ⟨b', o', none⟩ = w.cell? ⟨b', o', none⟩ := fun k b' o' hk hb => World.cell?_alloc_lt _ _ _ (by simpa [hb] using hk)
  have hβ : ∀ r p, (G.add r0 (w.heap.size, 0, 0)).β r = some p → (r = r0 ∧ p = (w.heap.size, 0, 0)) ∨ (r ≠ r0 ∧ G.β r = some p) := fun r p hr => by
    simp only [Gh.add] at hr
    split at hr
    · rename_i e; exact .inl ⟨e, by simpa using hr.symm⟩
    · rename_i e; exact .inr ⟨e, hr⟩
  refine ⟨?_, hext, ⟨rfl, rfl, rfl, by simp, fun k hk _ => ?_⟩, fun r b o x hr => ?_, fun r p hr => (hβ r p hr).elim (fun e => .inr (by rw [e.1]; exact hnx)) (fun e => .inl e.2), by omega, fun _ _ _ h => .inl h⟩
  · exact {
      base := by have := h.base; simp; omega
      dom := fun r p hr => by
        rcases hβ r p hr with ⟨rfl, _⟩ | ⟨_, hr'⟩
        · exact hlt0
        · exact h.dom r p hr'
      lt := fun r b o x hr => by
        rcases hβ r _ hr with ⟨rfl, hp⟩ | ⟨_, hr'⟩
        · simp only [Prod.mk.injEq] at hp; obtain ⟨rfl, rfl, rfl⟩ := hp
          exact ⟨h.base, by simp⟩
        · have := h.lt r b o x hr'; exact ⟨this.1, by simp; omega⟩
      cells := fun r b o x cs' imm tip hr hc => by
        rcases hβ r _ hr with ⟨rfl, hp⟩ | ⟨hne, hr'⟩
        · rw [hgetn] at hc; simp at hc
        · intro j c hj
          obtain ⟨v, h1, h2⟩ := h.cells r b o x cs' imm tip hr' hc j c hj
          exact ⟨v, by rw [hold _ _ _ (cell_lt h1) rfl]; exact h1, h2.mono hext⟩
      imm := fun r b o x cs' imm tip hr hc j hj hjl => by
        rcases hβ r _ hr with ⟨rfl, hp⟩ | ⟨hne, hr'⟩
        · rw [hgetn] at hc; simp at hc
        · exact h.imm r b o x cs' imm tip hr' hc j hj hjl
      ext := fun r b o x cs' imm tip hr hc => by
        rcases hβ r _ hr with ⟨rfl, hp⟩ | ⟨hne, hr'⟩
        · rw [hgetn] at hc; simp at hc
        · exact h.ext r b o x cs' imm tip hr' hc
      fits := fun r b o x cs' imm tip hr hc => by
        rcases hβ r _ hr with ⟨rfl, hp⟩ | ⟨hne, hr'⟩
        · rw [hgetn] at hc; simp at hc
        · exact h.fits r b o x cs' imm tip hr' hc
      room := fun r b o x cs' imm tip hr hc j hj hjl => by
        rcases hβ r _ hr with ⟨rfl, hp⟩ | ⟨hne, hr'⟩
        · rw [hgetn] at hc; simp at hc
        · obtain ⟨⟨v, h1⟩, h2, h3⟩ := h.room r b o x cs' imm tip hr' hc j hj hjl
          exact ⟨⟨v, by rw [hold _ _ _ (cell_lt h1) rfl]; exact h1⟩, by rw [World.frozen?_alloc_old _ _ _ (by have := cell_lt h1; simp; omega)]; exact h2, h3⟩
      apart := fun r b o x cs1 imm tip r' b' o' x' cs2 imm' tip' hr hc hr' hc' hne j j' hj hjl hj' hjl' he => by
        rcases hβ r _ hr with ⟨rfl, hp⟩ | ⟨hn1, hr1⟩
        · rw [hgetn] at hc; simp at hc
        · rcases hβ r' _ hr' with ⟨rfl, hp⟩ | ⟨hn2, hr2⟩
          · rw [hgetn] at hc'; simp at hc'
          · exact h.apart r b o x cs1 imm tip r' b' o' x' cs2 imm' tip' hr1 hc hr2 hc' hne j j' hj hjl hj' hjl' he
      map := fun r b o x es hr hc => by
        rcases hβ r _ hr with ⟨rfl, hp⟩ | ⟨hne, hr'⟩
        · simp only [Prod.mk.injEq] at hp; obtain ⟨rfl, rfl, rfl⟩ := hp
          rw [hgetn] at hc
          simp only [Option.some.injEq, HB.map.injEq] at hc
          subst hc
          exact ⟨#[], 0, by show (w.heap.push _)[w.heap.size]? = _; simp, rfl, by simp⟩
        · obtain ⟨ms, clock, h1, h2⟩ := h.map r b o x es hr' hc
          refine ⟨ms, clock, ?_, h2.mono hext⟩
          rw [Below.heap_alloc _ _ _ (h.lt r b o x hr').2]; exact h1
      mapApart := fun r b o x es r' b' o' x' hr hc hr' hs hne => by
        rcases hβ r _ hr with ⟨rfl, hp⟩ | ⟨hn1, hr1⟩
        · simp only [Prod.mk.injEq] at hp; obtain ⟨rfl, rfl, rfl⟩ := hp
          rcases hβ r' _ hr' with ⟨rfl, hp⟩ | ⟨hn2, hr2⟩
          · exact (hne rfl).elim
          · have := (h.lt r' b' o' x' hr2).2; omega
        · rcases hβ r' _ hr' with ⟨rfl, hp⟩ | ⟨hn2, hr2⟩
          · simp only [Prod.mk.injEq] at hp; obtain ⟨rfl, rfl, rfl⟩ := hp
            have := (h.lt r b o x hr1).2; omega
          · exact h.mapApart r b o x es r' b' o' x' hr1 hc hr2 hs hne
      frz := fun b o v hf => by
        have := h.frz b o v hf
        rw [hold _ _ _ (cell_lt this) rfl]; exact this
      val := h.val
      sym := h.sym }
  · exact Below.heap_alloc _ _ _ hk
  · rcases hβ r _ hr with ⟨rfl, hp⟩ | ⟨_, hr'⟩
    · simp only [Prod.mk.injEq] at hp; obtain ⟨rfl, rfl, rfl⟩ := hp
      exact .inr (.inl (Nat.le_refl _))
    · exact .inl hr'


/-- New blocks of the abstract heap that stand for nothing are no matter. -/
theorem R.more {B : Bs} {H X : Hp} {w : World} {G : Gh} (h : R B H w G) (hn : H.next ≤ X.next) (hg : ∀ r, r < H.next → X.get r = H.get r) : R B X w G := by
  have k : ∀ r p, G.β r = some p → X.get r = H.get r := fun r p hr => hg r (h.dom r p hr)
  exact {
    base := h.base
    dom := fun r p hr => Nat.lt_of_lt_of_le (h.dom r p hr) hn
    lt := h.lt
    cells := fun r b o x cs imm tip hr hc => h.cells r b o x cs imm tip hr (by rw [← k r _ hr]; exact hc)
    imm := fun r b o x cs imm tip hr hc => h.imm r b o x cs imm tip hr (by rw [← k r _ hr]; exact hc)
    ext := fun r b o x cs imm tip hr hc => h.ext r b o x cs imm tip hr (by rw [← k r _ hr]; exact hc)
    fits := fun r b o x cs imm tip hr hc => h.fits r b o x cs imm tip hr (by rw [← k r _ hr]; exact hc)
    room := fun r b o x cs imm tip hr hc => h.room r b o x cs imm tip hr (by rw [← k r _ hr]; exact hc)
    apart := fun r b o x cs imm tip r' b' o' x' cs' imm' tip' hr hc hr' hc' => h.apart r b o x cs imm tip r' b' o' x' cs' imm' tip' hr (by rw [← k r _ hr]; exact hc) hr' (by rw [← k r' _ hr']; exact hc')
    map := fun r b o x es hr hc => h.map r b o x es hr (by rw [← k r _ hr]; exact hc)
    mapApart := fun r b o x es r' b' o' x' hr hc hr' hs => h.mapApart r b o x es r' b' o' x' hr (by rw [← k r _ hr]; exact hc) hr' (by rw [← k r' _ hr']; exact hs)
    frz := h.frz
    val := h.val
    sym := h.sym }

theorem R.alloc {B : Bs} {H : Hp} {w : World} {G : Gh} (h : R B H w G) (blk : HB) : R B (H.alloc blk) w G :=
  h.more (Nat.le_succ _) (fun r hr => by rw [Hp.get_alloc, if_neg (by omega)])

/-- A new row of cells: what the block says, and spare cells behind it. -/
theorem alloc_step {B : Bs} {H : Hp} {w : World} {G : Gh} (h : R B H w G) {cs : List AV} {vs : List Value} (hv : VRs G cs vs) (spare : List Value) (e : TypeId) :
    Step B H.next G w (H.alloc (.cells cs 0 true)) (w.alloc (.cells (vs ++ spare).toArray e)) (G.add H.next (w.heap.size, 0, vs.length + spare.length)) :=
  mat_step (h.alloc _) (fun q hq => by have := h.dom _ _ hq; omega) (by simp) (by rw [Hp.get_alloc, if_pos rfl]) (Nat.le_refl _) hv spare e

theorem allocMap_step {B : Bs} {H : Hp} {w : World} {G : Gh} (h : R B H w G) :
    Step B H.next G w (H.alloc (.map [])) (w.alloc (.map #[] 0)) (G.add H.next (w.heap.size, 0, 0)) :=
  matMap_step (h.alloc _) (fun q hq => by have := h.dom _ _ hq; omega) (by simp) (by rw [Hp.get_alloc, if_pos rfl]) (Nat.le_refl _)

/-- What a new block of the abstract heap stands for. -/
inductive Made (G : Gh) : HB → Obj → Nat → Prop
  | cells (cs : List AV) (vs spare : List Value) (e : TypeId) (hv : VRs G cs vs) : Made G (.cells cs 0 true) (.cells (vs ++ spare).toArray e) (vs.length + spare.length)
  | map : Made G (.map []) (.map #[] 0) 0

theorem made_step {B : Bs} {nx r0 : Nat} {X : Hp} {w : World} {G : Gh} {blk : HB} {obj : Obj} {ext : Nat} (h : R B X w G) (hno : ∀ q, G.β r0 = some q → False) (hlt0 : r0 < X.next) (hg : X.get r0 = some blk) (hnx : nx ≤ r0) (hm : Made G blk obj ext) :
    Step B nx G w X (w.alloc obj) (G.add r0 (w.heap.size, 0, ext)) := by
  cases hm with
  | cells cs vs spare e hv => exact mat_step h hno hlt0 hg hnx hv spare e
  | map => exact matMap_step h hno hlt0 hg hnx

/-- An operation that makes one new block. -/
def Makes (P : Program) (G : Gh) (w : World) {α : Type} (s : Sem α) (f : Value → α) (c : AV) (H H' : Hp) : Prop :=
  ∃ blk obj ext v, H' = H.alloc blk ∧ s.run P w = .ok (f v) (w.alloc obj) ∧ Made G blk obj ext ∧ ∀ G' : Gh, G'.β H.next = some (w.heap.size, 0, ext) → VR G' c v

theorem Makes.sim {P : Program} {B : Bs} {H H' : Hp} {w : World} {G : Gh} (h : R B H w G) {s : Sem Value} {c : AV} (hm : Makes P G w s id c H H') : ∃ v w' G', s.run P w = .ok v w' ∧ VR G' c v ∧ Step B H.next G w H' w' G' := by
  obtain ⟨blk, obj, ext, v, rfl, h1, h2, h3⟩ := hm
  exact ⟨v, _, _, h1, h3 _ (Gh.add_self _ _ _), made_step (h.alloc _) (fun q hq => by have := h.dom _ _ hq; omega) (by simp) (by rw [Hp.get_alloc, if_pos rfl]) (Nat.le_refl _) h2⟩

theorem Makes.next {P : Program} {H H' : Hp} {w : World} {G : Gh} {s : Sem Value} {c : AV} (hm : Makes P G w s id c H H') : Makes P G w (do pure (.value (← s)) : Sem Next) Next.value c H H' := by
  obtain ⟨blk, obj, ext, v, h0, h1, h2, h3⟩ := hm
  exact ⟨blk, obj, ext, v, h0, by simp [h1], h2, h3⟩

theorem ne_addr {b o b' o' : Nat} (h : b = b' → o ≠ o') : (⟨b, o, none⟩ : Addr) ≠ ⟨b', o', none⟩ := fun e => by
  simp only [Addr.mk.injEq] at e
  exact h e.1 e.2.1

/-- One cell of a block's room is written. -/
theorem write_step {B : Bs} {H : Hp} {w : World} {G : Gh} (h : R B H w G) {r b o x : Nat} {cs cs' : List AV} {imm : Nat} {tip : Bool} (hr : G.β r = some (b, o, x)) (hc : H.get r = some (.cells cs imm tip))
    {j : Nat} (hj : imm ≤ j) (hjl : j < reach x cs tip) {v : Value}
    (hcs : ∀ (i : Nat) c, cs'[i]? = some c → (i = j ∧ VR G c v) ∨ (i ≠ j ∧ cs[i]? = some c)) (hl : cs'.length ≤ reach x cs tip) (hl' : tip = false → cs'.length = cs.length) :
    Step B H.next G w (H.set r (.cells cs' imm tip)) (w.setCell ⟨b, o + j, none⟩ v) G := by
  obtain ⟨⟨u, hu⟩, hfz, hF⟩ := h.room r b o x cs imm tip hr hc j hj hjl
  have hsame : (w.setCell ⟨b, o + j, none⟩ v).cell? ⟨b, o + j, none⟩ = some v := World.cell?_setCell_same _ _ _ hu
  have hother : ∀ b' o', (b' = b → o' ≠ o + j) → (w.setCell ⟨b, o + j, none⟩ v).cell? ⟨b', o', none⟩ = w.cell? ⟨b', o', none⟩ := fun b' o' hne =>
    World.cell?_setCell_other _ _ _ _ (ne_addr fun e e' => hne e.symm e'.symm)
  have hreach : reach x cs' tip = reach x cs tip := by
    cases tip with
    | true => rfl
    | false => exact hl' rfl
  have hget : ∀ k, k ≠ r → (H.set r (.cells cs' imm tip)).get k = H.get k := fun k hk => by rw [Hp.get_set, if_neg hk]
  have hgetr : (H.set r (.cells cs' imm tip)).get r = some (.cells cs' imm tip) := by rw [Hp.get_set, if_pos rfl]
  have hkeep : ∀ b' o' v', G.F b' o' = some v' → (b' = b → o' ≠ o + j) := fun b' o' v' hf e e' => by subst e; subst e'; rw [hF] at hf; simp at hf
  have hcell : ∀ b' o', (∃ v', w.cell? ⟨b', o', none⟩ = some v') → ∃ v', (w.setCell ⟨b, o + j, none⟩ v).cell? ⟨b', o', none⟩ = some v' := fun b' o' ⟨v', hv'⟩ => by
    by_cases e : b' = b ∧ o' = o + j
    · obtain ⟨rfl, rfl⟩ := e; exact ⟨v, hsame⟩
    · exact ⟨v', by rw [hother b' o' (fun e1 e2 => e ⟨e1, e2⟩)]; exact hv'⟩
  refine ⟨?_, Ext.refl _, ⟨rfl, rfl, rfl, by simp, fun k hk hn => ?_⟩, New.refl _ _, fun _ _ h => .inl h, Nat.le_refl _, fun _ _ _ h => .inl h⟩
  · exact {
      base := by have := h.base; simpa using this
      dom := h.dom
      lt := fun r b o x hr => by have := h.lt r b o x hr; simpa using this
      cells := fun r1 b1 o1 x1 cs1 imm1 tip1 hr1 hc1 => by
        by_cases e : r1 = r
        · subst e
          rw [hr] at hr1
          simp only [Option.some.injEq, Prod.mk.injEq] at hr1; obtain ⟨rfl, rfl, rfl⟩ := hr1
          rw [hgetr] at hc1
          simp only [Option.some.injEq, HB.cells.injEq] at hc1; obtain ⟨rfl, rfl, rfl⟩ := hc1
          intro i c hi
          rcases hcs i c hi with ⟨rfl, hv⟩ | ⟨hne, hi'⟩
          · exact ⟨v, hsame, hv⟩
          · obtain ⟨v', h1, h2⟩ := h.cells r1 b o x cs imm tip hr hc i c hi'
            exact ⟨v', by rw [hother _ _ (fun _ => by omega)]; exact h1, h2⟩
        · rw [hget r1 e] at hc1
          intro i c hi
          obtain ⟨v', h1, h2⟩ := h.cells r1 b1 o1 x1 cs1 imm1 tip1 hr1 hc1 i c hi
          refine ⟨v', ?_, h2⟩
          rw [hother]
          · exact h1
          · have hil : i < cs1.length := (List.getElem?_eq_some_iff.1 hi).1
            have hex := h.ext r1 b1 o1 x1 cs1 imm1 tip1 hr1 hc1
            by_cases hi1 : imm1 ≤ i
            · exact h.apart r1 b1 o1 x1 cs1 imm1 tip1 r b o x cs imm tip hr1 hc1 hr hc e i j hi1 (by omega) hj hjl
            · obtain ⟨u', hu'⟩ := h.imm r1 b1 o1 x1 cs1 imm1 tip1 hr1 hc1 i (by omega) hil
              exact hkeep _ _ _ hu'
      imm := fun r1 b1 o1 x1 cs1 imm1 tip1 hr1 hc1 i hi hil => by
        by_cases e : r1 = r
        · subst e
          rw [hr] at hr1
          simp only [Option.some.injEq, Prod.mk.injEq] at hr1; obtain ⟨rfl, rfl, rfl⟩ := hr1
          rw [hgetr] at hc1
          simp only [Option.some.injEq, HB.cells.injEq] at hc1; obtain ⟨rfl, rfl, rfl⟩ := hc1
          rcases hcs i _ (List.getElem?_eq_getElem hil) with ⟨rfl, _⟩ | ⟨_, hi'⟩
          · omega
          · exact h.imm r1 b o x cs imm tip hr hc i hi (List.getElem?_eq_some_iff.1 hi').1
        · rw [hget r1 e] at hc1
          exact h.imm r1 b1 o1 x1 cs1 imm1 tip1 hr1 hc1 i hi hil
      ext := fun r1 b1 o1 x1 cs1 imm1 tip1 hr1 hc1 => by
        by_cases e : r1 = r
        · subst e
          rw [hr] at hr1
          simp only [Option.some.injEq, Prod.mk.injEq] at hr1; obtain ⟨rfl, rfl, rfl⟩ := hr1
          rw [hgetr] at hc1
          simp only [Option.some.injEq, HB.cells.injEq] at hc1; obtain ⟨rfl, rfl, rfl⟩ := hc1
          rw [hreach]; exact hl
        · rw [hget r1 e] at hc1
          exact h.ext r1 b1 o1 x1 cs1 imm1 tip1 hr1 hc1
      fits := fun r1 b1 o1 x1 cs1 imm1 tip1 hr1 hc1 => by
        by_cases e : r1 = r
        · subst e
          rw [hr] at hr1
          simp only [Option.some.injEq, Prod.mk.injEq] at hr1; obtain ⟨rfl, rfl, rfl⟩ := hr1
          rw [hgetr] at hc1
          simp only [Option.some.injEq, HB.cells.injEq] at hc1; obtain ⟨rfl, rfl, rfl⟩ := hc1
          rcases Bool.eq_false_or_eq_true tip with e1 | e1
          · subst e1; exact hl
          · rw [hl' e1]; exact h.fits _ _ _ _ _ _ _ hr hc
        · rw [hget r1 e] at hc1
          exact h.fits r1 b1 o1 x1 cs1 imm1 tip1 hr1 hc1
      room := fun r1 b1 o1 x1 cs1 imm1 tip1 hr1 hc1 i hi hil => by
        by_cases e : r1 = r
        · subst e
          rw [hr] at hr1
          simp only [Option.some.injEq, Prod.mk.injEq] at hr1; obtain ⟨rfl, rfl, rfl⟩ := hr1
          rw [hgetr] at hc1
          simp only [Option.some.injEq, HB.cells.injEq] at hc1; obtain ⟨rfl, rfl, rfl⟩ := hc1
          rw [hreach] at hil
          obtain ⟨h1, h2, h3⟩ := h.room r1 b o x cs imm tip hr hc i hi hil
          exact ⟨hcell _ _ h1, by rw [World.frozen?_setCell]; exact h2, h3⟩
        · rw [hget r1 e] at hc1
          obtain ⟨h1, h2, h3⟩ := h.room r1 b1 o1 x1 cs1 imm1 tip1 hr1 hc1 i hi hil
          exact ⟨hcell _ _ h1, by rw [World.frozen?_setCell]; exact h2, h3⟩
      apart := fun r1 b1 o1 x1 cs1 imm1 tip1 r2 b2 o2 x2 cs2 imm2 tip2 hr1 hc1 hr2 hc2 hne i i' hi hil hi' hil' => by
        have key : ∀ k bk ok xk csk immk tipk, G.β k = some (bk, ok, xk) → (H.set r (.cells cs' imm tip)).get k = some (.cells csk immk tipk) →
            ∃ cs0, H.get k = some (.cells cs0 immk tipk) ∧ reach xk cs0 tipk = reach xk csk tipk := fun k bk ok xk csk immk tipk hk hck => by
          by_cases e : k = r
          · subst e
            rw [hr] at hk
            simp only [Option.some.injEq, Prod.mk.injEq] at hk; obtain ⟨rfl, rfl, rfl⟩ := hk
            rw [hgetr] at hck
            simp only [Option.some.injEq, HB.cells.injEq] at hck; obtain ⟨rfl, rfl, rfl⟩ := hck
            exact ⟨cs, hc, hreach.symm⟩
          · rw [hget k e] at hck; exact ⟨csk, hck, rfl⟩
        obtain ⟨c1, g1, e1⟩ := key r1 b1 o1 x1 cs1 imm1 tip1 hr1 hc1
        obtain ⟨c2, g2, e2⟩ := key r2 b2 o2 x2 cs2 imm2 tip2 hr2 hc2
        exact h.apart r1 b1 o1 x1 c1 imm1 tip1 r2 b2 o2 x2 c2 imm2 tip2 hr1 g1 hr2 g2 hne i i' hi (by omega) hi' (by omega)
      map := fun r1 b1 o1 x1 es hr1 hc1 => by
        by_cases e : r1 = r
        · subst e; rw [hgetr] at hc1; simp at hc1
        · rw [hget r1 e] at hc1
          obtain ⟨ms, clock, h1, h2⟩ := h.map r1 b1 o1 x1 es hr1 hc1
          refine ⟨ms, clock, ?_, h2⟩
          have hb : b1 ≠ b := fun eb => by
            subst eb
            unfold World.cell? at hu
            rw [h1] at hu
            simp at hu
          rw [Below.heap_setCell _ _ _ _ hb]; exact h1
      mapApart := fun r1 b1 o1 x1 es r2 b2 o2 x2 hr1 hc1 hr2 hs hne => by
        by_cases e : r1 = r
        · subst e; rw [hgetr] at hc1; simp at hc1
        · rw [hget r1 e] at hc1
          refine h.mapApart r1 b1 o1 x1 es r2 b2 o2 x2 hr1 hc1 hr2 ?_ hne
          by_cases e2 : r2 = r
          · subst e2; rw [hc]; rfl
          · rw [hget r2 e2] at hs; exact hs
      frz := fun b' o' v' hf => by rw [hother _ _ (hkeep _ _ _ hf)]; exact h.frz _ _ _ hf
      val := h.val
      sym := h.sym }
  · exact Below.heap_setCell _ _ _ _ (fun e => hn r b o x hr e.symm)

theorem run_store_room {B : Bs} {H : Hp} {w : World} {G : Gh} (P : Program) (h : R B H w G) {r b o x : Nat} {cs : List AV} {imm : Nat} {tip : Bool} (hr : G.β r = some (b, o, x)) (hc : H.get r = some (.cells cs imm tip))
    {j : Nat} (hj : imm ≤ j) (hjl : j < reach x cs tip) {v : Value} (hone : v.oneCell' = true) :
    (store ⟨b, o + j, none⟩ v).run P w = .ok () (w.setCell ⟨b, o + j, none⟩ v) := by
  obtain ⟨⟨u, hu⟩, hfz, _⟩ := h.room r b o x cs imm tip hr hc j hj hjl
  rw [run_store P w _ v _ hone, hu]
  simp [hfz]

theorem splice_cons (cs : List AV) (off : Nat) (c : AV) (new : List AV) (h : off ≤ cs.length) : splice cs off (c :: new) = splice (splice cs off [c]) (off + 1) new := by
  unfold splice
  have h1 : (List.take off cs ++ [c] ++ List.drop (off + [c].length) cs).take (off + 1) = List.take off cs ++ [c] := by
    rw [List.take_append_of_le_length (by simp; omega), List.take_of_length_le (by simp; omega)]
  have h2 : (List.take off cs ++ [c] ++ List.drop (off + [c].length) cs).drop (off + 1 + new.length) = List.drop (off + (new.length + 1)) cs := by
    rw [List.drop_append, List.drop_of_length_le (by simp; omega)]
    simp only [List.length_append, List.length_take, List.length_cons, List.length_nil, List.drop_drop, List.nil_append]
    congr 1
    omega
  rw [h1, h2]
  simp

theorem splice_nil (cs : List AV) (off : Nat) : splice cs off [] = cs := by simp [splice]
theorem length_splice (cs : List AV) (off : Nat) (new : List AV) (h : off + new.length ≤ cs.length) : (splice cs off new).length = cs.length := by simp [splice]; omega
theorem length_splice' (cs : List AV) (off : Nat) (new : List AV) (h : off ≤ cs.length) : (splice cs off new).length = max cs.length (off + new.length) := by simp [splice]; omega
theorem splice_end (cs new : List AV) : splice cs cs.length new = cs ++ new := by simp [splice]

theorem splice_one {cs : List AV} {j : Nat} (c : AV) (hj : j ≤ cs.length) {i : Nat} {d : AV} (h : (splice cs j [c])[i]? = some d) : (i = j ∧ d = c) ∨ (i ≠ j ∧ cs[i]? = some d) := by
  unfold splice at h
  by_cases hi : i < j
  · rw [List.append_assoc, List.getElem?_append_left (by simp; omega), List.getElem?_take, if_pos hi] at h
    exact .inr ⟨by omega, h⟩
  · by_cases e : i = j
    · subst e
      rw [List.append_assoc, List.getElem?_append_right (by simp; omega)] at h
      have e0 : i - (List.take i cs).length = 0 := by simp; omega
      rw [e0] at h
      simp at h
      exact .inl ⟨rfl, h.symm⟩
    · rw [List.getElem?_append_right (by simp; omega)] at h
      rw [List.getElem?_drop] at h
      refine .inr ⟨e, ?_⟩
      rw [← h]
      congr 1
      simp
      omega

theorem addr_add (b o i : Nat) : (⟨b, o, none⟩ : Addr).add i = ⟨b, o + i, none⟩ := by
  unfold Addr.add
  split
  · rename_i e; subst e; rfl
  · rfl

theorem Step.congr {B : Bs} {nx : Nat} {G G' : Gh} {w w' : World} {H H' : Hp} (h : Step B nx G w H w' G') (hn : H'.next = H.next) (hg : ∀ r, (G'.β r).isSome → H'.get r = H.get r) : Step B nx G w H' w' G' :=
  ⟨h.r.congr hn hg, h.ext, h.fr, h.new, h.low, by rw [hn]; exact h.mono, h.icy⟩

/-- Several cells are written, inside the block or on into its room. -/
theorem writes_step {B : Bs} (P : Program) {G : Gh} {r b o x : Nat} {imm : Nat} {tip : Bool} (hr : G.β r = some (b, o, x)) (off : Nat) : ∀ (new : List AV) (vs : List Value) (cs : List AV) (i : Nat) (H : Hp) (w : World), R B H w G →
    H.get r = some (.cells cs imm tip) → VRs G new vs → (∀ v ∈ vs, v.oneCell' = true) → imm ≤ off + i → off + i ≤ cs.length → off + i + new.length ≤ reach x cs tip → (tip = false → off + i + new.length ≤ cs.length) →
    ∃ w', (storeCells ⟨b, o + off, none⟩ vs i).run P w = .ok () w' ∧ Step B H.next G w (H.set r (.cells (splice cs (off + i) new) imm tip)) w' G := by
  intro new
  induction new with
  | nil =>
    intro vs cs i H w hR hc hv hone hi hoff hlen _
    have hvs : vs = [] := by have := hv.1; simpa using this.symm
    subst hvs
    refine ⟨w, rfl, (Step.refl hR).congr rfl fun k _ => ?_⟩
    rw [Hp.get_set, splice_nil]
    split
    · rename_i e; subst e; rw [hc]
    · rfl
  | cons c new ih =>
    intro vs cs i H w hR hc hv hone hi hoff hlen hlen'
    cases vs with
    | nil => have := hv.1; simp at this
    | cons v vs =>
      obtain ⟨hv1, hvs⟩ := hv.of_cons
      simp only [List.length_cons] at hlen hlen'
      have hl1 : (splice cs (off + i) [c]).length = max cs.length (off + i + 1) := length_splice' _ _ _ hoff
      have hext := hR.ext r b o x cs imm tip hr hc
      have hst := write_step hR hr hc (j := off + i) (cs' := splice cs (off + i) [c]) (v := v) hi (by omega)
        (fun k d hk => by
          rcases splice_one c hoff hk with ⟨e1, e2⟩ | h2
          · subst e2; exact .inl ⟨e1, hv1⟩
          · exact .inr h2)
        (by rw [hl1]; cases tip with
            | true => simp only [reach] at *; omega
            | false => have := hlen' rfl; simp only [reach] at *; omega)
        (fun ht => by have := hlen' ht; rw [hl1]; omega)
      have hrun := run_store_room P hR hr hc (j := off + i) hi (by omega) (v := v) (hone v (by simp))
      have hg1 : (H.set r (.cells (splice cs (off + i) [c]) imm tip)).get r = some (.cells (splice cs (off + i) [c]) imm tip) := by rw [Hp.get_set, if_pos rfl]
      have hreach : reach x (splice cs (off + i) [c]) tip = reach x cs tip := by
        cases tip with
        | true => rfl
        | false => have := hlen' rfl; simp only [reach]; omega
      obtain ⟨w', hw', hs'⟩ := ih vs (splice cs (off + i) [c]) (i + 1) _ _ hst.r hg1 hvs (fun u hu => hone u (by simp [hu])) (by omega) (by rw [hl1]; omega) (by rw [hreach]; omega) (fun ht => by have := hlen' ht; rw [hl1]; omega)
      refine ⟨w', ?_, (hst.trans hs').congr rfl fun k _ => ?_⟩
      · simp only [storeCells, Sem.run_bind]
        rw [addr_add, Nat.add_assoc, hrun]
        exact hw'
      · rw [Hp.get_set, Hp.get_set, Hp.get_set, splice_cons _ _ _ _ hoff]
        split
        · rfl
        · rfl

/-- A block that is the tip of its row is handed on under a new number, its first cells dropped. -/
theorem rename_step {B : Bs} {H : Hp} {w : World} {G : Gh} (h : R B H w G) {r b o x : Nat} {cs : List AV} {imm : Nat} (hr : G.β r = some (b, o, x)) (hc : H.get r = some (.cells cs imm true)) {off : Nat} (hoff : off ≤ cs.length) :
    Step B H.next G w ((H.kill r).alloc (.cells (cs.drop off) (imm - off) true)) w (G.add H.next (b, o + off, x - off)) := by
  have hno : ∀ q, G.β H.next = some q → False := fun q hq => by have := h.dom _ _ hq; omega
  have hext : Ext G (G.add H.next (b, o + off, x - off)) := Gh.add_ext hno
  have hrn : r ≠ H.next := fun e => by subst e; exact hno _ hr
  have hβ : ∀ k p, (G.add H.next (b, o + off, x - off)).β k = some p → (k = H.next ∧ p = (b, o + off, x - off)) ∨ (k ≠ H.next ∧ G.β k = some p) := fun k p hk => by
    simp only [Gh.add] at hk
    split at hk
    · rename_i e; exact .inl ⟨e, by simpa using hk.symm⟩
    · rename_i e; exact .inr ⟨e, hk⟩
  have hget : ∀ k q, k ≠ H.next → ((H.kill r).alloc (.cells (cs.drop off) (imm - off) true)).get k = some q → k ≠ r ∧ H.get k = some q := fun k q hk hq => by
    rw [Hp.get_alloc, Hp.next_kill, if_neg hk, Hp.get_kill] at hq
    split at hq
    · simp at hq
    · rename_i e; exact ⟨e, hq⟩
  have hgetn : ((H.kill r).alloc (.cells (cs.drop off) (imm - off) true)).get H.next = some (.cells (cs.drop off) (imm - off) true) := by rw [Hp.get_alloc, Hp.next_kill, if_pos rfl]
  have hlen := h.ext r b o x cs imm true hr hc
  simp only [reach] at hlen
  refine ⟨?_, hext, Fr.refl _ _, fun k b' o' x' hk => ?_, fun k p hk => (hβ k p hk).elim (fun e => .inr (by rw [e.1]; exact Nat.le_refl _)) (fun e => .inl e.2), by simp, fun _ _ _ h => .inl h⟩
  · exact {
      base := h.base
      dom := fun k p hk => by
        rcases hβ k p hk with ⟨rfl, _⟩ | ⟨_, hk'⟩
        · simp
        · have := h.dom k p hk'; simp; omega
      lt := fun k b' o' x' hk => by
        rcases hβ k _ hk with ⟨rfl, hp⟩ | ⟨_, hk'⟩
        · simp only [Prod.mk.injEq] at hp; obtain ⟨rfl, rfl, rfl⟩ := hp
          exact h.lt r _ _ _ hr
        · exact h.lt k b' o' x' hk'
      cells := fun k b' o' x' cs' imm' tip' hk hck => by
        rcases hβ k _ hk with ⟨rfl, hp⟩ | ⟨hne, hk'⟩
        · simp only [Prod.mk.injEq] at hp; obtain ⟨rfl, rfl, rfl⟩ := hp
          rw [hgetn] at hck
          simp only [Option.some.injEq, HB.cells.injEq] at hck; obtain ⟨rfl, rfl, rfl⟩ := hck
          intro j c hj
          rw [List.getElem?_drop] at hj
          obtain ⟨v, h1, h2⟩ := h.cells r _ _ _ _ _ _ hr hc (off + j) c hj
          exact ⟨v, by rw [Nat.add_assoc]; exact h1, h2.mono hext⟩
        · obtain ⟨_, hck'⟩ := hget k _ hne hck
          exact (h.cells k b' o' x' cs' imm' tip' hk' hck').mono hext
      imm := fun k b' o' x' cs' imm' tip' hk hck j hj hjl => by
        rcases hβ k _ hk with ⟨rfl, hp⟩ | ⟨hne, hk'⟩
        · simp only [Prod.mk.injEq] at hp; obtain ⟨rfl, rfl, rfl⟩ := hp
          rw [hgetn] at hck
          simp only [Option.some.injEq, HB.cells.injEq] at hck; obtain ⟨rfl, rfl, rfl⟩ := hck
          rw [List.length_drop] at hjl
          rw [Nat.add_assoc]
          exact h.imm r _ _ _ _ _ _ hr hc (off + j) (by omega) (by omega)
        · obtain ⟨_, hck'⟩ := hget k _ hne hck
          exact h.imm k b' o' x' cs' imm' tip' hk' hck' j hj hjl
      ext := fun k b' o' x' cs' imm' tip' hk hck => by
        rcases hβ k _ hk with ⟨rfl, hp⟩ | ⟨hne, hk'⟩
        · simp only [Prod.mk.injEq] at hp; obtain ⟨rfl, rfl, rfl⟩ := hp
          rw [hgetn] at hck
          simp only [Option.some.injEq, HB.cells.injEq] at hck; obtain ⟨rfl, rfl, rfl⟩ := hck
          simp only [reach, List.length_drop]; omega
        · obtain ⟨_, hck'⟩ := hget k _ hne hck
          exact h.ext k b' o' x' cs' imm' tip' hk' hck'
      fits := fun k b' o' x' cs' imm' tip' hk hck => by
        rcases hβ k _ hk with ⟨rfl, hp⟩ | ⟨hne, hk'⟩
        · simp only [Prod.mk.injEq] at hp; obtain ⟨rfl, rfl, rfl⟩ := hp
          rw [hgetn] at hck
          simp only [Option.some.injEq, HB.cells.injEq] at hck; obtain ⟨rfl, rfl, rfl⟩ := hck
          simp only [List.length_drop]; omega
        · obtain ⟨_, hck'⟩ := hget k _ hne hck
          exact h.fits k b' o' x' cs' imm' tip' hk' hck'
      room := fun k b' o' x' cs' imm' tip' hk hck j hj hjl => by
        rcases hβ k _ hk with ⟨rfl, hp⟩ | ⟨hne, hk'⟩
        · simp only [Prod.mk.injEq] at hp; obtain ⟨rfl, rfl, rfl⟩ := hp
          rw [hgetn] at hck
          simp only [Option.some.injEq, HB.cells.injEq] at hck; obtain ⟨rfl, rfl, rfl⟩ := hck
          simp only [reach] at hjl
          rw [Nat.add_assoc]
          exact h.room r _ _ _ _ _ _ hr hc (off + j) (by omega) (by simp only [reach]; omega)
        · obtain ⟨_, hck'⟩ := hget k _ hne hck
          exact h.room k b' o' x' cs' imm' tip' hk' hck' j hj hjl
      apart := fun k1 b1 o1 x1 cs1 imm1 tip1 k2 b2 o2 x2 cs2 imm2 tip2 hk1 hc1 hk2 hc2 hne j1 j2 hj1 hl1 hj2 hl2 he => by
        rcases hβ k1 _ hk1 with ⟨rfl, hp⟩ | ⟨hn1, hk1'⟩
        · simp only [Prod.mk.injEq] at hp; obtain ⟨rfl, rfl, rfl⟩ := hp
          rw [hgetn] at hc1
          simp only [Option.some.injEq, HB.cells.injEq] at hc1; obtain ⟨rfl, rfl, rfl⟩ := hc1
          simp only [reach] at hl1
          rcases hβ k2 _ hk2 with ⟨rfl, hp⟩ | ⟨hn2, hk2'⟩
          · exact (hne rfl).elim
          · obtain ⟨hr2, hc2'⟩ := hget k2 _ hn2 hc2
            rw [Nat.add_assoc]
            exact h.apart r _ _ _ _ _ _ k2 b2 o2 x2 cs2 imm2 tip2 hr hc hk2' hc2' (Ne.symm hr2) (off + j1) j2 (by omega) (by simp only [reach]; omega) hj2 hl2 he
        · obtain ⟨hr1, hc1'⟩ := hget k1 _ hn1 hc1
          rcases hβ k2 _ hk2 with ⟨rfl, hp⟩ | ⟨hn2, hk2'⟩
          · simp only [Prod.mk.injEq] at hp; obtain ⟨rfl, rfl, rfl⟩ := hp
            rw [hgetn] at hc2
            simp only [Option.some.injEq, HB.cells.injEq] at hc2; obtain ⟨rfl, rfl, rfl⟩ := hc2
            simp only [reach] at hl2
            rw [Nat.add_assoc]
            exact h.apart k1 b1 o1 x1 cs1 imm1 tip1 r _ _ _ _ _ _ hk1' hc1' hr hc hr1 j1 (off + j2) hj1 hl1 (by omega) (by simp only [reach]; omega) he
          · obtain ⟨hr2, hc2'⟩ := hget k2 _ hn2 hc2
            exact h.apart k1 b1 o1 x1 cs1 imm1 tip1 k2 b2 o2 x2 cs2 imm2 tip2 hk1' hc1' hk2' hc2' hne j1 j2 hj1 hl1 hj2 hl2 he
      map := fun k b' o' x' es hk hck => by
        rcases hβ k _ hk with ⟨rfl, hp⟩ | ⟨hne, hk'⟩
        · rw [hgetn] at hck; simp at hck
        · obtain ⟨_, hck'⟩ := hget k _ hne hck
          obtain ⟨ms, clock, h1, h2⟩ := h.map k b' o' x' es hk' hck'
          exact ⟨ms, clock, h1, h2.mono hext⟩
      mapApart := fun k1 b1 o1 x1 es k2 b2 o2 x2 hk1 hc1 hk2 hs hne => by
        rcases hβ k1 _ hk1 with ⟨rfl, hp⟩ | ⟨hn1, hk1'⟩
        · rw [hgetn] at hc1; simp at hc1
        · obtain ⟨hr1, hc1'⟩ := hget k1 _ hn1 hc1
          rcases hβ k2 _ hk2 with ⟨rfl, hp⟩ | ⟨hn2, hk2'⟩
          · simp only [Prod.mk.injEq] at hp; obtain ⟨rfl, rfl, rfl⟩ := hp
            exact h.mapApart k1 b1 o1 x1 es r _ _ _ hk1' hc1' hr (by rw [hc]; rfl) hr1
          · cases hh : ((H.kill r).alloc (.cells (cs.drop off) (imm - off) true)).get k2 with
            | none => simp [hh] at hs
            | some q =>
              obtain ⟨_, hq⟩ := hget k2 q hn2 hh
              exact h.mapApart k1 b1 o1 x1 es k2 b2 o2 x2 hk1' hc1' hk2' (by rw [hq]; rfl) hne
      frz := h.frz
      val := h.val
      sym := h.sym }
  · rcases hβ k _ hk with ⟨rfl, hp⟩ | ⟨_, hk'⟩
    · simp only [Prod.mk.injEq] at hp; obtain ⟨rfl, rfl, rfl⟩ := hp
      exact .inr (.inr ⟨r, o, x, hr⟩)
    · exact .inl hk'

/-- A block's cells are made unchangeable. -/
def Gh.ice (G : Gh) (w : World) (b o n : Nat) : Gh := { β := G.β, F := fun b' o' => match G.F b' o' with
  | some v => some v
  | none => if b' = b ∧ o ≤ o' ∧ o' < o + n then w.cell? ⟨b', o', none⟩ else none, ρ := G.ρ }

theorem Gh.ice_ext (G : Gh) (w : World) (b o n : Nat) : Ext G (G.ice w b o n) := ⟨fun _ _ h => h, fun b' o' v h => by simp [Gh.ice, h], rfl⟩

theorem ice_step {B : Bs} {H : Hp} {w : World} {G : Gh} (h : R B H w G) {r b o x : Nat} {cs : List AV} {imm : Nat} {tip : Bool} (hr : G.β r = some (b, o, x)) (hc : H.get r = some (.cells cs imm tip)) {n : Nat} (himm : imm ≤ n) (hn : n ≤ cs.length) (tip' : Bool) (ht : tip' = true → tip = true) :
    Step B H.next G w (H.set r (.cells cs n tip')) w (G.ice w b o n) := by
  have hext : Ext G (G.ice w b o n) := Gh.ice_ext _ _ _ _ _
  have hget : ∀ k, k ≠ r → (H.set r (.cells cs n tip')).get k = H.get k := fun k hk => by rw [Hp.get_set, if_neg hk]
  have hgetr : (H.set r (.cells cs n tip')).get r = some (.cells cs n tip') := by rw [Hp.get_set, if_pos rfl]
  have hex := h.ext r b o x cs imm tip hr hc
  have hreach : ∀ j, n ≤ j → j < reach x cs tip' → j < reach x cs tip := fun j hj hjl => by
    cases tip' with
    | true => rw [ht rfl]; exact hjl
    | false => simp only [reach] at hjl; omega
  have hF : ∀ b' o' v, (G.ice w b o n).F b' o' = some v → w.cell? ⟨b', o', none⟩ = some v := fun b' o' v hf => by
    simp only [Gh.ice] at hf
    split at hf
    · rename_i u hu; simp only [Option.some.injEq] at hf; subst hf; exact h.frz _ _ _ hu
    · split at hf
      · exact hf
      · simp at hf
  have hFin : ∀ j, j < n → ∃ v, (G.ice w b o n).F b (o + j) = some v := fun j hj => by
    obtain ⟨v, h1, _⟩ := h.cells r b o x cs imm tip hr hc j _ (List.getElem?_eq_getElem (by omega))
    simp only [Gh.ice]
    split
    · rename_i u _; exact ⟨u, rfl⟩
    · rw [if_pos ⟨by trivial, by omega, by omega⟩]; exact ⟨v, h1⟩
  have hFout : ∀ b' o', G.F b' o' = none → (b' = b → o' < o ∨ o + n ≤ o') → (G.ice w b o n).F b' o' = none := fun b' o' hf hne => by
    simp only [Gh.ice, hf]
    rw [if_neg]
    rintro ⟨e1, e2, e3⟩
    have := hne e1
    omega
  refine ⟨?_, hext, Fr.refl _ _, New.refl _ _, fun _ _ h => .inl h, Nat.le_refl _, fun b' o' v' hv => ?_⟩
  rotate_left
  · simp only [Gh.ice] at hv
    split at hv
    · rename_i v'' hF'
      exact .inl (by rw [hF']; exact hv)
    · split at hv
      · rename_i hc'
        exact .inr (by rw [hc'.1]; exact (h.lt r b o x hr).1)
      · simp at hv
  exact {
    base := h.base
    dom := h.dom
    lt := h.lt
    cells := fun k b' o' x' cs' imm' tip1 hk hck => by
      by_cases e : k = r
      · subst e
        have hk' : G.β k = some (b', o', x') := hk
        rw [hr] at hk'
        simp only [Option.some.injEq, Prod.mk.injEq] at hk'; obtain ⟨rfl, rfl, rfl⟩ := hk'
        rw [hgetr] at hck
        simp only [Option.some.injEq, HB.cells.injEq] at hck; obtain ⟨rfl, rfl, rfl⟩ := hck
        exact (h.cells k _ _ _ _ _ _ hr hc).mono hext
      · rw [hget k e] at hck
        exact (h.cells k b' o' x' cs' imm' tip1 hk hck).mono hext
    imm := fun k b' o' x' cs' imm' tip1 hk hck j hj hjl => by
      by_cases e : k = r
      · subst e
        have hk' : G.β k = some (b', o', x') := hk
        rw [hr] at hk'
        simp only [Option.some.injEq, Prod.mk.injEq] at hk'; obtain ⟨rfl, rfl, rfl⟩ := hk'
        rw [hgetr] at hck
        simp only [Option.some.injEq, HB.cells.injEq] at hck; obtain ⟨rfl, rfl, rfl⟩ := hck
        exact hFin j hj
      · rw [hget k e] at hck
        obtain ⟨v, hv⟩ := h.imm k b' o' x' cs' imm' tip1 hk hck j hj hjl
        exact ⟨v, hext.F _ _ _ hv⟩
    ext := fun k b' o' x' cs' imm' tip1 hk hck => by
      by_cases e : k = r
      · subst e
        have hk' : G.β k = some (b', o', x') := hk
        rw [hr] at hk'
        simp only [Option.some.injEq, Prod.mk.injEq] at hk'; obtain ⟨rfl, rfl, rfl⟩ := hk'
        rw [hgetr] at hck
        simp only [Option.some.injEq, HB.cells.injEq] at hck; obtain ⟨rfl, rfl, rfl⟩ := hck
        cases tip' with
        | true => rw [ht rfl] at hex; exact hex
        | false => exact Nat.le_refl _
      · rw [hget k e] at hck
        exact h.ext k b' o' x' cs' imm' tip1 hk hck
    fits := fun k b' o' x' cs' imm' tip1 hk hck => by
      by_cases e : k = r
      · subst e
        have hk' : G.β k = some (b', o', x') := hk
        rw [hr] at hk'
        simp only [Option.some.injEq, Prod.mk.injEq] at hk'; obtain ⟨rfl, rfl, rfl⟩ := hk'
        rw [hgetr] at hck
        simp only [Option.some.injEq, HB.cells.injEq] at hck; obtain ⟨rfl, rfl, rfl⟩ := hck
        exact h.fits _ _ _ _ _ _ _ hr hc
      · rw [hget k e] at hck
        exact h.fits k b' o' x' cs' imm' tip1 hk hck
    room := fun k b' o' x' cs' imm' tip1 hk hck j hj hjl => by
      by_cases e : k = r
      · subst e
        have hk' : G.β k = some (b', o', x') := hk
        rw [hr] at hk'
        simp only [Option.some.injEq, Prod.mk.injEq] at hk'; obtain ⟨rfl, rfl, rfl⟩ := hk'
        rw [hgetr] at hck
        simp only [Option.some.injEq, HB.cells.injEq] at hck; obtain ⟨rfl, rfl, rfl⟩ := hck
        have h1 := hreach j hj hjl
        obtain ⟨g1, g2, g3⟩ := h.room k _ _ _ _ _ _ hr hc j (by omega) h1
        exact ⟨g1, g2, hFout _ _ g3 (fun _ => by omega)⟩
      · rw [hget k e] at hck
        obtain ⟨g1, g2, g3⟩ := h.room k b' o' x' cs' imm' tip1 hk hck j hj hjl
        refine ⟨g1, g2, hFout _ _ g3 (fun eb => ?_)⟩
        by_cases hin : o ≤ o' + j ∧ o' + j < o + n
        · exfalso
          have hj0 : o' + j - o < cs.length := by omega
          have hj1 : o' + j - o < reach x cs tip := by omega
          by_cases hi : imm ≤ o' + j - o
          · exact h.apart k b' o' x' cs' imm' tip1 r b o x cs imm tip hk hck hr hc e j (o' + j - o) hj hjl hi hj1 eb (by omega)
          · obtain ⟨v, hv⟩ := h.imm r b o x cs imm tip hr hc (o' + j - o) (by omega) hj0
            rw [show o + (o' + j - o) = o' + j by omega, ← eb, g3] at hv
            simp at hv
        · omega
    apart := fun k1 b1 o1 x1 cs1 imm1 tip1 k2 b2 o2 x2 cs2 imm2 tip2 hk1 hc1 hk2 hc2 hne j1 j2 hj1 hl1 hj2 hl2 he => by
      have key : ∀ k bk ok xk csk immk tipk j, G.β k = some (bk, ok, xk) → (H.set r (.cells cs n tip')).get k = some (.cells csk immk tipk) → immk ≤ j → j < reach xk csk tipk →
          ∃ cs0 imm0 tip0, H.get k = some (.cells cs0 imm0 tip0) ∧ imm0 ≤ j ∧ j < reach xk cs0 tip0 := fun k bk ok xk csk immk tipk j hk hck hj hjl => by
        by_cases e : k = r
        · subst e
          have hk' : G.β k = some (bk, ok, xk) := hk
          rw [hr] at hk'
          simp only [Option.some.injEq, Prod.mk.injEq] at hk'; obtain ⟨rfl, rfl, rfl⟩ := hk'
          rw [hgetr] at hck
          simp only [Option.some.injEq, HB.cells.injEq] at hck; obtain ⟨rfl, rfl, rfl⟩ := hck
          exact ⟨cs, imm, tip, hc, by omega, hreach j hj hjl⟩
        · rw [hget k e] at hck
          exact ⟨csk, immk, tipk, hck, hj, hjl⟩
      obtain ⟨c1, i1, t1, g1, a1, l1⟩ := key k1 b1 o1 x1 cs1 imm1 tip1 j1 hk1 hc1 hj1 hl1
      obtain ⟨c2, i2, t2, g2, a2, l2⟩ := key k2 b2 o2 x2 cs2 imm2 tip2 j2 hk2 hc2 hj2 hl2
      exact h.apart k1 b1 o1 x1 c1 i1 t1 k2 b2 o2 x2 c2 i2 t2 hk1 g1 hk2 g2 hne j1 j2 a1 l1 a2 l2 he
    map := fun k b' o' x' es hk hck => by
      by_cases e : k = r
      · subst e; rw [hgetr] at hck; simp at hck
      · rw [hget k e] at hck
        obtain ⟨ms, clock, h1, h2⟩ := h.map k b' o' x' es hk hck
        exact ⟨ms, clock, h1, h2.mono hext⟩
    mapApart := fun k1 b1 o1 x1 es k2 b2 o2 x2 hk1 hc1 hk2 hs hne => by
      by_cases e : k1 = r
      · subst e; rw [hgetr] at hc1; simp at hc1
      · rw [hget k1 e] at hc1
        refine h.mapApart k1 b1 o1 x1 es k2 b2 o2 x2 hk1 hc1 hk2 ?_ hne
        by_cases e2 : k2 = r
        · subst e2; rw [hc]; rfl
        · rw [hget k2 e2] at hs; exact hs
    frz := hF
    val := h.val
    sym := h.sym }

/-- A block that can be read alone, under a number that is in use no more. -/
theorem revive_step {B : Bs} {H : Hp} {w : World} {G : Gh} (h : R B H w G) {r b o x : Nat} {cs : List AV} (hr : G.β r = some (b, o, x)) (hx : cs.length ≤ x) (hc : Holds G w b o cs) (hF : ∀ j, j < cs.length → ∃ v, G.F b (o + j) = some v)
    (hmap : ∀ r1 b1 o1 x1 es, G.β r1 = some (b1, o1, x1) → H.get r1 = some (.map es) → b1 ≠ b) :
    Step B H.next G w (H.set r (.cells cs cs.length false)) w G := by
  have hget : ∀ k, k ≠ r → (H.set r (.cells cs cs.length false)).get k = H.get k := fun k hk => by rw [Hp.get_set, if_neg hk]
  have hgetr : (H.set r (.cells cs cs.length false)).get r = some (.cells cs cs.length false) := by rw [Hp.get_set, if_pos rfl]
  have hβ : ∀ k b' o' x', k = r → G.β k = some (b', o', x') → b' = b ∧ o' = o ∧ x' = x := fun k b' o' x' e hk => by
    subst e; rw [hr] at hk; simp only [Option.some.injEq, Prod.mk.injEq] at hk; exact ⟨hk.1.symm, hk.2.1.symm, hk.2.2.symm⟩
  have hcs : ∀ cs' imm' tip', (H.set r (.cells cs cs.length false)).get r = some (.cells cs' imm' tip') → cs' = cs ∧ imm' = cs.length ∧ tip' = false := fun cs' imm' tip' hk => by
    rw [hgetr] at hk; simp only [Option.some.injEq, HB.cells.injEq] at hk; exact ⟨hk.1.symm, hk.2.1.symm, hk.2.2.symm⟩
  refine ⟨?_, Ext.refl _, Fr.refl _ _, New.refl _ _, fun _ _ h => .inl h, Nat.le_refl _, fun _ _ _ h => .inl h⟩
  exact {
    base := h.base
    dom := h.dom
    lt := h.lt
    cells := fun k b' o' x' cs' imm' tip' hk hck => by
      by_cases e : k = r
      · obtain ⟨rfl, rfl, rfl⟩ := hβ k _ _ _ e hk
        subst e
        obtain ⟨rfl, rfl, rfl⟩ := hcs _ _ _ hck
        exact hc
      · rw [hget k e] at hck; exact h.cells k b' o' x' cs' imm' tip' hk hck
    imm := fun k b' o' x' cs' imm' tip' hk hck j hj hjl => by
      by_cases e : k = r
      · obtain ⟨rfl, rfl, rfl⟩ := hβ k _ _ _ e hk
        subst e
        obtain ⟨rfl, rfl, rfl⟩ := hcs _ _ _ hck
        exact hF j hjl
      · rw [hget k e] at hck; exact h.imm k b' o' x' cs' imm' tip' hk hck j hj hjl
    ext := fun k b' o' x' cs' imm' tip' hk hck => by
      by_cases e : k = r
      · subst e
        obtain ⟨rfl, rfl, rfl⟩ := hcs _ _ _ hck
        exact Nat.le_refl _
      · rw [hget k e] at hck; exact h.ext k b' o' x' cs' imm' tip' hk hck
    fits := fun k b' o' x' cs' imm' tip' hk hck => by
      by_cases e : k = r
      · subst e
        obtain ⟨rfl, rfl, rfl⟩ := hcs _ _ _ hck
        obtain ⟨_, _, rfl⟩ := hβ _ _ _ _ rfl hk
        exact hx
      · rw [hget k e] at hck; exact h.fits k b' o' x' cs' imm' tip' hk hck
    room := fun k b' o' x' cs' imm' tip' hk hck j hj hjl => by
      by_cases e : k = r
      · subst e
        obtain ⟨rfl, rfl, rfl⟩ := hcs _ _ _ hck
        simp only [reach] at hjl; omega
      · rw [hget k e] at hck; exact h.room k b' o' x' cs' imm' tip' hk hck j hj hjl
    apart := fun k1 b1 o1 x1 cs1 imm1 tip1 k2 b2 o2 x2 cs2 imm2 tip2 hk1 hc1 hk2 hc2 hne j1 j2 hj1 hl1 hj2 hl2 he => by
      by_cases e1 : k1 = r
      · subst e1
        obtain ⟨rfl, rfl, rfl⟩ := hcs _ _ _ hc1
        simp only [reach] at hl1; omega
      · by_cases e2 : k2 = r
        · subst e2
          obtain ⟨rfl, rfl, rfl⟩ := hcs _ _ _ hc2
          simp only [reach] at hl2; omega
        · rw [hget k1 e1] at hc1; rw [hget k2 e2] at hc2
          exact h.apart k1 b1 o1 x1 cs1 imm1 tip1 k2 b2 o2 x2 cs2 imm2 tip2 hk1 hc1 hk2 hc2 hne j1 j2 hj1 hl1 hj2 hl2 he
    map := fun k b' o' x' es hk hck => by
      by_cases e : k = r
      · subst e; rw [hgetr] at hck; simp at hck
      · rw [hget k e] at hck; exact h.map k b' o' x' es hk hck
    mapApart := fun k1 b1 o1 x1 es k2 b2 o2 x2 hk1 hc1 hk2 hs hne => by
      by_cases e : k1 = r
      · subst e; rw [hgetr] at hc1; simp at hc1
      · rw [hget k1 e] at hc1
        by_cases e2 : k2 = r
        · obtain ⟨rfl, rfl, rfl⟩ := hβ k2 _ _ _ e2 hk2
          exact hmap k1 b1 o1 x1 es hk1 hc1
        · rw [hget k2 e2] at hs
          exact h.mapApart k1 b1 o1 x1 es k2 b2 o2 x2 hk1 hc1 hk2 hs hne
    frz := h.frz
    val := h.val
    sym := h.sym }
end Go.Ab
