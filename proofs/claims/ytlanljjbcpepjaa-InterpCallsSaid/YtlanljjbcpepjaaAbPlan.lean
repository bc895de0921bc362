/- A region that draws its order, by a plan: renumbered, or both ways of ordering two operations. -/
import Derived.Test.YtlanljjbcpepjaaAbDraw
namespace Go.Ab
set_option linter.unusedSimpArgs false
set_option linter.unusedVariables false
set_option linter.unusedSectionVars false
open Go Go.RowKit

/-- An order that the region may draw. -/
def ValidL (ops : Array Oper) : List Nat → Array Bool → Prop
  | [], listed => Region.ready .any ops listed = []
  | i :: L, listed => i ∈ Region.ready .any ops listed ∧ ValidL ops L (listed.setIfInBounds i true)

theorem valid_go {ops : Array Oper} : ∀ (fuel t : Nat) (listed : Array Bool), listed.size = ops.size → listed.toList.countP (· = false) ≤ fuel → ValidL ops (Region.linearise.go .any ops fuel t listed []) listed
  | 0, t, listed, hs, hc => by
    show Region.ready .any ops listed = []
    apply List.eq_nil_iff_forall_not_mem.2
    intro i hi
    obtain ⟨o, ho, hun, _⟩ := mem_ready.1 hi
    have hil : i < listed.size := by rw [hs]; have := (List.getElem?_eq_some_iff.1 ho).1; simpa using this
    rw [Array.getD_eq_getD_getElem?, Array.getElem?_eq_getElem hil] at hun
    have := countP_set hil (by simpa using hun)
    omega
  | fuel + 1, t, listed, hs, hc => by
    simp only [Region.linearise.go]
    change ValidL ops (match (Region.ready .any ops listed)[t % (Region.ready .any ops listed).length]? with
      | some i => Region.linearise.go .any ops fuel (t / (Region.ready .any ops listed).length) (listed.setIfInBounds i true) [i]
      | none => [].reverse) listed
    cases hi : (Region.ready .any ops listed)[t % (Region.ready .any ops listed).length]? with
    | none =>
      show Region.ready .any ops listed = []
      cases hr : Region.ready .any ops listed with
      | nil => rfl
      | cons x xs =>
        rw [hr] at hi
        have hlt : t % (x :: xs).length < (x :: xs).length := Nat.mod_lt _ (by simp)
        simp at hi
        simp at hlt
        omega
    | some i =>
      simp only []
      rw [linearise_go_acc, List.reverse_singleton, List.singleton_append]
      have hm := List.mem_of_getElem? hi
      refine ⟨hm, valid_go fuel _ _ (by simpa using hs) ?_⟩
      obtain ⟨o, ho, hun, _⟩ := mem_ready.1 hm
      have hil : i < listed.size := by rw [hs]; have := (List.getElem?_eq_some_iff.1 ho).1; simpa using this
      rw [Array.getD_eq_getD_getElem?, Array.getElem?_eq_getElem hil] at hun
      have := countP_set hil (by simpa using hun)
      omega

section
variable {P : Program} {Q : Exit → Act → World → Prop}

theorem wpAny_valid {ops : Array Oper} : ∀ (L : List Nat) (fuel : Nat) (listed : Array Bool) (a : Act) (w : World), wpAny P .any ops Q fuel listed a w → ValidL ops L listed → wpOps P ops Q L a w
  | [], 0, listed, a, w, h, _ => h.2
  | [], fuel + 1, listed, a, w, h, hv => h.1 hv
  | i :: L, 0, listed, a, w, h, hv => by
    have h1 := hv.1
    rw [h.1] at h1
    simp at h1
  | i :: L, fuel + 1, listed, a, w, h, hv => by
    rw [wpOps_cons]
    exact wpOp_mono (fun a w ha => wpAny_valid L fuel _ a w ha hv.2) (h.2 i hv.1)

theorem wp_region_valid {ops : Array Oper} {id : Nat} {a : Act} {w : World} (hm : P.follows .mixedOrders = true)
    (h : ∀ L, ValidL ops L (Array.replicate ops.size false) → wpOps P ops Q L a { w with drawn := w.drawn + 1 }) : (Code.region id ops true).wp P Q a w :=
  wp_region_draw fun t => by
    simp only [Region.schedule, hm, Bool.true_or, if_true]
    exact h _ (valid_go ops.size t _ (by simp) (Nat.le_trans List.countP_le_length (by simp)))

/-- The operations by other numbers. -/
theorem wpOps_map {ops ops' : Array Oper} {φ : Nat → Nat} : ∀ (L : List Nat) (a : Act) (w : World),
    (∀ i ∈ L, ∃ o o', ops[i]? = some o ∧ ops'[φ i]? = some o' ∧ (∃ af gd, o' = { o with after := af, guard := gd }) ∧ ∀ a : Act, Region.wanted o' (yielded ops' a.tmps) = Region.wanted o (yielded ops a.tmps)) →
    wpOps P ops' Q (L.map φ) a w → wpOps P ops Q L a w
  | [], _, _, _, h => h
  | i :: L, a, w, hr, h => by
    rw [List.map_cons, wpOps_cons] at h
    rw [wpOps_cons]
    obtain ⟨o, o', h1, h2, ⟨af, gd, h3⟩, h4⟩ := hr i List.mem_cons_self
    have hrest : ∀ a w, wpOps P ops' Q (L.map φ) a w → wpOps P ops Q L a w := fun a w => wpOps_map L a w (fun j hj => hr j (List.mem_cons_of_mem _ hj))
    have h5 := wpOp_mono hrest h
    unfold wpOp at h5 ⊢
    rw [h2] at h5
    rw [h1]
    simp only [] at h5 ⊢
    rw [h4 a] at h5
    subst h3
    exact h5
end

/-! An edge more. -/

theorem binds_data (p : Nat) : Region.binds .any { on := p, ground := .data } = true := rfl

theorem addE_len (q p : Nat) (l : List Oper) : (addE q p l).length = l.length := by
  unfold addE
  split <;> simp

theorem addE_at {q p : Nat} {l : List Oper} {i : Nat} {o : Oper} (h : l[i]? = some o) :
    ∃ o', (addE q p l)[i]? = some o' ∧ (∃ af, o' = { o with after := af }) ∧ (i ≠ q → o' = o) ∧ ∀ j, j ∈ preds o' ↔ j ∈ preds o ∨ (i = q ∧ j = p) := by
  unfold addE
  have hi := (List.getElem?_eq_some_iff.1 h).1
  by_cases e : i = q
  · subst e
    rw [h]
    refine ⟨_, List.getElem?_set_self hi, ⟨_, rfl⟩, fun hn => (hn rfl).elim, fun j => ?_⟩
    unfold preds
    have : (o.after.push { on := p, ground := .data }).toList = o.after.toList ++ [{ on := p, ground := .data }] := by simp
    rw [this, List.filter_append, List.map_append, List.mem_append]
    have h2 : (List.filter (Region.binds .any) [({ on := p, ground := .data } : Edge)]) = [{ on := p, ground := .data }] := rfl
    rw [h2]
    simp
  · have hx : ∀ o2, (l.set q o2)[i]? = some o := fun o2 => by rw [List.getElem?_set_ne (fun h => e h.symm)]; exact h
    split
    · exact ⟨o, hx _, ⟨o.after, rfl⟩, fun _ => rfl, fun j => ⟨.inl, fun h => h.elim id (fun h => (e h.1).elim)⟩⟩
    · exact ⟨o, h, ⟨o.after, rfl⟩, fun _ => rfl, fun j => ⟨.inl, fun h => h.elim id (fun h => (e h.1).elim)⟩⟩

theorem addE_of {q p : Nat} {l : List Oper} {i : Nat} {o' : Oper} (h : (addE q p l)[i]? = some o') : ∃ o, l[i]? = some o := by
  have := (List.getElem?_eq_some_iff.1 h).1
  rw [addE_len] at this
  exact ⟨_, List.getElem?_eq_getElem this⟩

theorem addE_dst {q p : Nat} {l : List Oper} (j : Nat) : ((addE q p l)[j]?).bind (·.dst) = (l[j]?).bind (·.dst) := by
  cases h : l[j]? with
  | none =>
    rw [List.getElem?_eq_none (by rw [addE_len]; exact List.getElem?_eq_none_iff.1 h)]
  | some o =>
    obtain ⟨o', h1, ⟨af, rfl⟩, _⟩ := addE_at (q := q) (p := p) h
    rw [h1]
    rfl

theorem ready_addE_sub {q p : Nat} {l : List Oper} {listed : Array Bool} {i : Nat} (h : i ∈ Region.ready .any (addE q p l).toArray listed) : i ∈ Region.ready .any l.toArray listed := by
  obtain ⟨o', h1, h2, h3⟩ := mem_ready.1 h
  simp only [] at h1
  obtain ⟨o, ho⟩ := addE_of h1
  obtain ⟨o2, g1, _, _, g4⟩ := addE_at (q := q) (p := p) ho
  rw [h1] at g1
  simp only [Option.some.injEq] at g1
  subst g1
  exact mem_ready.2 ⟨o, ho, h2, fun j hj => h3 j ((g4 j).2 (.inl hj))⟩

theorem ready_addE {q p : Nat} {l : List Oper} {listed : Array Bool} {i : Nat} (h : i ∈ Region.ready .any l.toArray listed) (hp : i = q → listed.getD p false = true) : i ∈ Region.ready .any (addE q p l).toArray listed := by
  obtain ⟨o, h1, h2, h3⟩ := mem_ready.1 h
  simp only [] at h1
  obtain ⟨o2, g1, _, _, g4⟩ := addE_at (q := q) (p := p) h1
  refine mem_ready.2 ⟨o2, g1, h2, fun j hj => ?_⟩
  rcases (g4 j).1 hj with h | ⟨e1, rfl⟩
  · exact h3 j h
  · exact hp e1

theorem done_set {listed : Array Bool} {i p : Nat} (h : listed.getD p false = true) : (listed.setIfInBounds i true).getD p false = true := by
  simp only [Array.getD_eq_getD_getElem?, Array.getElem?_setIfInBounds] at *
  split
  · split
    · rfl
    · rename_i h1 h2
      subst h1
      rw [Array.getElem?_eq_none (by omega)] at h
      simp at h
  · exact h

theorem valid_done {q p : Nat} {l : List Oper} : ∀ {L : List Nat} {listed : Array Bool}, listed.getD p false = true → ValidL l.toArray L listed → ValidL (addE q p l).toArray L listed
  | [], listed, _, hv => by
    show Region.ready .any (addE q p l).toArray listed = []
    apply List.eq_nil_iff_forall_not_mem.2
    intro i hi
    have := ready_addE_sub hi
    rw [show Region.ready .any l.toArray listed = [] from hv] at this
    simp at this
  | i :: L, listed, hd, hv => ⟨ready_addE hv.1 (fun _ => hd), valid_done (done_set hd) hv.2⟩

theorem valid_split {p q : Nat} (hpq : p ≠ q) {l : List Oper} : ∀ {L : List Nat} {listed : Array Bool}, listed.size = l.length → ValidL l.toArray L listed → ValidL (addE q p l).toArray L listed ∨ ValidL (addE p q l).toArray L listed
  | [], listed, _, hv => .inl <| by
    show Region.ready .any (addE q p l).toArray listed = []
    apply List.eq_nil_iff_forall_not_mem.2
    intro i hi
    have := ready_addE_sub hi
    rw [show Region.ready .any l.toArray listed = [] from hv] at this
    simp at this
  | i :: L, listed, hs, hv => by
    have hil : i < listed.size := by
      obtain ⟨o, ho, _⟩ := mem_ready.1 hv.1
      rw [hs]
      exact (List.getElem?_eq_some_iff.1 ho).1
    have hset : (listed.setIfInBounds i true).getD i false = true := by
      simp [Array.getD_eq_getD_getElem?, Array.getElem?_setIfInBounds, hil]
    by_cases e1 : i = q
    · subst e1
      exact .inr ⟨ready_addE hv.1 (fun e => (hpq e.symm).elim), valid_done hset hv.2⟩
    · by_cases e2 : i = p
      · subst e2
        exact .inl ⟨ready_addE hv.1 (fun e => (e1 e).elim), valid_done hset hv.2⟩
      · rcases valid_split hpq (by simpa using hs) hv.2 with h | h
        · exact .inl ⟨ready_addE hv.1 (fun e => (e1 e).elim), h⟩
        · exact .inr ⟨ready_addE hv.1 (fun e => (e2 e).elim), h⟩

theorem valid_mem {ops : Array Oper} : ∀ {L : List Nat} {listed : Array Bool}, ValidL ops L listed → ∀ i ∈ L, ∃ o, ops.toList[i]? = some o
  | [], _, _, i, hi => by simp at hi
  | j :: L, listed, hv, i, hi => by
    rcases List.mem_cons.1 hi with rfl | hi
    · obtain ⟨o, ho, _⟩ := mem_ready.1 hv.1
      exact ⟨o, ho⟩
    · exact valid_mem hv.2 i hi

theorem wpOps_addE {P : Program} {Q : Exit → Act → World → Prop} {q p : Nat} {l : List Oper} {L : List Nat} {listed : Array Bool} {a : Act} {w : World} (hv : ValidL l.toArray L listed)
    (h : wpOps P (addE q p l).toArray Q L a w) : wpOps P l.toArray Q L a w := by
  refine wpOps_map (ops' := (addE q p l).toArray) (φ := id) L a w (fun i hi => ?_) (by simpa using h)
  obtain ⟨o, ho⟩ := valid_mem hv i hi
  simp only [] at ho
  obtain ⟨o', g1, ⟨af, rfl⟩, _⟩ := addE_at (q := q) (p := p) ho
  refine ⟨o, _, by simpa using ho, by simpa using g1, ⟨af, o.guard, rfl⟩, fun a => ?_⟩
  have hy : yielded (addE q p l).toArray a.tmps = yielded l.toArray a.tmps := funext fun j => by
    unfold yielded
    have := addE_dst (q := q) (p := p) (l := l) j
    simp only [List.getElem?_toArray, this]
  rw [hy]
  rfl

/-! Renumbered. -/

structure PermD (ord : List Nat) (l : List Oper) : Prop where
  len : ord.length = l.length
  bk : ∀ k : Nat, k < l.length → ∃ i, ord[k]? = some i ∧ i < l.length ∧ posOf ord i = k
  lt : ∀ i : Nat, i < l.length → posOf ord i < l.length ∧ ord[posOf ord i]? = some i
  pre : ∀ (i : Nat) o, l[i]? = some o → (∀ p ∈ preds o, p < l.length) ∧ ∀ j b, o.guard = some (j, b) → j < l.length

theorem permB_facts {ord : List Nat} {l : List Oper} (h : permB ord l = true) : PermD ord l := by
  unfold permB at h
  simp only [Bool.and_eq_true, List.all_eq_true, List.mem_range] at h
  obtain ⟨⟨h1, h2⟩, h3⟩ := h
  refine ⟨Nat.eq_of_beq_eq_true h1, fun k hk => ?_, fun i hi => ?_, fun i o ho => ?_⟩
  · have := (h2 k hk).1.1
    split at this
    · rename_i i hi
      simp only [Bool.and_eq_true] at this
      exact ⟨i, hi, by simpa [Nat.blt_eq] using this.1, Nat.eq_of_beq_eq_true this.2⟩
    · simp at this
  · have h4 := (h2 i hi).1.2
    have h5 := (h2 i hi).2
    refine ⟨by simpa [Nat.blt_eq] using h4, ?_⟩
    split at h5
    · rename_i k hk
      rw [hk, Nat.eq_of_beq_eq_true h5]
    · simp at h5
  · have := h3 o (List.mem_of_getElem? ho)
    refine ⟨fun p hp => by simpa [Nat.blt_eq] using this.1 p hp, fun j b hg => ?_⟩
    have h6 := this.2
    rw [hg] at h6
    simpa [Nat.blt_eq] using h6

theorem filterMap_at {α β : Type} {f : α → Option β} : ∀ {xs : List α}, (∀ x ∈ xs, (f x).isSome = true) → ∀ k : Nat, (xs.filterMap f)[k]? = (xs[k]?).bind f
  | [], _, k => by simp
  | x :: xs, h, k => by
    obtain ⟨y, hy⟩ := Option.isSome_iff_exists.1 (h x List.mem_cons_self)
    rw [List.filterMap_cons_some hy]
    cases k with
    | zero => simp [hy]
    | succ k => simp [filterMap_at (fun x hx => h x (List.mem_cons_of_mem _ hx)) k]

section
variable {ord : List Nat} {l : List Oper} (hp : PermD ord l)
include hp

theorem PermD.at' {i : Nat} {o : Oper} (h : l[i]? = some o) : (permD ord l)[posOf ord i]? = some (permO ord o) := by
  have hi := (List.getElem?_eq_some_iff.1 h).1
  unfold permD
  rw [filterMap_at (fun x hx => ?_)]
  · rw [(hp.lt i hi).2]
    simp [h]
  · obtain ⟨k, hk⟩ := List.mem_iff_getElem?.1 hx
    have hkl : k < l.length := by rw [← hp.len]; exact (List.getElem?_eq_some_iff.1 hk).1
    obtain ⟨i', h1, h2, _⟩ := hp.bk k hkl
    rw [hk] at h1
    simp only [Option.some.injEq] at h1
    subst h1
    rw [List.getElem?_eq_getElem h2]
    rfl

theorem PermD.length : (permD ord l).length = l.length := by
  have : ∀ k, k < l.length → ((permD ord l)[k]?).isSome = true := fun k hk => by
    obtain ⟨i, h1, h2, h3⟩ := hp.bk k hk
    have := hp.at' (List.getElem?_eq_getElem h2)
    rw [h3] at this
    rw [this]; rfl
  refine Nat.le_antisymm (Nat.le_trans (List.length_filterMap_le _ _) (by rw [hp.len]; exact Nat.le_refl _)) ?_
  rcases Nat.lt_or_ge (permD ord l).length l.length with h | h
  · have := this _ h
    rw [List.getElem?_eq_none (Nat.le_refl _)] at this
    simp at this
  · exact h

theorem PermD.of {k : Nat} {o' : Oper} (h : (permD ord l)[k]? = some o') : ∃ i o, l[i]? = some o ∧ posOf ord i = k ∧ o' = permO ord o := by
  have hk : k < l.length := by rw [← hp.length]; exact (List.getElem?_eq_some_iff.1 h).1
  obtain ⟨i, h1, h2, h3⟩ := hp.bk k hk
  have := hp.at' (List.getElem?_eq_getElem h2)
  rw [h3, h] at this
  simp only [Option.some.injEq] at this
  exact ⟨i, _, List.getElem?_eq_getElem h2, h3, this⟩

theorem PermD.inj {i j : Nat} (hi : i < l.length) (hj : j < l.length) (h : posOf ord i = posOf ord j) : i = j := by
  have h1 := (hp.lt i hi).2
  rw [h, (hp.lt j hj).2] at h1
  simpa using h1.symm

theorem PermD.preds {o : Oper} : Ab.preds (permO ord o) = (Ab.preds o).map (posOf ord) := by
  unfold Ab.preds permO
  simp only [List.map_map]
  rw [List.filter_map]
  have : (Region.binds .any ∘ fun e : Edge => { e with on := posOf ord e.on }) = Region.binds .any := rfl
  rw [this, List.filter_filter]
  simp only [Bool.and_self, List.map_map]
  rfl

/-- The two lists of what is done. -/
def SameDone (ord : List Nat) (l : List Oper) (x y : Array Bool) : Prop := x.size = l.length ∧ y.size = l.length ∧ ∀ i, i < l.length → y[posOf ord i]? = x[i]?

theorem SameDone.set {x y : Array Bool} (h : SameDone ord l x y) {i : Nat} (hi : i < l.length) : SameDone ord l (x.setIfInBounds i true) (y.setIfInBounds (posOf ord i) true) := by
  refine ⟨by simpa using h.1, by simpa using h.2.1, fun j hj => ?_⟩
  simp only [Array.getElem?_setIfInBounds]
  by_cases e : i = j
  · subst e
    rw [if_pos rfl, if_pos rfl, if_pos (by rw [h.2.1]; exact (hp.lt i hi).1), if_pos (by rw [h.1]; exact hi)]
  · rw [if_neg e, if_neg (fun h' => e (hp.inj hi hj h'))]
    exact h.2.2 j hj

theorem ready_perm {x y : Array Bool} (h : SameDone ord l x y) {i : Nat} (hi : i < l.length) : posOf ord i ∈ Region.ready .any (permD ord l).toArray y ↔ i ∈ Region.ready .any l.toArray x := by
  have ho := List.getElem?_eq_getElem hi
  have hat := hp.at' ho
  rw [mem_ready, mem_ready]
  simp only []
  have hd : ∀ (j : Nat) (b : Bool), j < l.length → y.getD (posOf ord j) b = x.getD j b := fun j b hj => by
    simp only [Array.getD_eq_getD_getElem?, h.2.2 j hj]
  constructor
  · rintro ⟨o', g1, g2, g3⟩
    rw [hat] at g1
    simp only [Option.some.injEq] at g1
    subst g1
    refine ⟨_, ho, by rw [← hd i true hi]; exact g2, fun p hpp => ?_⟩
    rw [← hd p false ((hp.pre i _ ho).1 p hpp)]
    exact g3 _ (by rw [hp.preds]; exact List.mem_map_of_mem hpp)
  · rintro ⟨o', g1, g2, g3⟩
    rw [ho] at g1
    simp only [Option.some.injEq] at g1
    subst g1
    refine ⟨_, hat, by rw [hd i true hi]; exact g2, fun p hpp => ?_⟩
    rw [hp.preds] at hpp
    obtain ⟨p', hp1, rfl⟩ := List.mem_map.1 hpp
    rw [hd p' false ((hp.pre i _ ho).1 p' hp1)]
    exact g3 p' hp1

theorem valid_perm : ∀ {L : List Nat} {x y : Array Bool}, SameDone ord l x y → ValidL l.toArray L x → ValidL (permD ord l).toArray (L.map (posOf ord)) y
  | [], x, y, hs, hv => by
    show Region.ready .any (permD ord l).toArray y = []
    apply List.eq_nil_iff_forall_not_mem.2
    intro k hk
    obtain ⟨o', g1, _⟩ := mem_ready.1 hk
    simp only [] at g1
    obtain ⟨i, o, h1, h2, _⟩ := hp.of g1
    have hi := (List.getElem?_eq_some_iff.1 h1).1
    rw [← h2] at hk
    have := (ready_perm hp hs hi).1 hk
    rw [show Region.ready .any l.toArray x = [] from hv] at this
    simp at this
  | i :: L, x, y, hs, hv => by
    obtain ⟨o, ho, _⟩ := mem_ready.1 hv.1
    have hi : i < l.length := (List.getElem?_eq_some_iff.1 ho).1
    exact ⟨(ready_perm hp hs hi).2 hv.1, valid_perm (hs.set hp hi) hv.2⟩

theorem wpOps_perm {P : Program} {Q : Exit → Act → World → Prop} {L : List Nat} {listed : Array Bool} {a : Act} {w : World} (hv : ValidL l.toArray L listed)
    (h : wpOps P (permD ord l).toArray Q (L.map (posOf ord)) a w) : wpOps P l.toArray Q L a w := by
  refine wpOps_map (ops' := (permD ord l).toArray) (φ := posOf ord) L a w (fun i hi => ?_) h
  obtain ⟨o, ho⟩ := valid_mem hv i hi
  simp only [] at ho
  have hat := hp.at' ho
  refine ⟨o, permO ord o, by simpa using ho, by simpa using hat, ⟨_, _, rfl⟩, fun a => ?_⟩
  unfold Region.wanted permO
  cases hg : o.guard with
  | none => rfl
  | some jb =>
    obtain ⟨j, b⟩ := jb
    have hj := (hp.pre i o ho).2 j b hg
    have hjat := hp.at' (List.getElem?_eq_getElem hj)
    simp only []
    unfold yielded
    simp only [List.getElem?_toArray, hjat, List.getElem?_eq_getElem hj]
    rfl
end

/-! The plan is sound. -/

theorem T.beq_eq {α : Type} {eq : α → α → Bool} (he : ∀ a b, eq a b = true → a = b) : ∀ {x y : T α}, T.beq eq x y = true → x = y
  | .e, .e, _ => rfl
  | .e, .n _ _ _, h => by simp [T.beq] at h
  | .n _ _ _, .e, h => by simp [T.beq] at h
  | .n v l r, .n v' l' r', h => by
    simp only [T.beq, Bool.and_eq_true] at h
    rw [T.beq_eq he h.1.2, T.beq_eq he h.2]
    have h1 := h.1.1
    cases v <;> cases v' <;> simp only [Bool.false_eq_true] at h1
    · rfl
    · rw [he _ _ h1]

theorem sameEnd_facts {ops : List Oper} {E1 E2 : Env} {H1 H2 : Hp} (h : sameEnd ops E1 E2 H1 H2 = true) : (∀ o ∈ ops, ∀ d, o.dst = some d → E1.at d = E2.at d) ∧ H1 = H2 := by
  unfold sameEnd at h
  simp only [Bool.and_eq_true, List.all_eq_true] at h
  refine ⟨fun o ho d hd => ?_, ?_⟩
  · have := h.1.1 o ho
    rw [hd] at this
    exact AV.beq_eq this
  · have h1 := Nat.eq_of_beq_eq_true h.1.2
    have h2 := T.beq_eq (fun a b => HB.beq_eq) h.2
    cases H1; cases H2
    simp only [] at h1 h2
    rw [h1, h2]

section
variable {P : Program} {B : Bs} {cfg : Cfg}

theorem putA_keeps {N t : Nat} {E E1 : Env} {dst : Option Tmp} {v : AV} (h : putA N E dst v = some E1) (ht : dst ≠ some t) : E1.at t = E.at t := by
  unfold putA at h
  split at h
  · rename_i d
    split at h
    · simp only [Option.some.injEq] at h
      rw [← h, Env.at_set, if_neg (fun e => ht (by rw [e]))]
    · simp at h
  · simp only [Option.some.injEq] at h
    rw [← h]

theorem chain_keeps {ih : Task → Res} {f N t : Nat} {all : List Oper} : ∀ {rs : List Rec} {l : List Oper} {E E' : Env} {H H' : Hp}, ChainD P cfg ih f N all rs l E H E' H' → (∀ o ∈ l, o.dst ≠ some t) → E'.at t = E.at t
  | [], [], _, _, _, _, h, _ => by rw [h.1]
  | [], _ :: _, _, _, _, _, h, _ => by simp [ChainD] at h
  | _ :: _, [], _, _, _, _, h, _ => by simp [ChainD] at h
  | r :: rs, o :: l, E, E', H, H', h, ht => by
    obtain ⟨_, _, _, _, _, _, E1, hp, h8⟩ := h
    rw [chain_keeps h8 (fun o ho => ht o (List.mem_cons_of_mem _ ho)), putA_keeps hp (ht o List.mem_cons_self)]

theorem runDraw_keeps {ih : Task → Res} {f N t : Nat} {ops : List Oper} {E E' : Env} {H H' : Hp} {x : AX} (h : runDraw P cfg ih f N ops E H = .done x E' H') (ht : ∀ o ∈ ops, o.dst ≠ some t) : x = .normal ∧ E'.at t = E.at t := by
  unfold runDraw at h
  split at h
  · split at h
    · rename_i E1 H1 rs hrun
      split at h
      · simp only [Res.done.injEq] at h
        obtain ⟨rfl, rfl, rfl⟩ := h
        exact ⟨rfl, chain_keeps (runD_chain hrun) ht⟩
      · simp at h
    · simp at h
  · simp at h

theorem runDraw_normal {ih : Task → Res} {f N : Nat} {ops : List Oper} {E E' : Env} {H H' : Hp} {x : AX} (h : runDraw P cfg ih f N ops E H = .done x E' H') : x = .normal := by
  unfold runDraw at h
  split at h
  · split at h
    · split at h
      · simp only [Res.done.injEq] at h
        exact h.1.symm
      · simp at h
    · simp at h
  · simp at h

theorem permD_dst {ord : List Nat} {l : List Oper} {o : Oper} (h : o ∈ permD ord l) : ∃ o' ∈ l, o.dst = o'.dst := by
  unfold permD at h
  rw [List.mem_filterMap] at h
  obtain ⟨i, _, h2⟩ := h
  split at h2
  · rename_i o' ho
    simp only [Option.some.injEq] at h2
    subst h2
    exact ⟨o', List.mem_of_getElem? ho, rfl⟩
  · simp at h2

theorem addE_mem {q p : Nat} {l : List Oper} {o : Oper} (h : o ∈ addE q p l) : ∃ o' ∈ l, o.dst = o'.dst := by
  obtain ⟨i, hi⟩ := List.mem_iff_getElem?.1 h
  obtain ⟨o1, h1⟩ := addE_of hi
  obtain ⟨o2, g1, ⟨af, g2⟩, _⟩ := addE_at (q := q) (p := p) h1
  rw [hi] at g1
  simp only [Option.some.injEq] at g1
  exact ⟨o1, List.mem_of_getElem? h1, by rw [g1, g2]⟩

theorem bothD_some {ops : List Oper} {r1 r2 : Res} {x : AX} {E' : Env} {H' : Hp} (h : bothD ops r1 r2 = .done x E' H') :
    x = .normal ∧ r1 = .done .normal E' H' ∧ ∃ E2, r2 = .done .normal E2 H' ∧ ∀ o ∈ ops, ∀ d, o.dst = some d → E'.at d = E2.at d := by
  unfold bothD at h
  split at h
  · split at h
    · rename_i hs
      simp only [Res.done.injEq] at h
      obtain ⟨rfl, rfl, rfl⟩ := h
      obtain ⟨h1, h2⟩ := sameEnd_facts hs
      subst h2
      exact ⟨rfl, rfl, _, rfl, h1⟩
    · simp at h
  · simp at h

theorem runPlan_keeps {ih : Task → Res} {f N t : Nat} {E E' : Env} {H H' : Hp} {x : AX} : ∀ {pl : Plan} {ops : List Oper}, runPlan P cfg ih f N E H pl ops = .done x E' H' → (∀ o ∈ ops, o.dst ≠ some t) → E'.at t = E.at t
  | .text, ops, h, ht => (runDraw_keeps h ht).2
  | .perm ord, ops, h, ht => by
    simp only [runPlan] at h
    split at h
    · exact (runDraw_keeps h (fun o ho => by obtain ⟨o', h1, h2⟩ := permD_dst ho; rw [h2]; exact ht o' h1)).2
    · simp at h
  | .split p q a b, ops, h, ht => by
    simp only [runPlan] at h
    split at h
    · simp at h
    · obtain ⟨_, h1, _⟩ := bothD_some h
      exact runPlan_keeps h1 (fun o ho => by obtain ⟨o', h1, h2⟩ := addE_mem ho; rw [h2]; exact ht o' h1)

theorem Post.same {N nx : Nat} {G : Gh} {w : World} {x : AX} {E1 E2 : Env} {H' : Hp} (hat : ∀ t, E1.at t = E2.at t) {e : Exit} {a : Act} {w' : World} (h : Post B N nx G w x E2 H' e a w') : Post B N nx G w x E1 H' e a w' := by
  obtain ⟨h1, G', h2, h3, h4⟩ := h
  exact ⟨h1, G', ⟨h2.size, fun t => by rw [hat]; exact h2.slots t⟩, h3, h4⟩

theorem runPlan_sim (fit : Fit P) {n : Nat} {ih : Task → Res} (hih : Snd P B n ih) {f N : Nat} {E : Env} {H : Hp} {G : Gh} {w : World} {a : Act} (h : R B H w G) (ht : TR N G E a) (hd : a.defers = []) {Q : Exit → Act → World → Prop} :
    ∀ (pl : Plan) (l : List Oper) {E' : Env} {H' : Hp} {x : AX}, runPlan P B.cfg ih f N E H pl l = .done x E' H' → (∀ e a' w', Post B N H.next G w x E' H' e a' w' → Q e a' w') → ∀ L, ValidL l.toArray L (Array.replicate l.length false) →
      wpOps P l.toArray Q L a { w with drawn := w.drawn + 1 }
  | .text, l, E', H', x, hr, hQ, L, hv => wpAny_valid L _ _ a _ (by
      have := runDraw_any (ops := l.toArray) fit hih hr h ht hd hQ
      simpa using this) hv
  | .perm ord, l, E', H', x, hr, hQ, L, hv => by
    simp only [runPlan] at hr
    split at hr
    · rename_i hp
      have hp := permB_facts hp
      refine wpOps_perm hp hv (wpAny_valid _ _ _ a _ (runDraw_any (ops := (permD ord l).toArray) fit hih hr h ht hd hQ) ?_)
      refine valid_perm hp ⟨by simp, by simp [hp.length], fun i hi => ?_⟩ hv
      have := (hp.lt i hi).1
      simp [hp.length, hi, this]
    · simp at hr
  | .split p q pa pb, l, E', H', x, hr, hQ, L, hv => by
    simp only [runPlan] at hr
    split at hr
    · simp at hr
    · rename_i hpq
      have hne : p ≠ q := Nat.ne_of_beq_eq_false hpq
      obtain ⟨rfl, h1, E2, h2, h3⟩ := bothD_some hr
      rcases valid_split hne (by simp) hv with hv1 | hv2
      · exact wpOps_addE hv (runPlan_sim fit hih h ht hd pa _ h1 hQ L (by rw [addE_len]; exact hv1))
      · have hat : ∀ t, E'.at t = E2.at t := fun t => by
          by_cases ht : ∃ o ∈ l, o.dst = some t
          · obtain ⟨o, ho, hd⟩ := ht
            exact h3 o ho t hd
          · have hno : ∀ o ∈ l, o.dst ≠ some t := fun o ho hd => ht ⟨o, ho, hd⟩
            have hno' : ∀ q p, ∀ o ∈ addE q p l, o.dst ≠ some t := fun q p o ho => by obtain ⟨o', g1, g2⟩ := addE_mem ho; rw [g2]; exact hno o' g1
            rw [runPlan_keeps h1 (hno' _ _), runPlan_keeps h2 (hno' _ _)]
        exact wpOps_addE hv (runPlan_sim fit hih h ht hd pb _ h2 (fun e a' w' hp => hQ _ _ _ (Post.same hat hp)) L (by rw [addE_len]; exact hv2))

/-- A region that draws its order. -/
theorem region_sim (fit : Fit P) {n : Nat} {ih : Task → Res} (hih : Snd P B n ih) {f N id : Nat} {ops : Array Oper} {E E' : Env} {H H' : Hp} {G : Gh} {w : World} {x : AX} {a : Act} {pl : Plan} (hr : runPlan P B.cfg ih f N E H pl ops.toList = .done x E' H')
    (h : R B H w G) (ht : TR N G E a) (hd : a.defers = []) : Code.wp P (.region id ops true) (Post B N H.next G w x E' H') a w := by
  refine wp_region_valid fit.mixed fun L hL => ?_
  have := runPlan_sim fit hih h ht hd pl ops.toList hr (fun _ _ _ hp => hp) L (by simpa using hL)
  simpa using this
end
end Go.Ab
