/- The relation between the abstract machine's state and the model's world. -/
import Derived.Test.YtlanljjbcpepjaaAbDefs
import Derived.WalkKit
namespace Go.Ab
open Go Go.RowKit

/-- What the abstract blocks stand for: block id ↦ (the model's block, its first cell, the number of cells up to the end of the room); and the cells that never change. -/
structure Gh where
  β : Nat → Option (Nat × Nat × Nat)
  F : Nat → Nat → Option Value
  ρ : Nat → Int

/-- What is fixed throughout a run: the first block that is the run's own; what the unknown numbers are; how to run. -/
structure Bs where
  at' : Nat
  ρ : Nat → Int
  cfg : Cfg

/-- What is said of the unknown numbers is so. -/
def DecOk (D : BinOp → Sx → Sx → Option Bool) (ρ : Nat → Int) : Prop := ∀ op k a b r, D op a b = some r → intOpA op k (a.eval ρ) (b.eval ρ) = some (.bool r)

inductive VR (G : Gh) : AV → Value → Prop
  | int (k : IntKind) (n : Int) : VR G (.int k n) (.int k n)
  | sx (k : IntKind) (e : Sx) : VR G (.sx k e) (.int k (e.eval G.ρ))
  | bool (b : Bool) : VR G (.bool b) (.bool b)
  | str (s : ByteArray) (l : List UInt8) (h : s.data.toList = l) : VR G (.str l) (.string s)
  | nilP : VR G .nilP (.pointer none)
  | nilM : VR G .nilM (.map none)
  | nilF : VR G .nilF .nilFunc
  | nilS : VR G .nilS (.slice none 0 0)
  | ptr {r off b o x : Nat} (h : G.β r = some (b, o, x)) : VR G (.ptr r off) (.pointer (some ⟨b, o + off, none⟩))
  | iptr {cs : List AV} {b o : Nat} (vs : Nat → Value) (hF : ∀ j, j < cs.length → G.F b (o + j) = some (vs j))
      (hv : ∀ (j : Nat) (c : AV), cs[j]? = some c → VR G c (vs j)) : VR G (.iptr cs) (.pointer (some ⟨b, o, none⟩))
  | sl {r off len z b o x cap : Nat} (h : G.β r = some (b, o, x)) (hl : len ≤ cap) (hc : off + cap * z ≤ x) :
      VR G (.sl r off len z) (.slice (some ⟨b, o + off, none⟩) len cap)
  | lst {xs : List (List AV)} {b o cap z : Nat} (vs : Nat → Nat → Value) (hz : ∀ (i : Nat) (row : List AV), xs[i]? = some row → row.length = z)
      (hF : ∀ i j, i < xs.length → j < z → G.F b (o + i * z + j) = some (vs i j))
      (hv : ∀ (i j : Nat) (row : List AV) (c : AV), xs[i]? = some row → row[j]? = some c → VR G c (vs i j)) (hc : xs.length ≤ cap) :
      VR G (.lst xs) (.slice (some ⟨b, o, none⟩) xs.length cap)
  | lst0 (a : Option Addr) (cap : Nat) : VR G (.lst []) (.slice a 0 cap)
  | map {r b o x : Nat} (h : G.β r = some (b, o, x)) : VR G (.map r) (.map (some b))
  | clo {f : Nat} {cs : List AV} {vs : List Value} (hl : cs.length = vs.length) (hv : ∀ (i : Nat) c v, cs[i]? = some c → vs[i]? = some v → VR G c v) :
      VR G (.clo f cs) (.func (.func f) #[] vs.toArray)
  | agg {cs : List AV} {vs : List Value} (hl : cs.length = vs.length) (hv : ∀ (i : Nat) c v, cs[i]? = some c → vs[i]? = some v → VR G c v) :
      VR G (.agg cs) (.agg vs.toArray)
  | tup {cs : List AV} {vs : List Value} (hl : cs.length = vs.length) (hv : ∀ (i : Nat) c v, cs[i]? = some c → vs[i]? = some v → VR G c v) :
      VR G (.tup cs) (.tuple vs.toArray)

def VRs (G : Gh) (cs : List AV) (vs : List Value) : Prop := cs.length = vs.length ∧ ∀ (i : Nat) c v, cs[i]? = some c → vs[i]? = some v → VR G c v

theorem VRs.nil (G : Gh) : VRs G [] [] := ⟨rfl, by simp⟩
theorem VRs.cons {G : Gh} {c : AV} {v : Value} {cs : List AV} {vs : List Value} (h : VR G c v) (hs : VRs G cs vs) : VRs G (c :: cs) (v :: vs) := by
  refine ⟨by simp [hs.1], fun i c' v' hc hv => ?_⟩
  cases i with
  | zero => simp at hc hv; subst hc hv; exact h
  | succ i => exact hs.2 i c' v' (by simpa using hc) (by simpa using hv)
theorem VRs.of_cons {G : Gh} {c : AV} {v : Value} {cs : List AV} {vs : List Value} (h : VRs G (c :: cs) (v :: vs)) : VR G c v ∧ VRs G cs vs :=
  ⟨h.2 0 c v rfl rfl, by simpa using h.1, fun i c' v' hc hv => h.2 (i + 1) c' v' (by simpa using hc) (by simpa using hv)⟩
theorem VRs.append {G : Gh} {cs ds : List AV} {vs us : List Value} (h : VRs G cs vs) (h' : VRs G ds us) : VRs G (cs ++ ds) (vs ++ us) := by
  refine ⟨by simp [h.1, h'.1], fun i c v hc hv => ?_⟩
  have hl := h.1
  by_cases hi : i < cs.length
  · rw [List.getElem?_append_left hi] at hc
    rw [List.getElem?_append_left (by omega)] at hv
    exact h.2 i c v hc hv
  · rw [List.getElem?_append_right (by omega)] at hc
    rw [List.getElem?_append_right (by omega)] at hv
    rw [← hl] at hv
    exact h'.2 _ c v hc hv
theorem VRs.drop {G : Gh} {cs : List AV} {vs : List Value} (h : VRs G cs vs) (n : Nat) : VRs G (cs.drop n) (vs.drop n) :=
  ⟨by simp [h.1], fun i c v hc hv => h.2 (n + i) c v (by simpa using hc) (by simpa using hv)⟩
theorem VRs.take {G : Gh} {cs : List AV} {vs : List Value} (h : VRs G cs vs) (n : Nat) : VRs G (cs.take n) (vs.take n) := by
  refine ⟨by simp [h.1], fun i c v hc hv => ?_⟩
  rw [List.getElem?_take] at hc hv
  split at hc
  · rename_i hi; rw [if_pos hi] at hv; exact h.2 i c v hc hv
  · simp at hc

/-- G' knows all that G knows. -/
structure Ext (G G' : Gh) : Prop where
  β : ∀ r p, G.β r = some p → G'.β r = some p
  F : ∀ b o v, G.F b o = some v → G'.F b o = some v
  ρ : G'.ρ = G.ρ

theorem Ext.refl (G : Gh) : Ext G G := ⟨fun _ _ h => h, fun _ _ _ h => h, rfl⟩
theorem Ext.trans {a b c : Gh} (h : Ext a b) (k : Ext b c) : Ext a c := ⟨fun r p hp => k.β r p (h.β r p hp), fun x y v hv => k.F x y v (h.F x y v hv), k.ρ.trans h.ρ⟩

theorem VR.mono {G G' : Gh} (e : Ext G G') {c : AV} {v : Value} (h : VR G c v) : VR G' c v := by
  induction h with
  | int k n => exact .int k n
  | sx k x => rw [← e.ρ]; exact .sx k x
  | bool b => exact .bool b
  | str s l h => exact .str s l h
  | nilP => exact .nilP
  | nilM => exact .nilM
  | nilF => exact .nilF
  | nilS => exact .nilS
  | ptr h => exact .ptr (e.β _ _ h)
  | iptr vs hF _ ih => exact .iptr vs (fun j hj => e.F _ _ _ (hF j hj)) ih
  | sl h hl hc => exact .sl (e.β _ _ h) hl hc
  | lst vs hz hF _ hc ih => exact .lst vs hz (fun i j hi hj => e.F _ _ _ (hF i j hi hj)) ih hc
  | lst0 a cap => exact .lst0 a cap
  | map h => exact .map (e.β _ _ h)
  | clo hl _ ih => exact .clo hl ih
  | agg hl _ ih => exact .agg hl ih
  | tup hl _ ih => exact .tup hl ih

theorem VRs.mono {G G' : Gh} (e : Ext G G') {c : List AV} {v : List Value} (h : VRs G c v) : VRs G' c v := ⟨h.1, fun i a b ha hb => (h.2 i a b ha hb).mono e⟩

theorem VR.oneCell {G : Gh} {c : AV} {v : Value} (h : VR G c v) : v.oneCell' = c.one := by cases h <;> rfl

theorem VR.cells {G : Gh} {c : AV} {v : Value} (h : VR G c v) : VRs G c.cells v.cells.toList := by
  cases h with
  | agg hl hv => exact ⟨by simpa [AV.cells, Value.cells] using hl, by simpa [AV.cells, Value.cells] using hv⟩
  | _ => exact VRs.cons (by constructor <;> assumption) (VRs.nil _)

theorem VR.of_one {G : Gh} {cs : List AV} {c : AV} {v : Value} (h : VRs G cs [v]) (hc : cs = [c]) : VR G c v := h.2 0 c v (by simp [hc]) rfl

/-- The cells from (b, o) on hold what 'cs' says. -/
def Holds (G : Gh) (w : World) (b o : Nat) (cs : List AV) : Prop := ∀ (j : Nat) (c : AV), cs[j]? = some c → ∃ v, w.cell? ⟨b, o + j, none⟩ = some v ∧ VR G c v

/-- How many cells from the block's first on may be written: up to the end of the room where the block is the tip of its row. -/
def reach (x : Nat) (cs : List AV) : Bool → Nat
  | true => x
  | false => cs.length

def Ents (G : Gh) (es : List (AV × AV)) (ms : List MapEntry) : Prop :=
  es.length = ms.length ∧ ∀ (i : Nat) e m, es[i]? = some e → ms[i]? = some m → VR G e.1 m.key ∧ VR G e.2 m.val

/-- The world is as the abstract heap says: of blocks below B nothing is said but by F. -/
structure R (B : Bs) (H : Hp) (w : World) (G : Gh) : Prop where
  base : B.at' ≤ w.heap.size
  dom : ∀ r p, G.β r = some p → r < H.next
  lt : ∀ r b o x, G.β r = some (b, o, x) → B.at' ≤ b ∧ b < w.heap.size
  cells : ∀ r b o x cs imm tip, G.β r = some (b, o, x) → H.get r = some (.cells cs imm tip) → Holds G w b o cs
  imm : ∀ r b o x cs imm tip, G.β r = some (b, o, x) → H.get r = some (.cells cs imm tip) → ∀ j, j < imm → j < cs.length → ∃ v, G.F b (o + j) = some v
  ext : ∀ r b o x cs imm tip, G.β r = some (b, o, x) → H.get r = some (.cells cs imm tip) → cs.length ≤ reach x cs tip
  room : ∀ r b o x cs imm tip, G.β r = some (b, o, x) → H.get r = some (.cells cs imm tip) → ∀ j, imm ≤ j → j < reach x cs tip →
    (∃ v, w.cell? ⟨b, o + j, none⟩ = some v) ∧ w.frozen? ⟨b, o + j, none⟩ = false ∧ G.F b (o + j) = none
  apart : ∀ r b o x cs imm tip r' b' o' x' cs' imm' tip', G.β r = some (b, o, x) → H.get r = some (.cells cs imm tip) →
    G.β r' = some (b', o', x') → H.get r' = some (.cells cs' imm' tip') → r ≠ r' →
    ∀ j j', imm ≤ j → j < reach x cs tip → imm' ≤ j' → j' < reach x' cs' tip' → b = b' → o + j ≠ o' + j'
  map : ∀ r b o x es, G.β r = some (b, o, x) → H.get r = some (.map es) → ∃ ms clock, w.heap[b]? = some (.map ms clock) ∧ Ents G es ms.toList
  mapApart : ∀ r b o x es r' b' o' x', G.β r = some (b, o, x) → H.get r = some (.map es) → G.β r' = some (b', o', x') → (H.get r').isSome → r ≠ r' → b ≠ b'
  frz : ∀ b o v, G.F b o = some v → w.cell? ⟨b, o, none⟩ = some v
  val : G.ρ = B.ρ
  sym : DecOk B.cfg.dec B.ρ
  fits : ∀ r b o x cs imm tip, G.β r = some (b, o, x) → H.get r = some (.cells cs imm tip) → cs.length ≤ x

/-- What a step leaves alone. -/
structure Fr (G : Gh) (w w' : World) : Prop where
  os : w'.os = w.os
  tape : w'.tape = w.tape
  output : w'.output = w.output
  size : w.heap.size ≤ w'.heap.size
  block : ∀ k, k < w.heap.size → (∀ r b o x, G.β r = some (b, o, x) → b ≠ k) → w'.heap[k]? = w.heap[k]?

theorem Fr.refl (G : Gh) (w : World) : Fr G w w := ⟨rfl, rfl, rfl, Nat.le_refl _, fun _ _ _ => rfl⟩

/-- New blocks of G' lie above w. -/
def New (G G' : Gh) (w : World) : Prop := ∀ r b o x, G'.β r = some (b, o, x) → G.β r = some (b, o, x) ∨ w.heap.size ≤ b ∨ ∃ r' o' x', G.β r' = some (b, o', x')

theorem Fr.trans {G G' : Gh} {a b c : World} (h : Fr G a b) (k : Fr G' b c) (n : New G G' a) : Fr G a c :=
  ⟨k.os.trans h.os, k.tape.trans h.tape, k.output.trans h.output, Nat.le_trans h.size k.size, fun i hi hn =>
    (k.block i (Nat.lt_of_lt_of_le hi h.size) (fun r b o x hr he => by
      rcases n r b o x hr with h1 | h1 | ⟨r', o', x', h1⟩
      · exact hn r b o x h1 he
      · omega
      · exact hn r' b o' x' h1 he)).trans (h.block i hi hn)⟩

theorem New.refl (G : Gh) (w : World) : New G G w := fun _ _ _ _ h => .inl h
theorem New.trans {G G' G'' : Gh} {w w' : World} (h : New G G' w) (k : New G' G'' w') (hs : w.heap.size ≤ w'.heap.size) : New G G'' w := fun r b o x hr => by
  rcases k r b o x hr with h1 | h1 | ⟨r', o', x', h1⟩
  · exact h r b o x h1
  · exact .inr (.inl (by omega))
  · rcases h r' b o' x' h1 with h2 | h2 | h2
    · exact .inr (.inr ⟨r', o', x', h2⟩)
    · exact .inr (.inl h2)
    · exact .inr (.inr h2)

/-- What a step of the abstract machine promises of the model's world. (nx: the first free block number as the step began.) -/
structure Step (B : Bs) (nx : Nat) (G : Gh) (w : World) (H' : Hp) (w' : World) (G' : Gh) : Prop where
  r : R B H' w' G'
  ext : Ext G G'
  fr : Fr G w w'
  new : New G G' w
  low : ∀ r p, G'.β r = some p → G.β r = some p ∨ nx ≤ r
  mono : nx ≤ H'.next
  icy : ∀ b o v, G'.F b o = some v → G.F b o = some v ∨ B.at' ≤ b

theorem Step.refl {B : Bs} {H : Hp} {G : Gh} {w : World} (h : R B H w G) : Step B H.next G w H w G := ⟨h, Ext.refl _, Fr.refl _ _, New.refl _ _, fun _ _ h => .inl h, Nat.le_refl _, fun _ _ _ h => .inl h⟩
theorem Step.trans {B : Bs} {nx : Nat} {H' H'' : Hp} {G G' G'' : Gh} {w w' w'' : World} (h : Step B nx G w H' w' G') (k : Step B H'.next G' w' H'' w'' G'') : Step B nx G w H'' w'' G'' :=
  ⟨k.r, h.ext.trans k.ext, h.fr.trans k.fr h.new, h.new.trans k.new h.fr.size, fun r p hr => by
    rcases k.low r p hr with h1 | h1
    · exact h.low r p h1
    · exact .inr (Nat.le_trans h.mono h1), Nat.le_trans h.mono k.mono, fun b o v hv => by
    rcases k.icy b o v hv with h1 | h1
    · exact h.icy b o v h1
    · exact .inr h1⟩

/-- The slots. -/
structure TR (N : Nat) (G : Gh) (E : Env) (a : Act) : Prop where
  size : a.tmps.size = N
  slots : ∀ t, VR G (E.at t) (a.tmps.getD t undef)

theorem TR.mono {N : Nat} {G G' : Gh} {E : Env} {a : Act} (e : Ext G G') (h : TR N G E a) : TR N G' E a := ⟨h.size, fun t => (h.slots t).mono e⟩

theorem VR.undef (G : Gh) : VR G undefA Go.undef := .tup (cs := []) (vs := []) rfl (by simp)

/-! The trie. -/
@[simp] theorem bsel_true {α : Type} (x y : α) : bsel true x y = x := rfl
@[simp] theorem bsel_false {α : Type} (x y : α) : bsel false x y = y := rfl
theorem T.get_e {α : Type} (k : Nat) : (T.e : T α).get k = none := rfl
theorem T.get_n {α : Type} (v : Option α) (l r : T α) (k : Nat) :
    (T.n v l r).get k = bsel (Nat.beq k 0) v (bsel (Nat.beq (Nat.mod k 2) 1) (l.get (Nat.div k 2)) (r.get (Nat.sub (Nat.div k 2) 1))) := rfl
theorem T.setF_succ {α : Type} (v : Option α) (f : Nat) (t : T α) (k : Nat) : T.setF v (f + 1) t k = T.casesOn t
      (bsel (Nat.beq k 0) (.n v .e .e) (bsel (Nat.beq (Nat.mod k 2) 1) (.n none (T.setF v f .e (Nat.div k 2)) .e) (.n none .e (T.setF v f .e (Nat.sub (Nat.div k 2) 1)))))
      (fun u l r => bsel (Nat.beq k 0) (.n v l r) (bsel (Nat.beq (Nat.mod k 2) 1) (.n u (T.setF v f l (Nat.div k 2)) r) (.n u l (T.setF v f r (Nat.sub (Nat.div k 2) 1))))) := rfl
theorem T.get_setF {α : Type} (v : Option α) : ∀ (f : Nat) (t : T α) (k j : Nat), k < f → (T.setF v f t k).get j = if j = k then v else t.get j := by
  intro f
  induction f with
  | zero => intro t k j h; omega
  | succ f ih =>
    intro t k j h
    have hd : ∀ n : Nat, Nat.div n 2 = n / 2 := fun _ => rfl
    have hm : ∀ n : Nat, Nat.mod n 2 = n % 2 := fun _ => rfl
    have hs : ∀ n : Nat, Nat.sub n 1 = n - 1 := fun _ => rfl
    have hb0 : ∀ n m : Nat, Nat.beq n m = decide (n = m) := fun n m => by
      cases h : Nat.beq n m with
      | true => have e := Nat.eq_of_beq_eq_true h; simp [e]
      | false => have e := Nat.ne_of_beq_eq_false h; simp [e]
    rw [T.setF_succ]
    cases t with
    | e =>
      simp only []
      by_cases hk0 : k = 0
      · subst hk0
        simp only [hb0, decide_true, bsel_true, T.get_n, T.get_e]
        by_cases hj : j = 0 <;> simp [hj] 
        cases decide (j.mod 2 = 1) <;> rfl
      · simp only [hb0, hk0, decide_false, bsel_false]
        by_cases hk1 : Nat.mod k 2 = 1
        · simp only [hk1, decide_true, bsel_true, T.get_n, hb0]
          by_cases hj0 : j = 0
          · subst hj0; simp [T.get_e]; omega
          · simp only [hj0, decide_false, bsel_false]
            by_cases hj1 : Nat.mod j 2 = 1
            · simp only [hj1, decide_true, bsel_true]
              rw [ih _ _ _ (by rw [hd]; omega)]
              rw [hd, hd, hm] at *
              by_cases e : j = k
              · subst e; simp
              · rw [if_neg (by omega), if_neg e]; rfl
            · simp only [hj1, decide_false, bsel_false, T.get_e]
              rw [if_neg (by rintro rfl; exact hj1 hk1)]
        · simp only [hk1, decide_false, bsel_false, T.get_n, hb0]
          by_cases hj0 : j = 0
          · subst hj0; simp [T.get_e]; omega
          · simp only [hj0, decide_false, bsel_false]
            by_cases hj1 : Nat.mod j 2 = 1
            · simp only [hj1, decide_true, bsel_true, T.get_e]
              rw [if_neg (by rintro rfl; exact hk1 hj1)]
            · simp only [hj1, decide_false, bsel_false]
              rw [ih _ _ _ (by rw [hd, hs]; omega)]
              rw [hd, hd, hs, hs]
              rw [hm] at hk1 hj1
              by_cases e : j = k
              · subst e; simp
              · rw [if_neg (by omega), if_neg e]; rfl
    | n u l r =>
      simp only []
      by_cases hk0 : k = 0
      · subst hk0
        simp only [hb0, decide_true, bsel_true, T.get_n]
        by_cases hj : j = 0 <;> simp [hj]
      · simp only [hb0, hk0, decide_false, bsel_false]
        by_cases hk1 : Nat.mod k 2 = 1
        · simp only [hk1, decide_true, bsel_true, T.get_n, hb0]
          by_cases hj0 : j = 0
          · subst hj0; simp; omega
          · simp only [hj0, decide_false, bsel_false]
            by_cases hj1 : Nat.mod j 2 = 1
            · simp only [hj1, decide_true, bsel_true]
              rw [ih _ _ _ (by rw [hd]; omega)]
              rw [hm] at hk1 hj1
              rw [hd, hd]
              by_cases e : j = k
              · subst e; simp
              · rw [if_neg (by omega), if_neg e]
            · simp only [hj1, decide_false, bsel_false]
              rw [if_neg (by rintro rfl; exact hj1 hk1)]
        · simp only [hk1, decide_false, bsel_false, T.get_n, hb0]
          by_cases hj0 : j = 0
          · subst hj0; simp; omega
          · simp only [hj0, decide_false, bsel_false]
            by_cases hj1 : Nat.mod j 2 = 1
            · simp only [hj1, decide_true, bsel_true]
              rw [if_neg (by rintro rfl; exact hk1 hj1)]
            · simp only [hj1, decide_false, bsel_false]
              rw [ih _ _ _ (by rw [hd, hs]; omega)]
              rw [hm] at hk1 hj1
              rw [hd, hd, hs, hs]
              by_cases e : j = k
              · subst e; simp
              · rw [if_neg (by omega), if_neg e]

theorem T.get_set {α : Type} (t : T α) (k j : Nat) (v : Option α) : (t.set k v).get j = if j = k then v else t.get j := T.get_setF v (k + 1) t k j (by omega)

theorem Hp.get_set (h : Hp) (r j : Nat) (b : HB) : (h.set r b).get j = if j = r then some b else h.get j := T.get_set _ _ _ _
theorem Hp.get_kill (h : Hp) (r j : Nat) : (h.kill r).get j = if j = r then none else h.get j := T.get_set _ _ _ _
theorem Hp.get_alloc (h : Hp) (j : Nat) (b : HB) : (h.alloc b).get j = if j = h.next then some b else h.get j := T.get_set _ _ _ _
@[simp] theorem Hp.next_set (h : Hp) (r : Nat) (b : HB) : (h.set r b).next = h.next := rfl
@[simp] theorem Hp.next_kill (h : Hp) (r : Nat) : (h.kill r).next = h.next := rfl
@[simp] theorem Hp.next_alloc (h : Hp) (b : HB) : (h.alloc b).next = h.next + 1 := rfl

theorem Env.at_set (E : Env) (d t : Nat) (v : AV) : Env.at (T.set E d (some v)) t = if t = d then v else E.at t := by
  unfold Env.at
  rw [T.get_set]
  split <;> rfl

theorem TR.put {N : Nat} {G : Gh} {E E' : Env} {a : Act} (h : TR N G E a) {dst : Option Tmp} {c : AV} {v : Value} (hv : VR G c v) (hp : putA N E dst c = some E') : TR N G E' (a.put dst v) := by
  cases dst with
  | none => simp [putA] at hp; subst hp; exact h
  | some d =>
    simp only [putA] at hp
    split at hp
    · rename_i hd
      simp only [Option.some.injEq] at hp
      subst hp
      have hd' : d < N := by simpa [Nat.blt_eq] using hd
      refine ⟨by simp [Act.put, h.size], fun t => ?_⟩
      rw [Env.at_set]
      simp only [Act.put]
      by_cases e : t = d
      · subst e
        rw [if_pos rfl]
        simpa [Array.getD, h.size, hd'] using hv
      · rw [if_neg e]
        have := h.slots t
        simpa [Array.getD_eq_getD_getElem?, Array.getElem?_setIfInBounds, Ne.symm e] using this
    · simp at hp

end Go.Ab
