/- A region that draws its order: every order comes to what the order of the text comes to. -/
import Derived.Test.YtlanljjbcpepjaaAbDraw1
import Derived.Orders
namespace Go.Ab
open Go Go.RowKit

/-! Which operations come before which. -/

theorem mem_nubTo {i : Nat} : ∀ {l acc : List Nat}, i ∈ nubTo acc l ↔ i ∈ acc ∨ i ∈ l
  | [], acc => by simp [nubTo]
  | x :: xs, acc => by
    simp only [nubTo]
    split
    · rename_i h
      have hx : x ∈ acc := by simpa using h
      rw [mem_nubTo, List.mem_cons]
      exact ⟨fun h => h.elim .inl (fun h => .inr (.inr h)), fun h => h.elim .inl (fun h => h.elim (fun e => .inl (by subst e; exact hx)) .inr)⟩
    · rw [mem_nubTo, List.mem_cons, List.mem_cons]
      exact ⟨fun h => h.elim (fun h => h.elim (fun e => .inr (.inl e)) .inl) (fun h => .inr (.inr h)), fun h => h.elim (fun h => .inl (.inr h)) (fun h => h.elim (fun e => .inl (.inl e)) .inr)⟩

theorem mem_nub {i : Nat} {l : List Nat} : i ∈ nub l ↔ i ∈ l := by unfold nub; rw [mem_nubTo]; simp

theorem ancs_len : ∀ (l : List Oper) (acc : List (List Nat)), (ancs l acc).length = acc.length + l.length
  | [], acc => by simp [ancs]
  | o :: l, acc => by simp only [ancs]; rw [ancs_len l]; simp; omega

theorem ancs_keep : ∀ (l : List Oper) (acc : List (List Nat)) (i : Nat), i < acc.length → (ancs l acc).getD i [] = acc.getD i []
  | [], acc, i, _ => rfl
  | o :: l, acc, i, h => by
    simp only [ancs]
    rw [ancs_keep l _ i (by simp; omega)]
    simp [List.getD, List.getElem?_append_left h]

theorem ancs_at : ∀ (l : List Oper) (acc : List (List Nat)) (j : Nat) (o : Oper), l[j]? = some o →
    ∃ acc' : List (List Nat), acc'.length = acc.length + j ∧ (∀ i, i < acc'.length → (ancs l acc).getD i [] = acc'.getD i []) ∧ (ancs l acc).getD (acc.length + j) [] = nub (preds o ++ (preds o).flatMap fun i => acc'.getD i [])
  | [], _, _, _, h => by simp at h
  | o :: l, acc, 0, o', h => by
    simp at h
    subst h
    refine ⟨acc, rfl, fun i hi => ancs_keep _ _ i hi, ?_⟩
    simp only [ancs, Nat.add_zero]
    rw [ancs_keep l _ acc.length (by simp)]
    simp [List.getD]
  | o :: l, acc, j + 1, o', h => by
    obtain ⟨acc', h1, h2, h3⟩ := ancs_at l (acc ++ [nub (preds o ++ (preds o).flatMap fun i => acc.getD i [])]) j o' (by simpa using h)
    simp only [List.length_append, List.length_cons, List.length_nil] at h1 h3
    refine ⟨acc', by omega, h2, ?_⟩
    simp only [ancs]
    rw [show acc.length + (j + 1) = acc.length + (0 + 1) + j by omega]
    exact h3

theorem anc_iff {l : List Oper} {j : Nat} {o : Oper} (ho : l[j]? = some o) (hp : ∀ p ∈ preds o, p < j) {i : Nat} :
    i ∈ (ancs l []).getD j [] ↔ i ∈ preds o ∨ ∃ p ∈ preds o, i ∈ (ancs l []).getD p [] := by
  obtain ⟨acc', h1, h2, h3⟩ := ancs_at l [] j o ho
  simp only [List.length_nil, Nat.zero_add] at h1 h3
  rw [h3, mem_nub, List.mem_append, List.mem_flatMap]
  constructor
  · rintro (h | ⟨p, hp1, hp2⟩)
    · exact .inl h
    · exact .inr ⟨p, hp1, by rw [h2 p (by rw [h1]; exact hp p hp1)]; exact hp2⟩
  · rintro (h | ⟨p, hp1, hp2⟩)
    · exact .inl h
    · exact .inr ⟨p, hp1, by rw [← h2 p (by rw [h1]; exact hp p hp1)]; exact hp2⟩

/-- What the static look gives. -/
structure CalmD (l : List Oper) : Prop where
  lt : ∀ j o, l[j]? = some o → ∀ p ∈ preds o, p < j
  guard : ∀ j o g b, l[j]? = some o → o.guard = some (g, b) → g ∈ (ancs l []).getD j []
  clash : ∀ i j p q, i < j → l[i]? = some p → l[j]? = some q → Ab.clash l p q = true → i ∈ (ancs l []).getD j []

theorem calmD_facts {l : List Oper} (h : calmD l = true) : CalmD l := by
  unfold calmD at h
  simp only [List.all_eq_true, List.mem_range] at h
  have key : ∀ j o, l[j]? = some o → (∀ p ∈ preds o, p < j) ∧ (∀ g b, o.guard = some (g, b) → g ∈ (ancs l []).getD j []) ∧ ∀ i p, i < j → l[i]? = some p → Ab.clash l p o = true → i ∈ (ancs l []).getD j [] := fun j o ho => by
    have := h j (List.getElem?_eq_some_iff.1 ho).1
    rw [ho] at this
    simp only [Bool.and_eq_true, List.all_eq_true, decide_eq_true_eq, List.mem_range] at this
    obtain ⟨⟨h1, h2⟩, h3⟩ := this
    refine ⟨h1, fun g b hg => ?_, fun i p hi hp hc => ?_⟩
    · rw [hg] at h2; simpa using h2
    · have := h3 i hi
      rw [hp] at this
      simp only [hc, Bool.not_true, Bool.false_or] at this
      simpa using this
  exact ⟨fun j o ho => (key j o ho).1, fun j o g b ho => (key j o ho).2.1 g b, fun i j p q hij hi hj => (key j q hj).2.2 i p hij hi⟩

/-- Whatever is done, what comes before it is. -/
theorem closed_anc {l : List Oper} (hc : CalmD l) {D : Nat → Prop} (hD : ∀ j, D j → ∀ o, l[j]? = some o → ∀ p ∈ preds o, D p) :
    ∀ (j : Nat) o, l[j]? = some o → (∀ p ∈ preds o, D p) → ∀ i ∈ (ancs l []).getD j [], D i := by
  intro j
  induction j using Nat.strongRecOn with
  | _ j ih =>
    intro o ho hp i hi
    rcases (anc_iff ho (hc.lt j o ho)).1 hi with h | ⟨p, hp1, hp2⟩
    · exact hp i h
    · have hlt := hc.lt j o ho p hp1
      have hjl := (List.getElem?_eq_some_iff.1 ho).1
      have hpl : l[p]? = some (l[p]'(by omega)) := List.getElem?_eq_getElem (by omega)
      exact ih p hlt _ hpl (fun q hq => hD p (hp p hp1) _ hpl q hq) i hp2

theorem anc_lt {l : List Oper} (hc : CalmD l) : ∀ (j : Nat) o, l[j]? = some o → ∀ i ∈ (ancs l []).getD j [], i < j := by
  intro j
  induction j using Nat.strongRecOn with
  | _ j ih =>
    intro o ho i hi
    rcases (anc_iff ho (hc.lt j o ho)).1 hi with h | ⟨p, hp1, hp2⟩
    · exact hc.lt j o ho i h
    · have hlt := hc.lt j o ho p hp1
      have hjl := (List.getElem?_eq_some_iff.1 ho).1
      have hpl : l[p]? = some (l[p]'(by omega)) := List.getElem?_eq_getElem (by omega)
      have := ih p hlt _ hpl i hp2
      omega

theorem mem_acts {l : List Oper} {i : Nat} : i ∈ actsD l ↔ ∃ o, l[i]? = some o ∧ isAct o = true := by
  unfold actsD
  rw [List.mem_filter, List.mem_range]
  constructor
  · rintro ⟨h1, h2⟩
    rw [List.getElem?_eq_getElem h1] at h2
    exact ⟨_, List.getElem?_eq_getElem h1, h2⟩
  · rintro ⟨o, h1, h2⟩
    exact ⟨(List.getElem?_eq_some_iff.1 h1).1, by rw [h1]; exact h2⟩

theorem mem_ready {ops : Array Oper} {listed : Array Bool} {i : Nat} : i ∈ Region.ready .any ops listed ↔ ∃ o, ops.toList[i]? = some o ∧ listed.getD i true = false ∧ ∀ p ∈ preds o, listed.getD p false = true := by
  unfold Region.ready preds
  rw [List.mem_filter, List.mem_range, Array.getElem?_toList]
  constructor
  · rintro ⟨h1, h2⟩
    rw [Array.getElem?_eq_getElem h1] at h2
    simp only [Bool.and_eq_true, Bool.not_eq_true', Option.map_some, Option.getD_some, Array.all_eq_true_iff_forall_mem, Bool.or_eq_true] at h2
    refine ⟨_, Array.getElem?_eq_getElem h1, h2.1, fun p hp => ?_⟩
    simp only [List.mem_map, List.mem_filter] at hp
    obtain ⟨e, ⟨he1, he2⟩, rfl⟩ := hp
    rcases h2.2 e (by simpa using he1) with h | h
    · rw [he2] at h; simp at h
    · exact h
  · rintro ⟨o, h1, h2, h3⟩
    have hi : i < ops.size := by
      rcases Nat.lt_or_ge i ops.size with h | h
      · exact h
      · rw [Array.getElem?_eq_none h] at h1; simp at h1
    refine ⟨hi, ?_⟩
    rw [h1]
    simp only [Bool.and_eq_true, Bool.not_eq_true', Option.map_some, Option.getD_some, Array.all_eq_true_iff_forall_mem, Bool.or_eq_true]
    refine ⟨h2, fun e he => ?_⟩
    cases hb : Region.binds .any e with
    | false => exact .inl rfl
    | true => exact .inr (h3 e.on (by simp only [List.mem_map, List.mem_filter]; exact ⟨e, ⟨by simpa using he, hb⟩, rfl⟩))

/-- The next act from s on. -/
theorem nextAct {l : List Oper} : ∀ (k s : Nat), s + k = l.length → ∃ m, s ≤ m ∧ m ≤ l.length ∧ (m = l.length ∨ m ∈ actsD l) ∧ ∀ j, s ≤ j → j < m → j ∉ actsD l
  | 0, s, hs => ⟨s, Nat.le_refl _, by omega, .inl (by omega), fun j h1 h2 => by omega⟩
  | k + 1, s, hs => by
    by_cases h : s ∈ actsD l
    · exact ⟨s, Nat.le_refl _, by omega, .inr h, fun j h1 h2 => by omega⟩
    · obtain ⟨m, h1, h2, h3, h4⟩ := nextAct (l := l) k (s + 1) (by omega)
      refine ⟨m, by omega, h2, h3, fun j hj hj' => ?_⟩
      by_cases e : j = s
      · subst e; exact h
      · exact h4 j (by omega) hj'

/-! The walk of any order. -/
section
variable {P : Program} {B : Bs} {cfg : Cfg}

/-- All that is known of the region. -/
structure Ctx (P : Program) (cfg : Cfg) (ih : Task → Res) (f N : Nat) (l : List Oper) (E0 : Env) (H0 : Hp) (E' : Env) (H' : Hp) (rs : List Rec) : Prop where
  calm : CalmD l
  len : rs.length = l.length
  at' : ∀ (i : Nat) (r : Rec), rs[i]? = some r → ∃ o, l[i]? = some o ∧ AtD P cfg ih f N l o r (envAt rs E' i) (envAt rs E' (i + 1)) (heapAt rs H' i) (heapAt rs H' (i + 1))
  zeroE : envAt rs E' 0 = E0
  zeroH : heapAt rs H' 0 = H0
  next : ∀ i, i < l.length → (heapAt rs H' i).next ≤ (heapAt rs H' (i + 1)).next
  look : ∀ (i : Nat) (r : Rec), rs[i]? = some r → r.did = true → ∀ m, (m ∈ actsD l ∨ m = l.length) → (∀ e ∈ actsD l, e ∈ (ancs l []).getD i [] → e < m) → (∀ e ∈ actsD l, i ∈ (ancs l []).getD e [] → m ≤ e) →
    sameAt P cfg r (heapAt rs H' m) = true

theorem ctx_of {ih : Task → Res} {f N : Nat} {l : List Oper} {E0 E' : Env} {H0 H' : Hp} {rs : List Rec} (hc : calmD l = true) (hr : runD P cfg ih f N l l E0 H0 = .done E' H' rs) (hl : looksD P cfg (needD l) rs H' = true) :
    Ctx P cfg ih f N l E0 H0 E' H' rs := by
  have hch := runD_chain hr
  obtain ⟨z1, z2⟩ := chain_zero hch
  have hlen := chain_len hch
  unfold looksD at hl
  simp only [Bool.and_eq_true, List.all_eq_true] at hl
  refine ⟨calmD_facts hc, hlen, fun i r hi => chain_at hch hi, z1, z2, fun i hi => ?_, fun i r hi hd m hm h1 h2 => ?_⟩
  · have hi' : i < rs.length := by omega
    have hri := List.getElem?_eq_getElem hi'
    obtain ⟨o, _, ha⟩ := chain_at hch hri
    have h3 := Nat.le_of_ble_eq_true (hl.1 _ (List.mem_of_getElem? hri))
    rw [ha.eH, ha.eH'] at h3
    exact h3
  · obtain ⟨o, ho, ha⟩ := chain_at hch hi
    have hmeet : meetsD (ancs l []) (actsD l) i m = true := by
      unfold meetsD
      simp only [Bool.not_eq_true', Bool.or_eq_false_iff, List.any_eq_false, Bool.and_eq_true, not_and]
      refine ⟨fun e he hA hle => ?_, fun e he hA hlt => ?_⟩
      · have := h1 e he (by simpa using hA)
        have := Nat.le_of_ble_eq_true hle
        omega
      · have := h2 e he (by simpa using hA)
        have : e < m := by simpa [Nat.blt_eq] using hlt
        omega
    have hin : ∀ k, kindOf o.op = k → (k = .read ∨ k = .make) → (i, m) ∈ needD l := fun k hk hor => by
      unfold needD
      rw [List.mem_flatMap]
      refine ⟨i, List.mem_range.2 (List.getElem?_eq_some_iff.1 ho).1, ?_⟩
      rw [ho]
      have hmem : (i, m) ∈ ((actsD l ++ [l.length]).filter (meetsD (ancs l []) (actsD l) i)).map fun m => (i, m) :=
        List.mem_map.2 ⟨m, List.mem_filter.2 ⟨by simpa using hm, hmeet⟩, rfl⟩
      rcases hor with rfl | rfl <;> simp only [hk] <;> exact hmem
    have hsame : (i, m) ∈ needD l → sameAt P cfg r (heapAt rs H' m) = true := fun h => by
      have := hl.2 _ h
      simp only [hi, hd, Bool.not_true, Bool.false_or] at this
      exact this
    have hro : r.o = o := ha.eo
    cases hk : kindOf o.op with
    | read => exact hsame (hin _ hk (.inl rfl))
    | make => exact hsame (hin _ hk (.inr rfl))
    | calm => unfold sameAt; rw [hro, hk]
    | act => unfold sameAt; rw [hro, hk]

section
variable {ih : Task → Res} {f N : Nat} {ops : Array Oper} {E0 E' : Env} {H0 H' : Hp} {rs : List Rec} (cx : Ctx P cfg ih f N ops.toList E0 H0 E' H' rs)
include cx

theorem Ctx.record {i : Nat} {o : Oper} (ho : ops.toList[i]? = some o) : ∃ r, rs[i]? = some r ∧ AtD P cfg ih f N ops.toList o r (envAt rs E' i) (envAt rs E' (i + 1)) (heapAt rs H' i) (heapAt rs H' (i + 1)) := by
  have hi : i < rs.length := by rw [cx.len]; exact (List.getElem?_eq_some_iff.1 ho).1
  obtain ⟨o', h1, h2⟩ := cx.at' i _ (List.getElem?_eq_getElem hi)
  rw [ho] at h1
  simp only [Option.some.injEq] at h1
  subst h1
  exact ⟨_, List.getElem?_eq_getElem hi, h2⟩

/-- Where no act lies between, the heap has only new blocks. -/
theorem Ctx.gap : ∀ (d s : Nat), s + d ≤ ops.toList.length → (∀ j, s ≤ j → j < s + d → j ∉ actsD ops.toList) →
    (heapAt rs H' s).next ≤ (heapAt rs H' (s + d)).next ∧ ∀ r, r < (heapAt rs H' s).next → (heapAt rs H' (s + d)).get r = (heapAt rs H' s).get r
  | 0, s, _, _ => ⟨Nat.le_refl _, fun _ _ => rfl⟩
  | d + 1, s, hs, hn => by
    obtain ⟨h1, h2⟩ := Ctx.gap d s (by omega) (fun j hj hj' => hn j hj (by omega))
    have hlt : s + d < ops.toList.length := by omega
    obtain ⟨r, hr, ha⟩ := cx.record (List.getElem?_eq_getElem hlt)
    have hna : isAct (ops.toList[s + d]) = false := by
      cases hact : isAct (ops.toList[s + d]) with
      | false => rfl
      | true => exact (hn (s + d) (by omega) (by omega) (mem_acts.2 ⟨_, List.getElem?_eq_getElem hlt, hact⟩)).elim
    have hstep : heapAt rs H' (s + d + 1) = heapAt rs H' (s + d) ∨ ∃ blk, heapAt rs H' (s + d + 1) = (heapAt rs H' (s + d)).alloc blk := by
      cases hd : r.did with
      | true => exact still_heap hna (ha.yes hd)
      | false => exact .inl (ha.no hd).2
    rw [show s + (d + 1) = s + d + 1 by omega]
    rcases hstep with e | ⟨blk, e⟩
    · rw [e]; exact ⟨h1, h2⟩
    · rw [e]
      refine ⟨by simp; omega, fun k hk => ?_⟩
      rw [Hp.get_alloc, if_neg (by omega)]
      exact h2 k hk

theorem Ctx.nextMono : ∀ (d s : Nat), s + d ≤ ops.toList.length → (heapAt rs H' s).next ≤ (heapAt rs H' (s + d)).next
  | 0, _, _ => Nat.le_refl _
  | d + 1, s, hs => Nat.le_trans (Ctx.nextMono d s (by omega)) (by rw [show s + (d + 1) = s + d + 1 by omega]; exact cx.next _ (by omega))

/-- A slot in the order of the text: the last that was written, or what it held. -/
theorem Ctx.slotAt (t : Nat) : ∀ s, s ≤ ops.toList.length →
    (∃ (i : Nat) (r : Rec) (o : Oper), i < s ∧ rs[i]? = some r ∧ ops.toList[i]? = some o ∧ o.dst = some t ∧ (∀ (j : Nat) (o' : Oper), j < s → ops.toList[j]? = some o' → o'.dst = some t → j ≤ i) ∧ (envAt rs E' s).at t = r.val) ∨
    ((∀ (j : Nat) (o' : Oper), j < s → ops.toList[j]? = some o' → o'.dst ≠ some t) ∧ (envAt rs E' s).at t = E0.at t)
  | 0, _ => .inr ⟨fun j o' hj => by omega, by rw [cx.zeroE]⟩
  | s + 1, hs => by
    have ho : ops.toList[s]? = some (ops.toList[s]'(by omega)) := List.getElem?_eq_getElem (by omega)
    obtain ⟨r, hr, ha⟩ := cx.record ho
    have hput := ha.put
    have hprev := Ctx.slotAt t s (by omega)
    by_cases hd : (ops.toList[s]'(by omega)).dst = some t
    · refine .inl ⟨s, r, _, by omega, hr, ho, hd, fun j o' hj _ _ => by omega, ?_⟩
      rw [hd] at hput
      simp only [putA] at hput
      split at hput
      · simp only [Option.some.injEq] at hput
        rw [← hput, Env.at_set, if_pos rfl]
      · simp at hput
    · have hsame : (envAt rs E' (s + 1)).at t = (envAt rs E' s).at t := by
        cases hdst : (ops.toList[s]'(by omega)).dst with
        | none =>
          rw [hdst] at hput
          simp only [putA, Option.some.injEq] at hput
          rw [← hput]
        | some d =>
          rw [hdst] at hput hd
          simp only [putA] at hput
          split at hput
          · simp only [Option.some.injEq] at hput
            rw [← hput, Env.at_set, if_neg (fun e => hd (by rw [e]))]
          · simp at hput
      rw [hsame]
      rcases hprev with ⟨i, r', o', h1, h2, h3, h4, h5, h6⟩ | ⟨h1, h2⟩
      · refine .inl ⟨i, r', o', by omega, h2, h3, h4, fun j o'' hj hjo hjd => ?_, h6⟩
        by_cases e : j = s
        · subst e; rw [ho] at hjo; simp only [Option.some.injEq] at hjo; subst hjo; exact (hd hjd).elim
        · exact h5 j o'' (by omega) hjo hjd
      · refine .inr ⟨fun j o' hj hjo => ?_, h2⟩
        by_cases e : j = s
        · subst e; rw [ho] at hjo; simp only [Option.some.injEq] at hjo; subst hjo; exact hd
        · exact h1 j o' (by omega) hjo

end

/-- Operation j is done. -/
def Done (listed : Array Bool) (j : Nat) : Prop := listed.getD j false = true

/-- The slots, the operations of D being done. -/
def Slots (rs : List Rec) (l : List Oper) (E0 : Env) (D : Nat → Prop) (G : Gh) (a : Act) : Prop := ∀ t,
  (∃ (i : Nat) (r : Rec) (o : Oper), D i ∧ rs[i]? = some r ∧ l[i]? = some o ∧ o.dst = some t ∧ (∀ (j : Nat) (o' : Oper), D j → l[j]? = some o' → o'.dst = some t → j ≤ i) ∧ VR G r.val (a.tmps.getD t undef)) ∨
  ((∀ (j : Nat) (o' : Oper), D j → l[j]? = some o' → o'.dst ≠ some t) ∧ VR G (E0.at t) (a.tmps.getD t undef))

theorem Slots.agree {ih : Task → Res} {f N : Nat} {ops : Array Oper} {E0 E' : Env} {H0 H' : Hp} {rs : List Rec} (cx : Ctx P cfg ih f N ops.toList E0 H0 E' H' rs) {D : Nat → Prop} {G : Gh} {a : Act} (hs : Slots rs ops.toList E0 D G a) {t s : Nat}
    (hsl : s ≤ ops.toList.length) (hag : ∀ (j : Nat) (o : Oper), ops.toList[j]? = some o → o.dst = some t → (D j ↔ j < s)) : VR G ((envAt rs E' s).at t) (a.tmps.getD t undef) := by
  rcases cx.slotAt t s hsl with ⟨i, r, o, h1, h2, h3, h4, h5, h6⟩ | ⟨h1, h2⟩
  · rw [h6]
    have hDi := (hag i o h3 h4).2 h1
    rcases hs t with ⟨i', r', o', g1, g2, g3, g4, g5, g6⟩ | ⟨g1, _⟩
    · have e1 := h5 i' o' ((hag i' o' g3 g4).1 g1) g3 g4
      have e2 := g5 i o hDi h3 h4
      have : i' = i := by omega
      subst this
      rw [h2] at g2
      simp only [Option.some.injEq] at g2
      subst g2
      exact g6
    · exact (g1 i o hDi h3 h4).elim
  · rw [h2]
    rcases hs t with ⟨i', r', o', g1, g2, g3, g4, g5, g6⟩ | ⟨_, g2⟩
    · exact (h1 i' o' ((hag i' o' g3 g4).1 g1) g3 g4).elim
    · exact g2


/-- What holds when the operations in 'listed' are done. -/
structure InvD (rs : List Rec) (l : List Oper) (N : Nat) (B : Bs) (nx0 : Nat) (E0 : Env) (H' : Hp) (G0 : Gh) (w0 : World) (listed : Array Bool) (a : Act) (w : World) (m : Nat) (G : Gh) : Prop where
  size : listed.size = l.length
  closed : ∀ j, Done listed j → ∀ o, l[j]? = some o → ∀ p ∈ preds o, Done listed p
  le : m ≤ l.length
  act : m = l.length ∨ m ∈ actsD l
  notyet : ¬ Done listed m
  acts : ∀ e ∈ actsD l, e < m → Done listed e
  step : Step B nx0 G0 w0 (heapAt rs H' m) w G
  low : ∀ r p, G.β r = some p → r < nx0 ∨ ∃ j, Done listed j ∧ j < l.length ∧ (heapAt rs H' j).next ≤ r ∧ r < (heapAt rs H' (j + 1)).next
  slots : Slots rs l E0 (Done listed) G a
  frame : a.tmps.size = N
  defers : a.defers = []

theorem Done.set {listed : Array Bool} {i : Nat} (hi : i < listed.size) (j : Nat) : Done (listed.setIfInBounds i true) j ↔ j = i ∨ Done listed j := by
  unfold Done
  rw [Array.getD_eq_getD_getElem?, Array.getD_eq_getD_getElem?, Array.getElem?_setIfInBounds]
  by_cases e : i = j
  · subst e; simp [hi]
  · rw [if_neg e]
    constructor
    · exact fun h => .inr h
    · rintro (h | h)
      · exact (e h.symm).elim
      · exact h

theorem Slots.put {rs : List Rec} {l : List Oper} {E0 : Env} {listed : Array Bool} {G G' : Gh} {a : Act} (hs : Slots rs l E0 (Done listed) G a) (he : Ext G G') {i : Nat} (hi : i < listed.size) {o : Oper} (ho : l[i]? = some o) {r : Rec} (hr : rs[i]? = some r)
    {v : Value} (hv : VR G' r.val v) (hd : ∀ d, o.dst = some d → d < a.tmps.size ∧ ∀ (j : Nat) (o' : Oper), Done listed j → l[j]? = some o' → o'.dst = some d → j ≤ i) : Slots rs l E0 (Done (listed.setIfInBounds i true)) G' (a.put o.dst v) := by
  intro t
  by_cases ht : o.dst = some t
  · obtain ⟨h1, h2⟩ := hd t ht
    refine .inl ⟨i, r, o, (Done.set hi i).2 (.inl rfl), hr, ho, ht, fun j o' hj hjo hjd => ?_, ?_⟩
    · rcases (Done.set hi j).1 hj with e | hj
      · omega
      · exact h2 j o' hj hjo hjd
    · rw [ht]
      simp only [Act.put]
      simpa [Array.getD, h1] using hv
  · have hsame : (a.put o.dst v).tmps.getD t undef = a.tmps.getD t undef := by
      cases hdst : o.dst with
      | none => rfl
      | some d =>
        rw [hdst] at ht
        have hne : d ≠ t := fun e => ht (by rw [e])
        simp only [Act.put, Array.getD_eq_getD_getElem?, Array.getElem?_setIfInBounds]
        rw [if_neg hne]
    rw [hsame]
    rcases hs t with ⟨i', r', o', g1, g2, g3, g4, g5, g6⟩ | ⟨g1, g2⟩
    · refine .inl ⟨i', r', o', (Done.set hi i').2 (.inr g1), g2, g3, g4, fun j o'' hj hjo hjd => ?_, g6.mono he⟩
      rcases (Done.set hi j).1 hj with e | hj
      · subst e; rw [ho] at hjo; simp only [Option.some.injEq] at hjo; subst hjo; exact (ht hjd).elim
      · exact g5 j o'' hj hjo hjd
    · refine .inr ⟨fun j o' hj hjo hjd => ?_, g2.mono he⟩
      rcases (Done.set hi j).1 hj with e | hj
      · subst e; rw [ho] at hjo; simp only [Option.some.injEq] at hjo; subst hjo; exact (ht hjd).elim
      · exact g1 j o' hj hjo hjd

theorem mem_names {all : List Oper} {o : Oper} {t : Nat} : t ∈ namesOf all o ↔ o.dst = some t ∨ (Operand.tmp t) ∈ o.op.operands.toList ∨ ∃ g b o', o.guard = some (g, b) ∧ all[g]? = some o' ∧ o'.dst = some t := by
  unfold namesOf slotsOf
  simp only [List.mem_append, Option.mem_toList, List.mem_filterMap]
  constructor
  · rintro ((h | ⟨x, hx, h⟩) | h)
    · exact .inl h
    · cases x <;> simp at h
      subst h
      exact .inr (.inl hx)
    · cases hg : o.guard with
      | none => rw [hg] at h; simp at h
      | some p =>
        obtain ⟨g, b⟩ := p
        rw [hg] at h
        simp only [Option.mem_toList, Option.bind_eq_some_iff] at h
        obtain ⟨o', h1, h2⟩ := h
        exact .inr (.inr ⟨g, b, o', rfl, h1, h2⟩)
  · rintro (h | h | ⟨g, b, o', h1, h2, h3⟩)
    · exact .inl (.inl h)
    · exact .inl (.inr ⟨_, h, rfl⟩)
    · refine .inr ?_
      rw [h1]
      simp [h2, h3]

theorem clash_slot {all : List Oper} {p q : Oper} {d : Nat} (h : (p.dst = some d ∧ d ∈ namesOf all q) ∨ (q.dst = some d ∧ d ∈ namesOf all p)) : Ab.clash all p q = true := by
  unfold Ab.clash
  rcases h with ⟨h1, h2⟩ | ⟨h1, h2⟩
  · rw [h1]; simp [h2]
  · rw [h1]; simp [h2]

theorem Step.trans' {nx : Nat} {H' H'' : Hp} {G G' G'' : Gh} {w w' w'' : World} (h : Step B nx G w H' w' G') (k : Step B nx G' w' H'' w'' G'') : Step B nx G w H'' w'' G'' :=
  ⟨k.r, h.ext.trans k.ext, h.fr.trans k.fr h.new, h.new.trans k.new h.fr.size, fun r p hr => by
    rcases k.low r p hr with h1 | h1
    · exact h.low r p h1
    · exact .inr h1, k.mono, fun b o v hv => by
    rcases k.icy b o v hv with h1 | h1
    · exact h.icy b o v h1
    · exact .inr h1⟩

theorem Step.weaken {nx nx' : Nat} {H' : Hp} {G G' : Gh} {w w' : World} (h : Step B nx G w H' w' G') (hn : nx' ≤ nx) : Step B nx' G w H' w' G' :=
  ⟨h.r, h.ext, h.fr, h.new, fun r p hr => (h.low r p hr).imp id (fun e => Nat.le_trans hn e), Nat.le_trans hn h.mono, h.icy⟩

theorem Snd.fail (P : Program) (B : Bs) : Snd P B 0 (fun _ => .fail) :=
  ⟨fun _ _ _ _ _ h => by simp at h, fun _ _ _ _ _ _ _ _ h => by simp at h, fun _ _ _ _ _ _ _ _ h => by simp at h⟩

/-- One more operation, in whatever order. -/
theorem step_sim (fit : Fit P) {n : Nat} {ih : Task → Res} (hih : Snd P B n ih) {f N nx0 : Nat} {ops : Array Oper} {E0 E' : Env} {H0 H' : Hp} {rs : List Rec} (cx : Ctx P B.cfg ih f N ops.toList E0 H0 E' H' rs) (hnx : H0.next = nx0) {G0 G : Gh} {w0 w : World}
    {listed : Array Bool} {a : Act} {m : Nat} (hI : InvD rs ops.toList N B nx0 E0 H' G0 w0 listed a w m G) {i : Nat} (hi : i ∈ Region.ready .any ops listed) {K : Act → World → Prop} {Q : Exit → Act → World → Prop}
    (hK : ∀ a' w' m' G', InvD rs ops.toList N B nx0 E0 H' G0 w0 (listed.setIfInBounds i true) a' w' m' G' → K a' w') : wpOp P ops Q i K a w := by
  obtain ⟨o, ho, hun, hpr⟩ := mem_ready.1 hi
  obtain ⟨r, hr, ha⟩ := cx.record ho
  have hil : i < ops.toList.length := (List.getElem?_eq_some_iff.1 ho).1
  have hils : i < listed.size := by rw [hI.size]; exact hil
  have hnot : ¬ Done listed i := fun hd => by
    unfold Done at hd
    rw [Array.getD_eq_getD_getElem?, Array.getElem?_eq_getElem hils] at hd
    rw [Array.getD_eq_getD_getElem?, Array.getElem?_eq_getElem hils] at hun
    simp only [Option.getD_some] at hd hun
    rw [hd] at hun; simp at hun
  -- what comes before i is done; what comes behind it is not
  have hbefore : ∀ j ∈ (ancs ops.toList []).getD i [], Done listed j := closed_anc cx.calm hI.closed i o ho hpr
  have hbehind : ∀ j, Done listed j → ∀ oj, ops.toList[j]? = some oj → i ∉ (ancs ops.toList []).getD j [] := fun j hj oj hoj hm =>
    hnot (closed_anc cx.calm hI.closed j oj hoj (hI.closed j hj oj hoj) i hm)
  -- the writers of the slots that i names
  have hagree : ∀ t ∈ namesOf ops.toList o, ∀ (j : Nat) (oj : Oper), ops.toList[j]? = some oj → oj.dst = some t → (Done listed j ↔ j < i) := fun t ht j oj hoj hjd => by
    constructor
    · intro hj
      rcases Nat.lt_trichotomy j i with h | h | h
      · exact h
      · subst h; exact (hnot hj).elim
      · exact (hbehind j hj oj hoj (cx.calm.clash i j o oj h ho hoj (clash_slot (.inr ⟨hjd, ht⟩)))).elim
    · intro hj
      exact hbefore j (cx.calm.clash j i oj o hj hoj ho (clash_slot (.inl ⟨hjd, ht⟩)))
  have hslot : ∀ t ∈ namesOf ops.toList o, VR G ((envAt rs E' i).at t) (a.tmps.getD t undef) := fun t ht => hI.slots.agree cx (Nat.le_of_lt hil) (hagree t ht)
  have hknows : Knows G (envAt rs E' i) a o.op.operands := fun x hx c hc => by
    cases x with
    | tmp t => simp only [aeval, Option.some.injEq] at hc; subst hc; exact hslot t (mem_names.2 (.inr (.inl (by simpa using hx))))
    | const v => exact vToA_rel hc
    | global g => simp [aeval] at hc
    | func f => simp only [aeval, Option.some.injEq] at hc; subst hc; exact .clo (vs := []) rfl (by simp)
  have hwant := wanted_rel (G := G) (E := envAt rs E' i) (a := a) (ops := ops) (o := o) (fun g b d hg hd => by
    simp only [Option.bind_eq_some_iff] at hd
    obtain ⟨o', h1, h2⟩ := hd
    exact hslot d (mem_names.2 (.inr (.inr ⟨g, b, o', hg, by rw [Array.getElem?_toList]; exact h1, h2⟩))))
  have hdst : ∀ d, o.dst = some d → d < a.tmps.size ∧ ∀ (j : Nat) (o' : Oper), Done listed j → ops.toList[j]? = some o' → o'.dst = some d → j ≤ i := fun d hd => by
    refine ⟨?_, fun j o' hj hjo hjd => Nat.le_of_lt ((hagree d (mem_names.2 (.inl hd)) j o' hjo hjd).1 hj)⟩
    have hp := ha.put
    rw [hd] at hp
    simp only [putA] at hp
    split at hp
    · rename_i hb; rw [hI.frame]; simpa [Nat.blt_eq] using hb
    · simp at hp
  have hclosed' : ∀ j, Done (listed.setIfInBounds i true) j → ∀ oj, ops.toList[j]? = some oj → ∀ p ∈ preds oj, Done (listed.setIfInBounds i true) p := fun j hj oj hoj p hp => by
    rcases (Done.set hils j).1 hj with rfl | hj
    · rw [ho] at hoj; simp only [Option.some.injEq] at hoj; subst hoj
      exact (Done.set hils p).2 (.inr (hpr p hp))
    · exact (Done.set hils p).2 (.inr (hI.closed j hj oj hoj p hp))
  -- an act comes up in its turn
  have hturn : isAct o = true → i = m := fun hact => by
    have him : i ∈ actsD ops.toList := mem_acts.2 ⟨o, ho, hact⟩
    rcases Nat.lt_trichotomy i m with h | h | h
    · exact (hnot (hI.acts i him h)).elim
    · exact h
    · rcases hI.act with e | e
      · omega
      · obtain ⟨om, hom, hactm⟩ := mem_acts.1 e
        exact (hI.notyet (hbefore m (cx.calm.clash m i om o h hom ho (by unfold Ab.clash; simp [hact, hactm])))).elim
  -- how the invariant goes on
  have hfin : ∀ (v : Value) (w' : World) (G' : Gh) (X : Hp), VR G' r.val v → Step B nx0 G w X w' G' →
      (∀ k p, G'.β k = some p → G.β k = some p ∨ ((heapAt rs H' i).next ≤ k ∧ k < (heapAt rs H' (i + 1)).next)) →
      ((i ≠ m ∧ X = heapAt rs H' m) ∨ (i = m ∧ X = heapAt rs H' (i + 1))) → K (a.put o.dst v) w' := fun v w' G' X hv hst hlow hX => by
    have hslots' := hI.slots.put hst.ext hils ho hr hv hdst
    have hlow' : ∀ k p, G'.β k = some p → k < nx0 ∨ ∃ j, Done (listed.setIfInBounds i true) j ∧ j < ops.toList.length ∧ (heapAt rs H' j).next ≤ k ∧ k < (heapAt rs H' (j + 1)).next := fun k p hk => by
      rcases hlow k p hk with h | h
      · rcases hI.low k p h with h | ⟨j, h1, h2⟩
        · exact .inl h
        · exact .inr ⟨j, (Done.set hils j).2 (.inr h1), h2⟩
      · exact .inr ⟨i, (Done.set hils i).2 (.inl rfl), hil, h⟩
    have hframe' : (a.put o.dst v).tmps.size = N := by rw [← hI.frame]; cases o.dst <;> simp [Act.put]
    have hdef' : (a.put o.dst v).defers = [] := by have := hI.defers; cases o.dst <;> exact this
    rcases hX with ⟨hne, rfl⟩ | ⟨rfl, rfl⟩
    · refine hK _ _ m G' ⟨by simpa using hI.size, hclosed', hI.le, hI.act, fun hd => ?_, fun e he hlt => (Done.set hils e).2 (.inr (hI.acts e he hlt)), hI.step.trans' hst, hlow', hslots', hframe', hdef'⟩
      rcases (Done.set hils m).1 hd with h | h
      · exact hne h.symm
      · exact hI.notyet h
    · -- the next act
      obtain ⟨m', q1, q2, q3, q4⟩ := nextAct (l := ops.toList) (ops.toList.length - (i + 1)) (i + 1) (by omega)
      obtain ⟨g1, g2⟩ := cx.gap (m' - (i + 1)) (i + 1) (by omega) (fun j h1 h2 => q4 j h1 (by omega))
      rw [show i + 1 + (m' - (i + 1)) = m' by omega] at g1 g2
      have hst2 : Step B nx0 G0 w0 (heapAt rs H' m') w' G' := by
        have := hI.step.trans' hst
        exact ⟨this.r.more g1 g2, this.ext, this.fr, this.new, this.low, Nat.le_trans this.mono g1, this.icy⟩
      have hact : ∀ e ∈ actsD ops.toList, e < m' → Done (listed.setIfInBounds i true) e := fun e he hlt => by
        by_cases h : e < i
        · exact (Done.set hils e).2 (.inr (hI.acts e he h))
        · by_cases h2 : e = i
          · exact (Done.set hils e).2 (.inl h2)
          · exact (q4 e (by omega) hlt he).elim
      refine hK _ _ m' G' ⟨by simpa using hI.size, hclosed', q2, q3, fun hd => ?_, hact, hst2, hlow', hslots', hframe', hdef'⟩
      rcases (Done.set hils m').1 hd with h | h
      · omega
      · -- m' is done though i, an act before it, was not
        have hm'l : m' < ops.toList.length := by
          rcases Nat.lt_or_ge m' ops.toList.length with h3 | h3
          · exact h3
          · unfold Done at h
            rw [Array.getD_eq_getD_getElem?, Array.getElem?_eq_none (by rw [hI.size]; exact h3)] at h
            simp at h
        rcases q3 with e | e
        · omega
        · obtain ⟨om, hom, hactm⟩ := mem_acts.1 e
          rcases hI.act with e2 | e2
          · omega
          · obtain ⟨oi, hoi, hacti⟩ := mem_acts.1 e2
            rw [ho] at hoi; simp only [Option.some.injEq] at hoi; subst hoi
            exact hbehind m' h om hom (cx.calm.clash i m' o om (by omega) ho hom (by unfold Ab.clash; simp [hacti, hactm]))
  -- the range of m for the looks
  have hlo : ∀ e ∈ actsD ops.toList, e ∈ (ancs ops.toList []).getD i [] → e < m := fun e he hA => by
    have hd := hbefore e hA
    rcases Nat.lt_or_ge e m with h | h
    · exact h
    · exfalso
      rcases hI.act with e2 | e2
      · have := (mem_acts.1 he); obtain ⟨oe, hoe, _⟩ := this
        have := (List.getElem?_eq_some_iff.1 hoe).1
        omega
      · by_cases e3 : e = m
        · subst e3; exact hI.notyet hd
        · obtain ⟨om, hom, hactm⟩ := mem_acts.1 e2
          obtain ⟨oe, hoe, hacte⟩ := mem_acts.1 he
          exact hI.notyet (closed_anc cx.calm hI.closed e oe hoe (hI.closed e hd oe hoe) m (cx.calm.clash m e om oe (by omega) hom hoe (by unfold Ab.clash; simp [hactm, hacte])))
  have hhi : ∀ e ∈ actsD ops.toList, i ∈ (ancs ops.toList []).getD e [] → m ≤ e := fun e he hA => by
    rcases Nat.lt_or_ge e m with h | h
    · obtain ⟨oe, hoe, _⟩ := mem_acts.1 he
      exact (hbehind e (hI.acts e he h) oe hoe hA).elim
    · exact h
  unfold wpOp
  rw [show ops[i]? = some o by rw [← Array.getElem?_toList]; exact ho]
  simp only []
  have hnxm : nx0 ≤ (heapAt rs H' m).next := hI.step.mono
  have hsame : Step B nx0 G w (heapAt rs H' m) w G := (Step.refl hI.step.r).weaken hnxm
  have hstill : ∀ (v : Value) (w' : World) (G' : Gh), i ≠ m → VR G' r.val v → Step B (heapAt rs H' m).next G w (heapAt rs H' m) w' G' → K (a.put o.dst v) w' := fun v w' G' him hv hst =>
    hfin v w' G' _ hv (hst.weaken hnxm) (fun k p hk => by
      rcases hst.low k p hk with h | h
      · exact .inl h
      · have := hst.r.dom k p hk; omega) (.inl ⟨him, rfl⟩)
  have hnotact : isAct o = false → i ≠ m := fun hna e => by
    rcases hI.act with e2 | e2
    · omega
    · obtain ⟨om, hom, hactm⟩ := mem_acts.1 e2
      rw [← e, ho] at hom; simp only [Option.some.injEq] at hom; subst hom
      rw [hna] at hactm; simp at hactm
  cases hd : r.did with
  | false =>
    have hw : Region.wanted o (yielded ops a.tmps) = false := by rw [← hwant, ha.want]; exact hd
    rw [hw]
    simp only [Bool.false_eq_true, if_false]
    obtain ⟨hval, hheap⟩ := ha.no hd
    by_cases him : i = m
    · subst him
      exact hfin undef w G (heapAt rs H' (i + 1)) (by rw [hval]; exact VR.undef G) (by rw [hheap]; exact hsame) (fun k p hk => .inl hk) (.inr ⟨rfl, rfl⟩)
    · exact hfin undef w G _ (by rw [hval]; exact VR.undef G) hsame (fun k p hk => .inl hk) (.inl ⟨him, rfl⟩)
  | true =>
    have hw : Region.wanted o (yielded ops a.tmps) = true := by rw [← hwant, ha.want]; exact hd
    rw [hw]
    simp only [if_true]
    have hop := ha.yes hd
    refine .inl ?_
    cases hkind : kindOf o.op with
    | act =>
      have him := hturn (by simp [isAct, hkind])
      subst him
      refine oper_sim fit hih hI.step.r hknows hop fun v w' G' hv hst => ?_
      refine hfin v w' G' _ hv (hst.weaken hnxm) (fun k p hk => ?_) (.inr ⟨rfl, rfl⟩)
      rcases hst.low k p hk with h | h
      · exact .inl h
      · exact .inr ⟨h, hst.r.dom k p hk⟩
    | calm =>
      have hnc : ∀ c, o.op ≠ .call c := fun c e => by
        rw [e] at hkind; simp only [kindOf] at hkind; split at hkind <;> simp at hkind
      have him := hnotact (by simp [isAct, hkind])
      have hX := (calm_any (P := P) (by simp [isCalm, hkind]) ((operA_opA hnc).1 hop)).2 (heapAt rs H' m)
      have hop' : operA P B.cfg ih f (envAt rs E' i) (heapAt rs H' m) o.op = .val r.val (heapAt rs H' m) := (operA_opA hnc).2 hX
      exact oper_sim fit hih hI.step.r hknows hop' fun v w' G' hv hst => hstill v w' G' him hv hst
    | read =>
      have him := hnotact (by simp [isAct, hkind])
      have hlook := cx.look i r hr hd m hI.act.symm hlo hhi
      unfold sameAt at hlook
      rw [ha.eo, hkind, ha.eE] at hlook
      simp only [] at hlook
      split at hlook
      · rename_i v1 H1 hop'
        have hv1 := AV.beq_eq hlook
        subst hv1
        have hH1 := read_heap (by simp [isRead, hkind]) hop'
        subst hH1
        exact oper_sim fit (Snd.fail P B) hI.step.r hknows hop' fun v w' G' hv hst => hstill v w' G' him hv hst
      · simp at hlook
    | make =>
      have him := hnotact (by simp [isAct, hkind])
      have hnc : ∀ c, o.op ≠ .call c := fun c e => by
        rw [e] at hkind; simp only [kindOf] at hkind; split at hkind <;> simp at hkind
      have hopA := (operA_opA hnc).1 hop
      obtain ⟨blk, obj, ext, v, hH1, hrun, hmade, hv⟩ := make_run (P := P) (w := w) (by simp [isMake, hkind]) hknows hopA
      have hlook := cx.look i r hr hd m hI.act.symm hlo hhi
      unfold sameAt at hlook
      rw [ha.eo, hkind, ha.eH, ha.eH'] at hlook
      simp only [] at hlook
      have hnext1 : (heapAt rs H' (i + 1)).next = (heapAt rs H' i).next + 1 := by rw [hH1]; rfl
      have hgetm : (heapAt rs H' m).get (heapAt rs H' i).next = some blk := by
        split at hlook
        · rename_i b b' h1 h2
          rw [HB.beq_eq hlook] at h1
          rw [hH1, Hp.get_alloc, if_pos rfl] at h2
          simp only [Option.some.injEq] at h2
          subst h2
          exact h1
        · simp at hlook
      have hlt : i < m := by
        rcases Nat.lt_trichotomy i m with h | h | h
        · exact h
        · exact (him h).elim
        · exfalso
          rcases hI.act with e2 | e2
          · omega
          · obtain ⟨om, hom, hactm⟩ := mem_acts.1 e2
            exact hI.notyet (hbefore m (cx.calm.clash m i om o h hom ho (by unfold Ab.clash; simp [hactm, isMake, hkind])))
      have hr0 : (heapAt rs H' i).next < (heapAt rs H' m).next := by
        have := cx.nextMono (m - (i + 1)) (i + 1) (by have := hI.le; omega)
        rw [show i + 1 + (m - (i + 1)) = m by omega] at this
        omega
      have hnx0 : nx0 ≤ (heapAt rs H' i).next := by
        have := cx.nextMono i 0 (by omega)
        rw [Nat.zero_add, cx.zeroH, hnx] at this
        exact this
      have hno : ∀ q, G.β (heapAt rs H' i).next = some q → False := fun q hq => by
        rcases hI.low _ q hq with h | ⟨j, h1, h2, h3, h4⟩
        · omega
        · rcases Nat.lt_trichotomy j i with h | h | h
          · have := cx.nextMono (i - (j + 1)) (j + 1) (by omega)
            rw [show j + 1 + (i - (j + 1)) = i by omega] at this
            omega
          · subst h; exact hnot h1
          · have := cx.nextMono (j - (i + 1)) (i + 1) (by omega)
            rw [show i + 1 + (j - (i + 1)) = j by omega] at this
            omega
      have hst := made_step hI.step.r hno hr0 hgetm hnx0 hmade
      unfold Oper.wp
      rw [hrun]
      refine hfin v _ _ _ (hv _ (Gh.add_self _ _ _)) hst (fun k p hk => ?_) (.inl ⟨him, rfl⟩)
      simp only [Gh.add] at hk
      split at hk
      · rename_i e
        exact .inr ⟨by omega, by omega⟩
      · exact .inl hk

theorem countP_set {listed : Array Bool} {i : Nat} (hi : i < listed.size) (hf : listed[i] = false) : (listed.setIfInBounds i true).toList.countP (· = false) + 1 = listed.toList.countP (· = false) := by
  rw [Array.toList_setIfInBounds, List.countP_set (by simpa using hi)]
  have h1 : listed.toList[i]'(by simpa using hi) = false := by simpa using hf
  have hpos : 0 < listed.toList.countP (· = false) := List.countP_pos_iff.2 ⟨false, by rw [← h1]; exact List.getElem_mem _, by simp⟩
  rw [h1]
  simp only [decide_true, if_true, Bool.true_eq_false, decide_false, Bool.false_eq_true, if_false]
  omega

theorem any_sim (fit : Fit P) {n : Nat} {ih : Task → Res} (hih : Snd P B n ih) {f N nx0 : Nat} {ops : Array Oper} {E0 E' : Env} {H0 H' : Hp} {rs : List Rec} (cx : Ctx P B.cfg ih f N ops.toList E0 H0 E' H' rs) (hnx : H0.next = nx0) {G0 : Gh} {w0 : World}
    (hE' : envAt rs E' ops.toList.length = E') (hH' : heapAt rs H' ops.toList.length = H') {Q : Exit → Act → World → Prop} (hQ : ∀ e a w, Post B N nx0 G0 w0 .normal E' H' e a w → Q e a w) :
    ∀ (fuel : Nat) (listed : Array Bool) (a : Act) (w : World) (m : Nat) (G : Gh), InvD rs ops.toList N B nx0 E0 H' G0 w0 listed a w m G → listed.toList.countP (· = false) ≤ fuel → wpAny P .any ops Q fuel listed a w := by
  -- at the end all is done
  have hend : ∀ (listed : Array Bool) (a : Act) (w : World) (m : Nat) (G : Gh), InvD rs ops.toList N B nx0 E0 H' G0 w0 listed a w m G → Region.ready .any ops listed = [] → Q .normal a w := fun listed a w m G hI hre => by
    have hall : ∀ j, j < ops.toList.length → Done listed j := fun j => by
      induction j using Nat.strongRecOn with
      | _ j ihj =>
        intro hj
        have ho := List.getElem?_eq_getElem hj
        have hjs : j < listed.size := by rw [hI.size]; exact hj
        cases hl : listed[j] with
        | true =>
          unfold Done
          rw [Array.getD_eq_getD_getElem?, Array.getElem?_eq_getElem hjs, hl]; rfl
        | false =>
          exfalso
          have : j ∈ Region.ready .any ops listed := mem_ready.2 ⟨_, ho, by rw [Array.getD_eq_getD_getElem?, Array.getElem?_eq_getElem hjs, hl]; rfl, fun p hp => by
            have hlt := cx.calm.lt j _ ho p hp
            exact ihj p hlt (by omega)⟩
          rw [hre] at this
          simp at this
    have hm : m = ops.toList.length := by
      rcases hI.act with e | e
      · exact e
      · obtain ⟨om, hom, _⟩ := mem_acts.1 e
        exact (hI.notyet (hall m (List.getElem?_eq_some_iff.1 hom).1)).elim
    subst hm
    have hst := hI.step
    rw [hH'] at hst
    refine hQ _ _ _ ⟨rfl, G, ⟨hI.frame, fun t => ?_⟩, hst, hI.defers⟩
    have := hI.slots.agree cx (t := t) (Nat.le_refl _) (fun j oj hoj _ => ⟨fun _ => (List.getElem?_eq_some_iff.1 hoj).1, fun h => hall j h⟩)
    rw [hE'] at this
    exact this
  intro fuel
  induction fuel with
  | zero =>
    intro listed a w m G hI hc
    have hre : Region.ready .any ops listed = [] := by
      apply List.eq_nil_iff_forall_not_mem.2
      intro i hi
      obtain ⟨o, ho, hun, _⟩ := mem_ready.1 hi
      have hil : i < listed.size := by rw [hI.size]; exact (List.getElem?_eq_some_iff.1 ho).1
      rw [Array.getD_eq_getD_getElem?, Array.getElem?_eq_getElem hil] at hun
      have := countP_set hil (by simpa using hun)
      omega
    exact ⟨hre, hend listed a w m G hI hre⟩
  | succ fuel ihf =>
    intro listed a w m G hI hc
    refine ⟨fun hre => hend listed a w m G hI hre, fun i hi => ?_⟩
    obtain ⟨o, ho, hun, _⟩ := mem_ready.1 hi
    have hil : i < listed.size := by rw [hI.size]; exact (List.getElem?_eq_some_iff.1 ho).1
    rw [Array.getD_eq_getD_getElem?, Array.getElem?_eq_getElem hil] at hun
    have hcs := countP_set hil (by simpa using hun)
    exact step_sim fit hih cx hnx hI hi (fun a' w' m' G' hI' => ihf _ a' w' m' G' hI' (by omega))

theorem runDraw_any (fit : Fit P) {n : Nat} {ih : Task → Res} (hih : Snd P B n ih) {f N : Nat} {ops : Array Oper} {E E' : Env} {H H' : Hp} {G : Gh} {w : World} {x : AX} {a : Act} (hr : runDraw P B.cfg ih f N ops.toList E H = .done x E' H')
    (h : R B H w G) (ht : TR N G E a) (hd : a.defers = []) {Q : Exit → Act → World → Prop} (hQ : ∀ e a' w', Post B N H.next G w x E' H' e a' w' → Q e a' w') : wpAny P .any ops Q ops.size (Array.replicate ops.size false) a { w with drawn := w.drawn + 1 } := by
  unfold runDraw at hr
  split at hr
  · rename_i hcalm
    split at hr
    · rename_i E1 H1 rs hrun
      split at hr
      · rename_i hlook
        simp only [Res.done.injEq] at hr
        obtain ⟨rfl, rfl, rfl⟩ := hr
        have cx := ctx_of hcalm hrun hlook
        have hlen := cx.len
        have hE' : envAt rs E1 ops.toList.length = E1 := by unfold envAt; rw [List.getElem?_eq_none (by omega)]
        have hH' : heapAt rs H1 ops.toList.length = H1 := by unfold heapAt; rw [List.getElem?_eq_none (by omega)]
        obtain ⟨m, q1, q2, q3, q4⟩ := nextAct (l := ops.toList) ops.toList.length 0 (by omega)
        obtain ⟨g1, g2⟩ := cx.gap m 0 (by omega) (fun j _ hj => q4 j (by omega) (by omega))
        rw [Nat.zero_add, cx.zeroH] at g1 g2
        have hdr : R B H { w with drawn := w.drawn + 1 } G := h.heap rfl
        have hst0 : Step B H.next G w (heapAt rs H1 m) { w with drawn := w.drawn + 1 } G :=
          ⟨hdr.more g1 g2, Ext.refl _, ⟨rfl, rfl, rfl, Nat.le_refl _, fun _ _ _ => rfl⟩, New.refl _ _, fun _ _ h => .inl h, g1, fun _ _ _ h => .inl h⟩
        have hnone : ∀ j, ¬ Done (Array.replicate ops.size false) j := fun j hj => by
          unfold Done at hj
          rw [Array.getD_eq_getD_getElem?, Array.getElem?_replicate] at hj
          split at hj <;> simp at hj
        refine any_sim fit hih cx rfl hE' hH' hQ ops.size _ a _ m G
          ⟨by simp, fun j hj => (hnone j hj).elim, q2, q3, hnone m, fun e he hlt => (q4 e (Nat.zero_le _) hlt he).elim, hst0, fun r p hr => .inl (h.dom r p hr), fun t => .inr ⟨fun j o' hj => (hnone j hj).elim, ht.slots t⟩, ht.size, hd⟩ ?_
        exact Nat.le_trans List.countP_le_length (by simp)
      · simp at hr
    · simp at hr
  · simp at hr
end
end Go.Ab
