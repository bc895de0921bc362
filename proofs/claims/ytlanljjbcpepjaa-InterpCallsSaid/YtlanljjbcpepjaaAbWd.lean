/- Regions that draw their order, in the calculus: the plain case: all but the last operation leave the heap alone. -/
import Derived.Test.YtlanljjbcpepjaaAbWp
namespace Go.Ab
set_option linter.unusedSimpArgs false
set_option linter.unusedVariables false
set_option linter.unusedSectionVars false
open Go

theorem Sx.beq_refl : ∀ a : Sx, Sx.beq a a = true
  | .var i => by simp [Sx.beq]
  | .lit n => by simp [Sx.beq]
  | .bin o k a b => by simp [Sx.beq, Sx.beq_refl a, Sx.beq_refl b]
  | .conv k a => by simp [Sx.beq, Sx.beq_refl a]

mutual
theorem AV.beq_refl : ∀ a : AV, AV.beq a a = true
  | .int k n => by simp [AV.beq]
  | .sx k e => by simp [AV.beq, Sx.beq_refl]
  | .bool b => by simp [AV.beq]
  | .str s => by simp [AV.beq]
  | .nilP => rfl
  | .nilM => rfl
  | .nilF => rfl
  | .nilS => rfl
  | .ptr r o => by simp [AV.beq]
  | .iptr cs => by simp only [AV.beq]; exact AV.beqs_refl cs
  | .sl r o l z => by simp [AV.beq]
  | .lst xs => by simp only [AV.beq]; exact AV.beqss_refl xs
  | .map r => by simp [AV.beq]
  | .clo f cs => by simp only [AV.beq, AV.beqs_refl cs, Bool.and_true]; simp
  | .agg cs => by simp only [AV.beq]; exact AV.beqs_refl cs
  | .tup cs => by simp only [AV.beq]; exact AV.beqs_refl cs
theorem AV.beqs_refl : ∀ a : List AV, AV.beqs a a = true
  | [] => rfl
  | a :: l => by simp only [AV.beqs, AV.beq_refl a, AV.beqs_refl l, Bool.and_true]
theorem AV.beqss_refl : ∀ a : List (List AV), AV.beqss a a = true
  | [] => rfl
  | a :: l => by simp only [AV.beqss, AV.beqs_refl a, AV.beqss_refl l, Bool.and_true]
end

def isStill (o : Oper) : Bool := isCalm o.op || isRead o.op
/-- The last operation does not make the heap's next number smaller. -/
def lastOk (o : Oper) : Bool := isStill o || (match o.op with | .store .. | .mapUpdate .. => true | _ => false)
def plainD (ops : List Oper) : Bool :=
  calmD ops && (List.range ops.length).all (fun i => match ops[i]? with | some o => if Nat.blt (i + 1) ops.length then isStill o else lastOk o | none => true) && (needD ops).all (fun p => Nat.blt p.2 ops.length)

section
variable {P : Program} {cfg : Cfg} {f N : Nat}

theorem runD_of_runOps {ih : Task → Res} {all : List Oper} : ∀ {l : List Oper} {E E' : Env} {H H' : Hp}, runOps P cfg ih f N all l E H = .done .normal E' H' → ∃ rs, runD P cfg ih f N all l E H = .done E' H' rs
  | [], E, E', H, H', h => by
    simp only [runOps, Res.done.injEq, true_and] at h
    obtain ⟨rfl, rfl⟩ := h
    exact ⟨[], rfl⟩
  | o :: l, E, E', H, H', h => by
    rw [runOps_cons] at h
    simp only [runD]
    cases hw : wantedA all E o with
    | true =>
      rw [hw] at h
      simp only [] at h ⊢
      cases hop : operA P cfg ih f E H o.op with
      | val v H1 =>
        rw [hop] at h
        simp only [] at h ⊢
        cases hp : putA N E o.dst v with
        | none => rw [hp] at h; simp [afterPut] at h
        | some E1 =>
          rw [hp] at h
          simp only [afterPut] at h
          obtain ⟨rs, hr⟩ := runD_of_runOps h
          exact ⟨_, by simp only [afterPutD, hr, consD]; rfl⟩
      | done _ _ _ => rw [hop] at h; simp at h
      | fail => rw [hop] at h; simp at h
    | false =>
      rw [hw] at h
      simp only [] at h ⊢
      cases hp : putA N E o.dst undefA with
      | none => rw [hp] at h; simp [afterPut] at h
      | some E1 =>
        rw [hp] at h
        simp only [afterPut] at h
        obtain ⟨rs, hr⟩ := runD_of_runOps h
        exact ⟨_, by simp only [afterPutD, hr, consD]; rfl⟩

theorem still_same {ih : Task → Res} {E : Env} {o : Oper} {v : AV} {H H' : Hp} (hk : isStill o = true) (h : operA P cfg ih f E H o.op = .val v H') : H' = H := by
  unfold isStill at hk
  rw [Bool.or_eq_true] at hk; rcases hk with hk | hk
  · have hn : ∀ c, o.op ≠ .call c := fun c e => by
      rw [e] at hk
      simp only [isCalm, kindOf] at hk
      split at hk
      · rename_i h1; split at h1 <;> simp at h1
      · simp at hk
    exact (calm_any hk ((operA_opA hn).1 h)).1
  · exact read_heap hk h

theorem last_next {ih : Task → Res} {E : Env} {o : Oper} {v : AV} {H H' : Hp} (hk : lastOk o = true) (h : operA P cfg ih f E H o.op = .val v H') : H.next ≤ H'.next := by
  unfold lastOk at hk
  rw [Bool.or_eq_true] at hk; rcases hk with hk | hk
  · rw [still_same hk h]; exact Nat.le_refl _
  · obtain ⟨dst, op, ty, pos, after, guard⟩ := o
    simp only [] at hk h
    cases op <;> simp only [Bool.false_eq_true] at hk
    case store t a x =>
      simp only [operA, opA, opStore] at h
      split at h
      · split at h
        · rename_i hs
          simp only [resOf, Res.val.injEq] at h
          obtain ⟨rfl, rfl⟩ := h
          unfold astore at hs
          split at hs
          · split at hs
            · split at hs
              · simp only [Option.some.injEq] at hs; rw [← hs]; exact Nat.le_refl _
              · simp at hs
            · simp at hs
          · simp at hs
        · simp [resOf] at h
      · simp [resOf] at h
    case mapUpdate t m k x =>
      simp only [operA, opA, opMapUpdate] at h
      split at h
      · split at h
        · rename_i hs
          simp only [resOf, Res.val.injEq] at h
          obtain ⟨rfl, rfl⟩ := h
          unfold mapUpdateA at hs
          split at hs
          · split at hs
            · split at hs
              · split at hs
                · simp only [Option.some.injEq] at hs; rw [← hs]; exact Nat.le_refl _
                · simp only [Option.some.injEq] at hs; rw [← hs]; exact Nat.le_refl _
                · simp at hs
              · simp at hs
            · simp at hs
          · simp at hs
        · simp [resOf] at h
      · simp [resOf] at h

/-- What reads does so whoever calls. -/
theorem read_any {ih ih' : Task → Res} {f' : FuncId} {E : Env} {op : Op} {H : Hp} (hk : isRead op = true) : operA P cfg ih f E H op = operA P cfg ih' f' E H op := by
  cases op <;> simp only [isRead, kindOf, Bool.false_eq_true] at hk <;> try rfl
  rename_i c
  simp only [operA, callA]
  cases hc : c.callee with
  | value g => rw [hc] at hk; simp at hk
  | invoke g m => rfl
  | builtin b =>
    rw [hc] at hk
    simp only []
    cases b <;> simp only [Bool.false_eq_true] at hk <;> rfl

theorem plain_draw {ih : Task → Res} {ops : List Oper} {E E' : Env} {H H' : Hp} (hp : plainD ops = true) (h : runOps P cfg ih f N ops ops E H = .done .normal E' H') : runDraw P cfg ih f N ops E H = .done .normal E' H' := by
  unfold plainD at hp
  simp only [Bool.and_eq_true, List.all_eq_true, List.mem_range] at hp
  obtain ⟨⟨hcalm, hst⟩, hneed⟩ := hp
  obtain ⟨rs, hr⟩ := runD_of_runOps h
  have hch := runD_chain hr
  have hlen := chain_len hch
  obtain ⟨_, z2⟩ := chain_zero hch
  have hstill : ∀ (i : Nat) o, ops[i]? = some o → i + 1 < ops.length → isStill o = true := fun i o ho hi => by
    have := hst i (by omega)
    rw [ho] at this
    simp only [show Nat.blt (i + 1) ops.length = true by simpa [Nat.blt_eq] using hi, if_true] at this
    exact this
  have hheap : ∀ i, i + 1 ≤ ops.length → heapAt rs H' i = H := fun i => by
    induction i with
    | zero => intro _; exact z2
    | succ i ih =>
      intro hi
      have hri := List.getElem?_eq_getElem (show i < rs.length by omega)
      obtain ⟨o, ho, ha⟩ := chain_at hch hri
      have h1 := ih (by omega)
      have h2 : heapAt rs H' (i + 1) = heapAt rs H' i := by
        cases hd : (rs[i]'(by omega)).did with
        | true => exact still_same (hstill i o ho (by omega)) (ha.yes hd)
        | false => exact (ha.no hd).2
      rw [h2, h1]
  unfold runDraw
  rw [hcalm]
  simp only [hr]
  have hlook : looksD P cfg (needD ops) rs H' = true := by
    unfold looksD
    simp only [Bool.and_eq_true, List.all_eq_true]
    refine ⟨fun r hm => ?_, fun p hpm => ?_⟩
    · obtain ⟨i, hi⟩ := List.mem_iff_getElem?.1 hm
      obtain ⟨o, ho, ha⟩ := chain_at hch hi
      have hil : i < ops.length := (List.getElem?_eq_some_iff.1 ho).1
      rw [ha.eH, ha.eH']
      refine Nat.ble_eq_true_of_le ?_
      cases hd : r.did with
      | false => rw [(ha.no hd).2]; exact Nat.le_refl _
      | true =>
        by_cases hl : i + 1 < ops.length
        · rw [still_same (hstill i o ho hl) (ha.yes hd)]; exact Nat.le_refl _
        · have := hst i hil
          rw [ho] at this
          have hb : Nat.blt (i + 1) ops.length = false := by
            cases hx : Nat.blt (i + 1) ops.length with
            | false => rfl
            | true => exact (hl (by simpa [Nat.blt_eq] using hx)).elim
          simp only [hb, Bool.false_eq_true, if_false] at this
          exact last_next this (ha.yes hd)
    · have hm : p.2 < ops.length := by simpa [Nat.blt_eq] using hneed p hpm
      cases hrp : rs[p.1]? with
      | none => rfl
      | some r =>
        obtain ⟨o, ho, ha⟩ := chain_at hch hrp
        have hil : p.1 < ops.length := (List.getElem?_eq_some_iff.1 ho).1
        simp only []
        cases hd : r.did with
        | false => rfl
        | true =>
          simp only [Bool.not_true, Bool.false_or]
          have hH : r.H = heapAt rs H' p.2 := by rw [ha.eH, hheap _ (by omega), hheap _ (by omega)]
          unfold sameAt
          cases hk : kindOf r.o.op with
          | calm => rfl
          | act => rfl
          | read =>
            simp only []
            have hop := ha.yes hd
            rw [← ha.eE, ← ha.eo, ← ha.eH, hH] at hop
            rw [read_any (P := P) (cfg := cfg) (f := f) (ih := ih) (ih' := fun _ => .fail) (f' := 0) (by simp [isRead, hk])] at hop
            rw [hop]
            simp only [AV.beq_refl]
          | make =>
            exfalso
            rw [ha.eo] at hk
            by_cases hl : p.1 + 1 < ops.length
            · have := hstill _ o ho hl
              unfold isStill isCalm isRead at this
              rw [hk] at this
              simp at this
            · have h3 := hst p.1 hil
              rw [ho] at h3
              have hb : Nat.blt (p.1 + 1) ops.length = false := by
                cases hx : Nat.blt (p.1 + 1) ops.length with
                | false => rfl
                | true => exact (hl (by simpa [Nat.blt_eq] using hx)).elim
              simp only [hb, Bool.false_eq_true, if_false, lastOk, isStill, isCalm, isRead, hk, Bool.or_self, Bool.false_or] at h3
              split at h3
              · rename_i hop; rw [hop] at hk; simp [kindOf] at hk
              · rename_i hop; rw [hop] at hk; simp [kindOf] at hk
              · simp at h3
  rw [hlook]

theorem Wp.draw {id : Nat} {ops : List Oper} {l : List SOp} {E : Env} {H : Hp} {Q : AX → Env → Hp → Prop} (hpl : cfg.plan f id = .text) (hp : plainD ops = true) (hs : slimL N ops ops = some l)
    (h : ∀ K : Env → Hp → Prop, (∀ E' H', Q .normal E' H' → K E' H') → WpL P cfg f l E H K) : Wp P cfg f N (.draw id ops) E H Q := by
  unfold Wp
  intro code hc
  cases code with
  | region id' ops' draw =>
    cases draw with
    | false => simp only [slim, slimR] at hc; split at hc <;> simp at hc
    | true =>
      simp only [slim, SC.draw.injEq] at hc
      obtain ⟨rfl, rfl⟩ := hc
      obtain ⟨n, E', H', h1, h2⟩ := WpL.run hs (h (Q .normal) fun _ _ h => h)
      refine ⟨_, _, _, Ev.draw (n := n) (r := .done .normal E' H') ?_ (by simp), h2⟩
      rw [hpl]
      simp only [runPlan]
      exact plain_draw hp h1
  | _ => simp [slim] at hc
end
end Go.Ab
namespace Go.Ab
set_option linter.unusedSimpArgs false
set_option linter.unusedVariables false
set_option linter.unusedSectionVars false
open Go
section
variable {P : Program} {H : Hp} {t u e : TypeId} {keep : Bool}

theorem bin_sle {D : BinOp → Sx → Sx → Option Bool} {t : TypeId} {s u : List UInt8} : binA P D .leq t (.str s) (.str u) = some (.bool (bytesLt s u || s == u)) := rfl

theorem src_sl {r o n z s : Nat} {cs : List AV} {imm : Nat} {tip : Bool} (hg : H.get r = some (.cells cs imm tip)) (hl : ((cs.drop o).take (n * s)).length = n * s) : srcCells H s (.sl r o n z) = some (n, (cs.drop o).take (n * s)) := by
  unfold srcCells
  simp only [hg, hl, if_true]

theorem slice_hi {k : IntKind} {s : List UInt8} {m : Nat} (ht : P.underlying t = some .string) (hm : m ≤ s.length) : sliceA P t (.str s) none (some (.int k (m : Int))) = some (.str (s.take m)) := by
  show sliceA P t (.str s) none (some (.int k (Int.ofNat m))) = _
  simp [sliceA, ht, boundA, hm]
theorem slice_lo {k : IntKind} {s : List UInt8} {m : Nat} (ht : P.underlying t = some .string) (hm : m ≤ s.length) : sliceA P t (.str s) (some (.int k (m : Int))) none = some (.str (s.drop m)) := by
  show sliceA P t (.str s) (some (.int k (Int.ofNat m))) none = _
  simp only [sliceA, ht, boundA]
  rw [if_pos ⟨hm, Nat.le_refl _⟩]
  rw [List.take_of_length_le (by simp)]

/-- 'append' of some cells onto nothing. -/
theorem append_nil {s b n : Nat} {z new : List AV} {x : AV} (ht : P.underlying t = some (.slice e)) (hs : sizeA P e = some s) (hb : bytesA P e = some b) (hz : zeroA P e = some z) (hu : srcType P u = true)
    (hx : srcCells H s x = some (n + 1, new)) (hone : new.all AV.one = true) (hzl : z.length = s) (h1 : (n + 1) * b ≤ maxRoom) (h2 : n + 1 ≤ maxRoom) :
    appendA P keep H t u .nilS x = some (.sl H.next 0 (n + 1) s, H.alloc (.cells new 0 true)) := by
  simp only [appendA, ht, hs, hb, hz, hu, hx, hone, hzl, and_self, if_true, trimA, appendOnto, h1, h2]

/-- .. onto a slice of the run's own. -/
theorem append_sl {s b n r len : Nat} {z new cs : List AV} {x : AV} (ht : P.underlying t = some (.slice e)) (hs : sizeA P e = some s) (hb : bytesA P e = some b) (hz : zeroA P e = some z) (hu : srcType P u = true)
    (hx : srcCells H s x = some (n + 1, new)) (hone : new.all AV.one = true) (hzl : z.length = s) (hg : H.get r = some (.cells cs 0 true)) (hl : cs.length = len * s) (h1 : (len + (n + 1)) * b ≤ maxRoom) (h2 : len + (n + 1) ≤ maxRoom) :
    appendA P false H t u (.sl r 0 len s) x = some (.sl H.next 0 (len + (n + 1)) s, (H.kill r).alloc (.cells (cs ++ new) 0 true)) := by
  have htr : trimA false H s (.sl r 0 len s) = H := by
    unfold trimA
    simp only [hg, Nat.zero_add]
    have : Nat.blt (len * s) cs.length = false := by
      cases hb : Nat.blt (len * s) cs.length with
      | false => rfl
      | true => rw [Nat.blt_eq] at hb; omega
    simp [this]
  simp only [appendA, ht, hs, hb, hz, hu, hx, hone, hzl, and_self, if_true, htr, appendOnto, hg, h1, h2, Nat.zero_add, hl, Nat.zero_le, Nat.sub_self, List.drop_zero, Bool.false_eq_true, if_false]
end
end Go.Ab
namespace Go.Ab
open Go
theorem aeval_ns (E : Env) : aeval E (.const (.slice none 0 0)) = some .nilS := rfl
theorem aeval_nm (E : Env) : aeval E (.const (.map none)) = some .nilM := rfl
theorem aeval_nf (E : Env) : aeval E (.const .nilFunc) = some .nilF := rfl
theorem aeval_np (E : Env) : aeval E (.const (.pointer none)) = some .nilP := rfl
end Go.Ab
