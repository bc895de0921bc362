/- A region that draws its order: facts on the run in the order of the text. -/
import Derived.Test.YtlanljjbcpepjaaAbRun
namespace Go.Ab
open Go Go.RowKit

section
variable {P : Program} {B : Bs} {G : Gh} {H H' : Hp} {w : World} {cfg : Cfg}

theorem Sx.beq_eq : ∀ {a b : Sx}, Sx.beq a b = true → a = b
  | .var i, b, h => by
    cases b <;> simp only [Sx.beq, Bool.false_eq_true] at h
    rw [Nat.eq_of_beq_eq_true h]
  | .lit i, b, h => by
    cases b <;> simp only [Sx.beq, Bool.false_eq_true, beq_iff_eq] at h
    rw [h]
  | .bin o k x y, b, h => by
    cases b <;> simp only [Sx.beq, Bool.false_eq_true, Bool.and_eq_true, decide_eq_true_eq] at h
    obtain ⟨⟨⟨rfl, rfl⟩, h1⟩, h2⟩ := h
    rw [Sx.beq_eq h1, Sx.beq_eq h2]
  | .conv k x, b, h => by
    cases b <;> simp only [Sx.beq, Bool.false_eq_true, Bool.and_eq_true, decide_eq_true_eq] at h
    obtain ⟨rfl, h1⟩ := h
    rw [Sx.beq_eq h1]

mutual
theorem AV.beq_eq : ∀ {a b : AV}, AV.beq a b = true → a = b
  | .int k a, b, h => by
    cases b <;> simp only [AV.beq, Bool.and_eq_true, decide_eq_true_eq, beq_iff_eq, Bool.false_eq_true] at h
    obtain ⟨rfl, rfl⟩ := h; rfl
  | .sx k a, b, h => by
    cases b <;> simp only [AV.beq, Bool.and_eq_true, decide_eq_true_eq, Bool.false_eq_true] at h
    obtain ⟨rfl, h1⟩ := h
    rw [Sx.beq_eq h1]
  | .bool a, b, h => by
    cases b <;> simp only [AV.beq, beq_iff_eq, Bool.false_eq_true] at h
    subst h; rfl
  | .str a, b, h => by
    cases b <;> simp only [AV.beq, beq_iff_eq, Bool.false_eq_true] at h
    subst h; rfl
  | .nilP, b, h => by cases b <;> simp only [AV.beq, Bool.false_eq_true] at h; rfl
  | .nilM, b, h => by cases b <;> simp only [AV.beq, Bool.false_eq_true] at h; rfl
  | .nilF, b, h => by cases b <;> simp only [AV.beq, Bool.false_eq_true] at h; rfl
  | .nilS, b, h => by cases b <;> simp only [AV.beq, Bool.false_eq_true] at h; rfl
  | .ptr r o, b, h => by
    cases b <;> simp only [AV.beq, Bool.and_eq_true, Bool.false_eq_true] at h
    obtain ⟨h1, h2⟩ := h
    rw [Nat.eq_of_beq_eq_true h1, Nat.eq_of_beq_eq_true h2]
  | .iptr a, b, h => by
    cases b <;> simp only [AV.beq, Bool.false_eq_true] at h
    rw [AV.beqs_eq h]
  | .sl r o l z, b, h => by
    cases b <;> simp only [AV.beq, Bool.and_eq_true, Bool.false_eq_true] at h
    obtain ⟨⟨⟨h1, h2⟩, h3⟩, h4⟩ := h
    rw [Nat.eq_of_beq_eq_true h1, Nat.eq_of_beq_eq_true h2, Nat.eq_of_beq_eq_true h3, Nat.eq_of_beq_eq_true h4]
  | .lst a, b, h => by
    cases b <;> simp only [AV.beq, Bool.false_eq_true] at h
    rw [AV.beqss_eq h]
  | .map r, b, h => by
    cases b <;> simp only [AV.beq, Bool.false_eq_true] at h
    rw [Nat.eq_of_beq_eq_true h]
  | .clo f a, b, h => by
    cases b <;> simp only [AV.beq, Bool.and_eq_true, Bool.false_eq_true] at h
    rw [Nat.eq_of_beq_eq_true h.1, AV.beqs_eq h.2]
  | .agg a, b, h => by
    cases b <;> simp only [AV.beq, Bool.false_eq_true] at h
    rw [AV.beqs_eq h]
  | .tup a, b, h => by
    cases b <;> simp only [AV.beq, Bool.false_eq_true] at h
    rw [AV.beqs_eq h]
theorem AV.beqs_eq : ∀ {a b : List AV}, AV.beqs a b = true → a = b
  | [], b, h => by cases b <;> simp only [AV.beqs, Bool.false_eq_true] at h; rfl
  | a :: x, b, h => by
    cases b <;> simp only [AV.beqs, Bool.and_eq_true, Bool.false_eq_true] at h
    rw [AV.beq_eq h.1, AV.beqs_eq h.2]
theorem AV.beqss_eq : ∀ {a b : List (List AV)}, AV.beqss a b = true → a = b
  | [], b, h => by cases b <;> simp only [AV.beqss, Bool.false_eq_true] at h; rfl
  | a :: x, b, h => by
    cases b <;> simp only [AV.beqss, Bool.and_eq_true, Bool.false_eq_true] at h
    rw [AV.beqs_eq h.1, AV.beqss_eq h.2]
end

theorem zip_eq {α β : Type} : ∀ {a b : List (α × β)}, a.map (·.1) = b.map (·.1) → a.map (·.2) = b.map (·.2) → a = b
  | [], b, h, _ => by cases b <;> simp at h; rfl
  | (x, y) :: a, b, h, h' => by
    cases b with
    | nil => simp at h
    | cons c b =>
      obtain ⟨u, v⟩ := c
      simp only [List.map_cons, List.cons.injEq] at h h'
      obtain ⟨rfl, h⟩ := h
      obtain ⟨rfl, h'⟩ := h'
      rw [zip_eq h h']

theorem HB.beq_eq {a b : HB} (h : HB.beq a b = true) : a = b := by
  cases a <;> cases b <;> simp only [HB.beq, Bool.and_eq_true, Bool.false_eq_true, beq_iff_eq] at h
  · obtain ⟨⟨h1, h2⟩, h3⟩ := h
    rw [AV.beqs_eq h1, Nat.eq_of_beq_eq_true h2, h3]
  · rw [zip_eq (AV.beqs_eq h.1) (AV.beqs_eq h.2)]

/-! The run in the order of the text. -/

def ChainD (P : Program) (cfg : Cfg) (ih : Task → Res) (f N : Nat) (all : List Oper) : List Rec → List Oper → Env → Hp → Env → Hp → Prop
  | [], [], E, H, E', H' => E = E' ∧ H = H'
  | r :: rs, o :: l, E, H, E', H' => r.o = o ∧ r.E = E ∧ r.H = H ∧ wantedA all E o = r.did ∧ (r.did = true → operA P cfg ih f E H o.op = .val r.val r.H') ∧ (r.did = false → r.val = undefA ∧ r.H' = H) ∧
      ∃ E1, putA N E o.dst r.val = some E1 ∧ ChainD P cfg ih f N all rs l E1 r.H' E' H'
  | _, _, _, _, _, _ => False

theorem runD_chain {ih : Task → Res} {f N : Nat} {all : List Oper} : ∀ {l : List Oper} {E E' : Env} {H H' : Hp} {rs : List Rec}, runD P cfg ih f N all l E H = .done E' H' rs → ChainD P cfg ih f N all rs l E H E' H'
  | [], E, E', H, H', rs, h => by
    simp only [runD, ResD.done.injEq] at h
    obtain ⟨rfl, rfl, rfl⟩ := h
    exact ⟨rfl, rfl⟩
  | o :: l, E, E', H, H', rs, h => by
    simp only [runD] at h
    cases hw : wantedA all E o with
    | true =>
      rw [hw] at h
      simp only [] at h
      cases hop : operA P cfg ih f E H o.op with
      | val v H1 =>
        rw [hop] at h
        simp only [] at h
        cases hp : putA N E o.dst v with
        | none => rw [hp] at h; simp [afterPutD, consD] at h
        | some E1 =>
          rw [hp] at h
          simp only [afterPutD] at h
          cases hr : runD P cfg ih f N all l E1 H1 with
          | fail => rw [hr] at h; simp [consD] at h
          | done E2 H2 rs2 =>
            rw [hr] at h
            simp only [consD, ResD.done.injEq] at h
            obtain ⟨rfl, rfl, rfl⟩ := h
            exact ⟨rfl, rfl, rfl, hw, fun _ => hop, by simp, E1, hp, runD_chain hr⟩
      | done _ _ _ => rw [hop] at h; simp at h
      | fail => rw [hop] at h; simp at h
    | false =>
      rw [hw] at h
      simp only [] at h
      cases hp : putA N E o.dst undefA with
      | none => rw [hp] at h; simp [afterPutD, consD] at h
      | some E1 =>
        rw [hp] at h
        simp only [afterPutD] at h
        cases hr : runD P cfg ih f N all l E1 H with
        | fail => rw [hr] at h; simp [consD] at h
        | done E2 H2 rs2 =>
          rw [hr] at h
          simp only [consD, ResD.done.injEq] at h
          obtain ⟨rfl, rfl, rfl⟩ := h
          exact ⟨rfl, rfl, rfl, hw, by simp, fun _ => ⟨rfl, rfl⟩, E1, hp, runD_chain hr⟩

def envAt (rs : List Rec) (E' : Env) (e : Nat) : Env := match rs[e]? with
  | some r => r.E
  | none => E'

theorem chain_len {ih : Task → Res} {f N : Nat} {all : List Oper} : ∀ {rs : List Rec} {l : List Oper} {E E' : Env} {H H' : Hp}, ChainD P cfg ih f N all rs l E H E' H' → rs.length = l.length
  | [], [], _, _, _, _, _ => rfl
  | [], _ :: _, _, _, _, _, h => by simp [ChainD] at h
  | _ :: _, [], _, _, _, _, h => by simp [ChainD] at h
  | r :: rs, o :: l, E, E', H, H', h => by
    obtain ⟨_, _, _, _, _, _, E1, _, h⟩ := h
    simp [chain_len h]

theorem chain_zero {ih : Task → Res} {f N : Nat} {all : List Oper} {rs : List Rec} {l : List Oper} {E E' : Env} {H H' : Hp} (h : ChainD P cfg ih f N all rs l E H E' H') : envAt rs E' 0 = E ∧ heapAt rs H' 0 = H := by
  cases rs with
  | nil =>
    cases l with
    | nil => obtain ⟨rfl, rfl⟩ := h; exact ⟨rfl, rfl⟩
    | cons o l => simp [ChainD] at h
  | cons r rs =>
    cases l with
    | nil => simp [ChainD] at h
    | cons o l =>
      obtain ⟨_, h1, h2, _⟩ := h
      exact ⟨by simp [envAt, h1], by simp [heapAt, h2]⟩

/-- What is known of record i. -/
structure AtD (P : Program) (cfg : Cfg) (ih : Task → Res) (f N : Nat) (all : List Oper) (o : Oper) (r : Rec) (E E1 : Env) (H H1 : Hp) : Prop where
  eo : r.o = o
  eE : r.E = E
  eH : r.H = H
  want : wantedA all E o = r.did
  yes : r.did = true → operA P cfg ih f E H o.op = .val r.val H1
  no : r.did = false → r.val = undefA ∧ H1 = H
  put : putA N E o.dst r.val = some E1
  eH' : r.H' = H1

theorem chain_at {ih : Task → Res} {f N : Nat} {all : List Oper} : ∀ {rs : List Rec} {l : List Oper} {E E' : Env} {H H' : Hp}, ChainD P cfg ih f N all rs l E H E' H' → ∀ {i : Nat} {r : Rec}, rs[i]? = some r →
    ∃ o, l[i]? = some o ∧ AtD P cfg ih f N all o r (envAt rs E' i) (envAt rs E' (i + 1)) (heapAt rs H' i) (heapAt rs H' (i + 1))
  | [], _, _, _, _, _, _, i, r, hr => by simp at hr
  | r :: rs, [], _, _, _, _, h, _, _, _ => by simp [ChainD] at h
  | r :: rs, o :: l, E, E', H, H', h, i, r', hr => by
    obtain ⟨h1, h2, h3, h4, h5, h6, E1, h7, h8⟩ := h
    obtain ⟨z1, z2⟩ := chain_zero h8
    cases i with
    | zero =>
      simp at hr
      subst hr
      have e1 : envAt (r :: rs) E' 1 = E1 := by rw [← z1]; simp [envAt]
      have e2 : heapAt (r :: rs) H' 1 = r.H' := by rw [← z2]; simp [heapAt]
      have e3 : envAt (r :: rs) E' 0 = E := by simp [envAt, h2]
      have e4 : heapAt (r :: rs) H' 0 = H := by simp [heapAt, h3]
      refine ⟨o, rfl, ?_⟩
      rw [e1, e2, e3, e4]
      exact ⟨h1, h2, h3, h4, h5, fun hn => ⟨(h6 hn).1, (h6 hn).2⟩, h7, rfl⟩
    | succ i =>
      obtain ⟨o', g1, g2⟩ := chain_at h8 (i := i) (r := r') (by simpa using hr)
      have e1 : ∀ k, envAt (r :: rs) E' (k + 1) = envAt rs E' k := fun k => by simp [envAt]
      have e2 : ∀ k, heapAt (r :: rs) H' (k + 1) = heapAt rs H' k := fun k => by simp [heapAt]
      refine ⟨o', by simpa using g1, ?_⟩
      rw [e1, e1, e2, e2]
      exact g2

/-! What leaves the heap alone. -/

def isCalm (op : Op) : Bool := match kindOf op with | .calm => true | _ => false
def isRead (op : Op) : Bool := match kindOf op with | .read => true | _ => false

theorem calm_val {D : BinOp → Sx → Sx → Option Bool} {E : Env} {op : Op} (hk : isCalm op = true) : ∃ u, ∀ X, opA P D E X op = ret X u := by
  cases op <;> simp only [isCalm, kindOf, Bool.false_eq_true] at hk <;> simp only [opA]
  case move x => exact ⟨_, fun X => rfl⟩
  case assign x => exact ⟨_, fun X => rfl⟩
  case pick c a b =>
    unfold opPick
    cases aeval E c with
    | none => exact ⟨none, fun X => rfl⟩
    | some v => cases v with
      | bool t => cases t <;> exact ⟨_, fun X => rfl⟩
      | _ => exact ⟨none, fun X => rfl⟩
  case build t parts =>
    unfold opBuild
    cases partsA E parts.toList with
    | none => exact ⟨none, fun X => rfl⟩
    | some ps => exact ⟨_, fun X => rfl⟩
  case nilCheck x =>
    unfold opNilCheck
    cases aeval E x with
    | none => exact ⟨none, fun X => rfl⟩
    | some v => cases v with
      | ptr r o => exact ⟨some (.ptr r o), fun X => rfl⟩
      | iptr cs => exact ⟨some (.iptr cs), fun X => rfl⟩
      | _ => exact ⟨none, fun X => rfl⟩
  case binOp op t x y yt =>
    unfold opBin
    cases aeval E x with
    | none => exact ⟨none, fun X => rfl⟩
    | some v => cases aeval E y with
      | none => exact ⟨none, fun X => rfl⟩
      | some u => exact ⟨_, fun X => rfl⟩
  case unOp op t x =>
    unfold opUn
    cases aeval E x with
    | none => exact ⟨none, fun X => rfl⟩
    | some v => exact ⟨_, fun X => rfl⟩
  case makeFunc fn first captured =>
    unfold opMakeFunc
    cases fn with
    | func f =>
      cases first.toList with
      | nil => cases aevals E captured.toList with
        | none => exact ⟨none, fun X => rfl⟩
        | some vs => exact ⟨some (.clo f vs), fun X => rfl⟩
      | cons _ _ => exact ⟨none, fun X => rfl⟩
    | _ => exact ⟨none, fun X => rfl⟩
  case fieldAddr t x f =>
    unfold opFieldAddr
    cases aeval E x with
    | none => exact ⟨none, fun X => rfl⟩
    | some v => exact ⟨_, fun X => rfl⟩
  case field t x f =>
    unfold opField
    cases aeval E x with
    | none => exact ⟨none, fun X => rfl⟩
    | some v => exact ⟨_, fun X => rfl⟩
  case indexAddr t x i =>
    unfold opIndexAddr
    cases aeval E x with
    | none => exact ⟨none, fun X => rfl⟩
    | some v => cases aeval E i with
      | none => exact ⟨none, fun X => rfl⟩
      | some u => exact ⟨_, fun X => rfl⟩
  case index t x i =>
    unfold opIndex
    cases aeval E x with
    | none => exact ⟨none, fun X => rfl⟩
    | some v => cases aeval E i with
      | none => exact ⟨none, fun X => rfl⟩
      | some u => exact ⟨_, fun X => rfl⟩
  case extract x i =>
    unfold opExtract
    cases aeval E x with
    | none => exact ⟨none, fun X => rfl⟩
    | some v => exact ⟨_, fun X => rfl⟩
  all_goals exact ⟨none, fun X => rfl⟩

theorem calm_any {D : BinOp → Sx → Sx → Option Bool} {E : Env} {op : Op} {v : AV} (hk : isCalm op = true) (h : opA P D E H op = some (v, H')) : H' = H ∧ ∀ X, opA P D E X op = some (v, X) := by
  obtain ⟨u, hu⟩ := calm_val (P := P) (D := D) (E := E) hk
  rw [hu] at h
  obtain ⟨rfl, rfl⟩ := ret_some h
  exact ⟨rfl, fun X => by rw [hu]; rfl⟩

/-- Reading leaves the heap alone. -/
theorem read_heap {ih : Task → Res} {f : FuncId} {E : Env} {op : Op} {v : AV} (hk : isRead op = true) (h : operA P cfg ih f E H op = .val v H') : H' = H := by
  cases op <;> simp only [isRead, kindOf, Bool.false_eq_true] at hk <;> simp only [operA, opA] at h
  case load t x =>
    unfold opLoad at h
    split at h
    · cases hx : aload P H t ‹AV› <;> rw [hx] at h <;> simp [ret, resOf] at h
      exact h.2.symm
    · simp [resOf] at h
  case slice t x lo hi mx =>
    unfold opSlice at h
    split at h
    · rename_i xv lv hv _ _ _
      cases hx : sliceHA P H t xv lv hv <;> rw [hx] at h <;> simp [ret, resOf] at h
      exact h.2.symm
    · simp [resOf] at h
  case convert s d x =>
    unfold opConvert at h
    split at h
    · cases hx : convertA P H s d ‹AV› <;> rw [hx] at h <;> simp [ret, resOf] at h
      exact h.2.symm
    · simp [resOf] at h
  case lookup t m k ok =>
    unfold opLookup at h
    split at h
    · rename_i mv kv _ _
      cases hx : lookupA P H t mv kv ok <;> rw [hx] at h <;> simp [ret, resOf] at h
      exact h.2.symm
    · simp [resOf] at h
  case call c =>
    unfold callA at h
    cases hc : c.callee with
    | value g => rw [hc] at hk; simp at hk
    | invoke g m => rw [hc] at hk; simp at hk
    | builtin b =>
      rw [hc] at hk h
      simp only [] at h
      split at h
      · rename_i vs _
        cases b <;> simp only [Bool.false_eq_true] at hk <;> simp only [builtinA] at h
        all_goals
          split at h
          · rename_i v1 H1 hb
            simp only [Res.val.injEq] at h
            obtain ⟨rfl, rfl⟩ := h
            split at hb
            · split at hb
              · simp only [Option.some.injEq, Prod.mk.injEq] at hb
                exact hb.2.symm
              · simp at hb
            · simp at hb
          · simp at h
      · simp at h

theorem make_heap {D : BinOp → Sx → Sx → Option Bool} {E : Env} {o : Oper} {v : AV} (hk : isMake o = true) (h : opA P D E H o.op = some (v, H')) : ∃ blk, H' = H.alloc blk := by
  obtain ⟨dst, op, ty, pos, after, guard⟩ := o
  simp only [] at h
  cases op <;> simp only [isMake, kindOf, Bool.false_eq_true] at hk <;> simp only [opA, reduceCtorEq] at h
  case alloc t =>
    unfold opAlloc at h
    split at h
    · simp only [Option.some.injEq, Prod.mk.injEq] at h; exact ⟨_, h.2.symm⟩
    · simp at h
  case box t x =>
    unfold opBox at h
    split at h
    · simp only [Option.some.injEq, Prod.mk.injEq] at h; exact ⟨_, h.2.symm⟩
    · simp at h
  case buildSlice t len parts =>
    unfold opBuildSlice at h
    split at h
    · unfold buildSliceA at h
      (repeat' split at h) <;> first | (simp only [Option.some.injEq, Prod.mk.injEq] at h; exact ⟨_, h.2.symm⟩) | simp at h
    · simp at h
  case makeMap t r =>
    unfold opMakeMap at h
    split at h
    · simp only [Option.some.injEq, Prod.mk.injEq] at h; exact ⟨_, h.2.symm⟩
    · simp at h
  case makeSlice t l c =>
    unfold opMakeSlice at h
    split at h
    · unfold makeSliceA at h
      (repeat' split at h) <;> first | (simp only [Option.some.injEq, Prod.mk.injEq] at h; exact ⟨_, h.2.symm⟩) | simp at h
    · simp at h

theorem operA_opA {ih : Task → Res} {f : FuncId} {E : Env} {op : Op} {v : AV} (hn : ∀ c, op ≠ .call c) : operA P cfg ih f E H op = .val v H' ↔ opA P cfg.dec E H op = some (v, H') := by
  have : operA P cfg ih f E H op = resOf (opA P cfg.dec E H op) := by
    unfold operA
    split
    · exact (hn _ rfl).elim
    · rfl
  rw [this]
  cases opA P cfg.dec E H op with
  | none => simp [resOf]
  | some p => obtain ⟨a, b⟩ := p; simp [resOf]

/-- What is no act leaves the heap alone, or adds one block. -/
theorem still_heap {ih : Task → Res} {f : FuncId} {E : Env} {o : Oper} {v : AV} (hk : isAct o = false) (h : operA P cfg ih f E H o.op = .val v H') : H' = H ∨ ∃ blk, H' = H.alloc blk := by
  cases hkind : kindOf o.op with
  | act => simp [isAct, hkind] at hk
  | read => exact .inl (read_heap (by simp [isRead, hkind]) h)
  | calm =>
    have hn : ∀ c, o.op ≠ .call c := fun c e => by
      rw [e] at hkind
      simp only [kindOf] at hkind
      split at hkind <;> simp at hkind
    exact .inl (calm_any (P := P) (by simp [isCalm, hkind]) ((operA_opA hn).1 h)).1
  | make =>
    have hn : ∀ c, o.op ≠ .call c := fun c e => by
      rw [e] at hkind
      simp only [kindOf] at hkind
      split at hkind <;> simp at hkind
    exact .inr (make_heap (by simp [isMake, hkind]) ((operA_opA hn).1 h))

end
end Go.Ab
