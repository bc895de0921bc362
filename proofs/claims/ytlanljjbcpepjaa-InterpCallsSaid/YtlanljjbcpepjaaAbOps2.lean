/- Operations, on: addresses, indexes, slices, arithmetic. -/
import Derived.Test.YtlanljjbcpepjaaAbOps
namespace Go.Ab
open Go Go.RowKit

section
variable {P : Program} {B : Bs} {G : Gh} {H H' : Hp} {w : World}

theorem fieldAddr_sim {t : TypeId} {a c : AV} {av : Value} {i : Nat} (ha : VR G a av) (hf : fieldAddrA P t a i = some c) : ∃ v, (Instr.fieldAt t av i).run P w = .ok v w ∧ VR G c v := by
  unfold fieldAddrA at hf
  split at hf
  · rename_i fields hd
    split at hf
    · rename_i f hfi
      split at hf
      · rename_i s hs
        have hrun : ∀ b o, av = .pointer (some ⟨b, o, none⟩) → (Instr.fieldAt t av i).run P w = .ok (.pointer (some ⟨b, o + f.offset, none⟩)) w := fun b o e => by
          subst e
          simp only [Instr.fieldAt, Sem.run_bind, run_und hd, Result.andThen_ok]
          simp [hfi, Instr.sureAddr, fieldPlace, run_size hs, addr_add]
        split at hf
        · rename_i r off
          simp only [Option.some.injEq] at hf; subst hf
          cases ha with
          | ptr hr => exact ⟨_, hrun _ _ rfl, by rw [Nat.add_assoc]; exact .ptr hr⟩
        · rename_i cs
          simp only [Option.some.injEq] at hf; subst hf
          cases ha with
          | iptr vs hF hv =>
            refine ⟨_, hrun _ _ rfl, .iptr (fun j => vs (f.offset + j)) (fun j hj => ?_) (fun j d hj => ?_)⟩
            · rw [List.length_drop] at hj
              rw [Nat.add_assoc]; exact hF _ (by omega)
            · rw [List.getElem?_drop] at hj; exact hv _ _ hj
        · simp at hf
      · simp at hf
    · simp at hf
  · simp at hf

theorem field_sim {t : TypeId} {a c : AV} {av : Value} {i : Nat} (ha : VR G a av) (hf : fieldA P t a i = some c) : ∃ v, (Instr.field t av i).run P w = .ok v w ∧ VR G c v := by
  unfold fieldA at hf
  split at hf
  · rename_i fields cs hd
    cases ha with
    | agg hl hv =>
      rename_i vs
      split at hf
      · rename_i f hfi
        obtain ⟨v, h1, h2⟩ := run_part (P := P) (w := w) ⟨hl, hv⟩ hf
        refine ⟨v, ?_, h2⟩
        simp only [Instr.field, Sem.run_bind, run_und hd, Result.andThen_ok]
        simp only [hfi, Sem.run_bind, asAgg, Sem.run_pure, Result.andThen_ok]
        exact h1
      · simp at hf
  · simp at hf

theorem indexAddr_sim {t : TypeId} {a i c : AV} {av iv : Value} (ha : VR G a av) (hi : VR G i iv) (hf : indexAddrA P t a i = some c) : ∃ v, (Instr.indexAt t av iv).run P w = .ok v w ∧ VR G c v := by
  unfold indexAddrA at hf
  split at hf
  · rename_i kk k
    cases hi
    split at hf
    · rename_i e hd
      split at hf
      · rename_i s hs
        split at hf
        · rename_i r off len z
          split at hf
          · rename_i hk
            simp only [Option.some.injEq] at hf; subst hf
            cases ha with
            | sl hr hl hc =>
              rename_i b o x cap
              refine ⟨.pointer (some ⟨b, o + off + k * s, none⟩), ?_, by rw [Nat.add_assoc]; exact .ptr hr⟩
              simp only [Instr.indexAt, asIntOf, Sem.run_bind, Sem.run_pure, Result.andThen_ok, run_und hd]
              have h1 : (0 : Int) ≤ Int.ofNat k := Int.natCast_nonneg k
              have h2 : (Int.ofNat k) < (len : Int) := by simpa using hk
              simp [run_size hs, hk, addr_add]
          · simp at hf
        · rename_i xs
          split at hf
          · rename_i row hrow
            split at hf
            · rename_i hrl
              simp only [Option.some.injEq] at hf; subst hf
              have hk : k < xs.length := (List.getElem?_eq_some_iff.1 hrow).1
              cases ha with
              | lst vs hz hF hv hc =>
                rename_i b o cap z
                have hzs : s = z := by rw [← hrl]; exact hz k row hrow
                subst hzs
                refine ⟨.pointer (some ⟨b, o + k * s, none⟩), ?_, .iptr (vs k) (fun j hj => hF k j hk (by omega)) (fun j d hj => hv k j row d hrow hj)⟩
                simp only [Instr.indexAt, asIntOf, Sem.run_bind, Sem.run_pure, Result.andThen_ok, run_und hd]
                simp [run_size hs, hk, addr_add]
              | lst0 a cap => simp at hk
            · simp at hf
          · simp at hf
        · simp at hf
      · simp at hf
    · rename_i n e hd
      split at hf
      · rename_i s hs
        split at hf
        · rename_i r off
          split at hf
          · rename_i hk
            simp only [Option.some.injEq] at hf; subst hf
            cases ha with
            | ptr hr =>
              rename_i b o x
              refine ⟨.pointer (some ⟨b, o + off + k * s, none⟩), ?_, by rw [Nat.add_assoc]; exact .ptr hr⟩
              simp only [Instr.indexAt, asIntOf, Sem.run_bind, Sem.run_pure, Result.andThen_ok, run_und hd]
              simp [run_size hs, hk, addr_add, Instr.sureAddr]
          · simp at hf
        · simp at hf
      · simp at hf
    · simp at hf
  · simp at hf

theorem index_sim {t : TypeId} {a i c : AV} {av iv : Value} (ha : VR G a av) (hi : VR G i iv) (hf : indexA P t a i = some c) : ∃ v, (Instr.index t av iv).run P w = .ok v w ∧ VR G c v := by
  unfold indexA at hf
  split at hf
  · rename_i kk k
    cases hi
    split at hf
    · rename_i s hd
      split at hf
      · rename_i b hb
        simp only [Option.some.injEq] at hf; subst hf
        cases ha with
        | str sv l hl =>
          subst hl
          refine ⟨_, ?_, .int .u8 b.toNat⟩
          have hk : k < sv.size := by
            have := (List.getElem?_eq_some_iff.1 hb).1
            simpa using this
          have hg : sv[k]? = some b := by
            rw [ByteArray.getElem?_lt' _ _ hk]
            have := (List.getElem?_eq_some_iff.1 hb).2
            simp at this
            rw [← this]; rfl
          simp only [Instr.index, asIntOf, Sem.run_bind, Sem.run_pure, Result.andThen_ok, run_und hd]
          simp [hg]
      · simp at hf
    · rename_i n e cs hd
      split at hf
      · rename_i hk
        split at hf
        · rename_i s hs
          cases ha with
          | agg hl hv =>
            rename_i vs
            obtain ⟨v, h1, h2⟩ := run_part (P := P) (w := w) ⟨hl, hv⟩ hf
            refine ⟨v, ?_, h2⟩
            simp only [Instr.index, asIntOf, Sem.run_bind, Sem.run_pure, Result.andThen_ok, run_und hd]
            simp [run_size hs, hk, h1]
        · simp at hf
      · simp at hf
    · simp at hf
  · simp at hf

theorem extract_sim {a c : AV} {av : Value} {i : Nat} (ha : VR G a av) (hf : extract a i = some c) : ∃ v, (Instr.extract av i).run P w = .ok v w ∧ VR G c v := by
  unfold extract at hf
  split at hf
  · rename_i cs
    cases ha with
    | tup hl hv =>
      rename_i vs
      have hi : i < cs.length := (List.getElem?_eq_some_iff.1 hf).1
      have hi' : i < vs.length := by omega
      exact ⟨vs[i], by simp [Instr.extract, hi'], hv i c _ hf (List.getElem?_eq_getElem hi')⟩
  · simp at hf

theorem intOp_sim {op : BinOp} {k : IntKind} {a b : Int} {c : AV} (hop : op ≠ .shl ∧ op ≠ .shr) (h : intOpA op k a b = some c) (xt : TypeId) : ∃ v, (binOp op xt (.int k a) (.int k b)).run P w = .ok v w ∧ VR G c v := by
  cases op <;> simp only [intOpA, Option.some.injEq, reduceCtorEq] at h <;> first
    | (subst h; exact ⟨_, by simp [binOp, Op.intArith, Op.intBits, Op.intCmp]; rfl, by constructor⟩)
    | (subst h; exact ⟨.int k (k.wrap (BitVec.ofInt k.bits a &&& ~~~ BitVec.ofInt k.bits b).toNat), by simp [binOp, Op.intBits], by constructor⟩)
    | (split at h
       · simp at h
       · rename_i hb
         simp only [Option.some.injEq] at h
         subst h
         exact ⟨_, by simp [binOp, Op.intDiv, hb]; rfl, by constructor⟩)
    | simp at hop

theorem strOp_sim {op : BinOp} {a b : ByteArray} {c : AV} (h : strOpA op a.data.toList b.data.toList = some c) (xt : TypeId) : ∃ v, (binOp op xt (.string a) (.string b)).run P w = .ok v w ∧ VR G c v := by
  have hlt : ∀ x y, bytesLt x y = Op.bytesLess x y := fun x => by
    induction x with
    | nil => intro y; cases y <;> rfl
    | cons p x ih => intro y; cases y with
      | nil => rfl
      | cons q y => simp [bytesLt, Op.bytesLess, ih]
  cases op <;> simp only [strOpA, Option.some.injEq, reduceCtorEq, hlt] at h <;> first
    | (subst h; exact ⟨.bool (a.data.toList == b.data.toList), by simp [binOp, Op.stringOp, ByteArray.toList_eq], by constructor⟩)
    | (subst h; exact ⟨.bool !(a.data.toList == b.data.toList), by simp [binOp, Op.stringOp, ByteArray.toList_eq], by constructor⟩)
    | (subst h; exact ⟨.bool (Op.bytesLess a.data.toList b.data.toList), by simp [binOp, Op.stringOp, ByteArray.toList_eq], by constructor⟩)
    | (subst h; exact ⟨.bool !(Op.bytesLess a.data.toList b.data.toList), by simp [binOp, Op.stringOp, ByteArray.toList_eq], by constructor⟩)
    | (subst h; exact ⟨.bool (Op.bytesLess a.data.toList b.data.toList || a.data.toList == b.data.toList), by simp [binOp, Op.stringOp, ByteArray.toList_eq], by constructor⟩)
    | (subst h; exact ⟨.bool !(Op.bytesLess a.data.toList b.data.toList || a.data.toList == b.data.toList), by simp [binOp, Op.stringOp, ByteArray.toList_eq], by constructor⟩)
    | (split at h
       · rename_i hb
         simp only [Option.some.injEq] at h
         subst h
         refine ⟨.string (a ++ b), ?_, .str _ _ ?_⟩
         · have hb' : ¬ ((a.size + b.size : Nat) : Int) > IntKind.i64.max := by
             have h1 : a.size + b.size ≤ 70368744177664 := by simpa [maxRoom] using hb
             have h2 : IntKind.i64.max = 9223372036854775807 := rfl
             rw [h2]; omega
           simp only [binOp, Op.stringOp, if_neg hb']
           rfl
         · simp
       · simp at h)

theorem eqIn_sim (dp : Nat) {x y : AV} {xv yv : Value} {r : Bool} {xt : TypeId} (hx : VR G x xv) (hy : VR G y yv) (h : eqA P xt x y = some r) : (Op.equalIn (dp + 1) xt xv yv).run P w = .ok r w := by
  unfold eqA at h
  split at h
  all_goals first
    | (rename_i hd
       split at h <;> simp only [Option.some.injEq, reduceCtorEq] at h <;> subst h <;> cases hx <;> cases hy <;> simp [Op.equalIn, run_und hd]
       done)
    | (rename_i e hd
       split at h <;> simp only [Option.some.injEq, reduceCtorEq] at h <;> subst h <;> cases hx <;> cases hy <;> simp [Op.equalIn, run_und hd]
       done)
    | (rename_i e1 e2 hd
       split at h <;> simp only [Option.some.injEq, reduceCtorEq] at h <;> subst h <;> cases hx <;> cases hy <;> simp [Op.equalIn, run_und hd]
       done)
    | (rename_i e1 e2 e3 hd
       split at h <;> simp only [Option.some.injEq, reduceCtorEq] at h <;> subst h <;> cases hx <;> cases hy <;> simp [Op.equalIn, run_und hd]
       done)
    | simp at h

theorem eq_sim {x y : AV} {xv yv : Value} {r : Bool} {xt : TypeId} (hx : VR G x xv) (hy : VR G y yv) (h : eqA P xt x y = some r) : (Op.equal xt xv yv).run P w = .ok r w := eqIn_sim 9999 hx hy h

theorem eqGuard_run {op : BinOp} {t : TypeId} {x y : Operand} {c d : AV} {cv dv : Value} (hc : VR G c cv) (hd : VR G d dv) (h : ∀ l m, c = .agg l → d = .agg m → False) : (eqGuard op t x y cv dv).run P w = .ok () w := by
  cases op <;> first | rfl | (cases hc <;> cases hd <;> first | rfl | exact (h _ _ rfl rfl).elim)

theorem ba_beq (a b : ByteArray) : (a == b) = (a.data.toList == b.data.toList) := by
  cases a with
  | mk x => cases b with
    | mk y =>
      show (x == y) = _
      rw [Bool.eq_iff_iff, beq_iff_eq, beq_iff_eq]
      exact ⟨fun h => by rw [h], fun h => Array.ext' h⟩

theorem eqCell_sim (dp : Nat) {x y : AV} {xv yv : Value} {r : Bool} {xt : TypeId} (hx : VR G x xv) (hy : VR G y yv) (h : eqCellA P xt x y = some r) : (Op.equalIn (dp + 1) xt xv yv).run P w = .ok r w := by
  unfold eqCellA at h
  split at h
  · split at h
    · rename_i hd
      split at h
      · rename_i hk
        simp only [Option.some.injEq] at h
        subst h hk
        cases hx; cases hy
        simp [Op.equalIn, run_und hd]
      · simp at h
    · simp at h
  · split at h
    · rename_i hd
      simp only [Option.some.injEq] at h
      subst h
      cases hx with
      | str a la ha => cases hy with
        | str b lb hb =>
          subst ha hb
          simp only [Op.equalIn, Sem.run_bind, run_und hd, Result.andThen_ok, Sem.run_pure, ba_beq]
    · simp at h
  · exact eqIn_sim dp hx hy h

theorem eqFields_sim {xs ys : List AV} {xv yv : List Value} (hx : VRs G xs xv) (hy : VRs G ys yv) (dp : Nat) : ∀ (fs : List Field) (r : Bool), eqFieldsA P xs ys fs = some r →
    Sem.run P (forIn fs (none, ()) fun (f : Field) (_ : Option Bool × Unit) =>
            if f.name = "_" then pure (ForInStep.yield (none, ()))
            else do
              let a ← part f.type xv.toArray f.offset
              let b ← part f.type yv.toArray f.offset
              let c ← Op.equalIn (dp + 1) f.type a b
              if c = false then pure (ForInStep.done (some false, ())) else pure (ForInStep.yield (none, ())))
          w = .ok (match r with | true => (none, ()) | false => (some false, ())) w
  | [], r, h => by
    simp only [eqFieldsA, Option.some.injEq] at h
    subst h
    rfl
  | f :: fs, r, h => by
    unfold eqFieldsA at h
    rw [List.forIn_cons]
    split at h
    · rename_i hn
      rw [if_pos (by simpa using hn)]
      simp only [Sem.run_bind, Sem.run_pure, Result.andThen_ok]
      exact eqFields_sim hx hy dp fs r h
    · rename_i hn
      rw [if_neg (by simpa using hn)]
      split at h
      · rename_i a b ha hb
        obtain ⟨av, ha1, ha2⟩ := run_part (P := P) (w := w) hx ha
        obtain ⟨bv, hb1, hb2⟩ := run_part (P := P) (w := w) hy hb
        split at h
        · rename_i he
          have := eqCell_sim (P := P) (w := w) dp ha2 hb2 he
          simp only [Sem.run_bind, ha1, hb1, this, Result.andThen_ok, Bool.true_eq_false, if_false, Sem.run_pure]
          exact eqFields_sim hx hy dp fs r h
        · rename_i he
          have := eqCell_sim (P := P) (w := w) dp ha2 hb2 he
          simp only [Option.some.injEq] at h
          subst h
          simp only [Sem.run_bind, ha1, hb1, this, Result.andThen_ok, if_true, Sem.run_pure]
        · simp at h
      · simp at h

theorem equalIn_struct (d : Nat) {t : TypeId} {fields : Array Field} {xs ys : Array Value} (hd : P.underlying t = some (.struct fields)) (hs : P.stoodInHeld t = false) :
    (Op.equalIn (d + 1) t (.agg xs) (.agg ys)).run P w = (Sem.run P (forIn fields.toList (none, ()) fun (f : Field) (_ : Option Bool × Unit) =>
            if f.name = "_" then pure (ForInStep.yield (none, ()))
            else do
              let a ← part f.type xs f.offset
              let b ← part f.type ys f.offset
              let c ← Op.equalIn d f.type a b
              if c = false then pure (ForInStep.done (some false, ())) else pure (ForInStep.yield (none, ())))
          w).andThen fun a w' => Sem.run P (match a.1 with | some r => pure r | none => pure true) w' := by
  simp [Op.equalIn, run_und hd, hs]
  congr 1
  funext a w'
  rcases a with ⟨_ | _, _⟩ <;> rfl

theorem eqAnyIn_sim (dp : Nat) {x y : AV} {xv yv : Value} {r : Bool} {xt : TypeId} (hx : VR G x xv) (hy : VR G y yv) (h : eqAnyA P xt x y = some r) : (Op.equalIn (dp + 2) xt xv yv).run P w = .ok r w := by
  unfold eqAnyA at h
  split at h
  · unfold eqAggA at h
    split at h
    · rename_i fields hd
      split at h
      · simp at h
      · rename_i hg
        simp only [Bool.or_eq_false_iff] at hg
        cases hx with
        | agg hxl hxv => cases hy with
          | agg hyl hyv =>
            have := eqFields_sim (P := P) (w := w) ⟨hxl, hxv⟩ ⟨hyl, hyv⟩ dp fields.toList r h
            rw [equalIn_struct (dp + 1) hd hg.1, this]
            cases r <;> rfl
    · simp at h
  · exact eqIn_sim (dp + 1) hx hy h

theorem eqAny_sim {x y : AV} {xv yv : Value} {r : Bool} {xt : TypeId} (hx : VR G x xv) (hy : VR G y yv) (h : eqAnyA P xt x y = some r) : (Op.equal xt xv yv).run P w = .ok r w := eqAnyIn_sim 9998 hx hy h

theorem eqGuard_agg {op : BinOp} {t : TypeId} {x y : Operand} {xs ys : List AV} {xv yv : Value} (hx : VR G (.agg xs) xv) (hy : VR G (.agg ys) yv) {r : Bool} (h : eqAggA P t xs ys = some r) : (eqGuard op t x y xv yv).run P w = .ok () w := by
  unfold eqAggA at h
  split at h
  · split at h
    · simp at h
    · rename_i hg
      simp only [Bool.or_eq_false_iff] at hg
      cases hx; cases hy
      cases op <;> first | rfl | simp [eqGuard, hg.2]
  · simp at h

theorem others_sim {op : BinOp} {xt : TypeId} {ox oy : Operand} {x y c : AV} {xv yv : Value} (hx : VR G x xv) (hy : VR G y yv) (hn1 : ∀ k a k' b, x = .int k a → y = .int k' b → False)
    (hn2 : ∀ a b, x = .str a → y = .str b → False) (hn3 : ∀ k a, x = .sx k a → False) (hn4 : ∀ k a k' b, x = .int k a → y = .sx k' b → False) (h : othersA P op xt x y = some c) :
    ∃ v, (do eqGuard op xt ox oy xv yv; binOp op xt xv yv : Sem Value).run P w = .ok v w ∧ VR G c v := by
  unfold othersA at h
  have hcase : ∃ r, eqAnyA P xt x y = some r ∧ ((op = .eql ∧ c = .bool r) ∨ (op = .neq ∧ c = .bool !r)) := by
    split at h
    · split at h
      · rename_i r hr; simp only [Option.some.injEq] at h; exact ⟨r, hr, .inl ⟨rfl, h.symm⟩⟩
      · simp at h
    · split at h
      · rename_i r hr; simp only [Option.some.injEq] at h; exact ⟨r, hr, .inr ⟨rfl, h.symm⟩⟩
      · simp at h
    · simp at h
  obtain ⟨r, hr, hop⟩ := hcase
  have hg : (eqGuard op xt ox oy xv yv).run P w = .ok () w := by
    have hr' := hr
    unfold eqAnyA at hr'
    split at hr'
    · exact eqGuard_agg hx hy hr'
    · rename_i hno
      exact eqGuard_run hx hy hno
  have he := eqAny_sim (P := P) (w := w) hx hy hr
  simp only [Sem.run_bind, hg, Result.andThen_ok]
  rcases hop with ⟨rfl, rfl⟩ | ⟨rfl, rfl⟩
  · refine ⟨.bool r, ?_, .bool r⟩
    have : binOp .eql xt xv yv = (do pure (.bool (← Op.equal xt xv yv)) : Sem Value) := by
      cases hx <;> cases hy <;> first | rfl | exact (hn1 _ _ _ _ rfl rfl).elim | exact (hn2 _ _ rfl rfl).elim | exact (hn3 _ _ rfl).elim | exact (hn4 _ _ _ _ rfl rfl).elim
    rw [this]
    simp [he]
  · refine ⟨.bool !r, ?_, .bool _⟩
    have : binOp .neq xt xv yv = (do pure (.bool (!(← Op.equal xt xv yv))) : Sem Value) := by
      cases hx <;> cases hy <;> first | rfl | exact (hn1 _ _ _ _ rfl rfl).elim | exact (hn2 _ _ rfl rfl).elim | exact (hn3 _ _ rfl).elim | exact (hn4 _ _ _ _ rfl rfl).elim
    rw [this]
    simp [he]

theorem sym_of {x : AV} {k : IntKind} {e : Sx} {xv : Value} (hx : VR G x xv) (h : symOf x = some (k, e)) : xv = .int k (e.eval G.ρ) := by
  unfold symOf at h
  split at h
  · simp only [Option.some.injEq, Prod.mk.injEq] at h
    obtain ⟨rfl, rfl⟩ := h
    cases hx; rfl
  · simp only [Option.some.injEq, Prod.mk.injEq] at h
    obtain ⟨rfl, rfl⟩ := h
    cases hx; rfl
  · simp at h

theorem intVal_some {op : BinOp} {k : IntKind} {a b n : Int} (h : intOpA op k a b = some (.int k n)) : intVal op k a b = n := by simp [intVal, h]

theorem symBin_sim {D : BinOp → Sx → Sx → Option Bool} (hD : DecOk D G.ρ) {op : BinOp} {k : IntKind} {a b : Sx} {c : AV} (h : symBinA D op k a b = some c) (xt : TypeId) :
    ∃ v, (binOp op xt (.int k (a.eval G.ρ)) (.int k (b.eval G.ρ))).run P w = .ok v w ∧ VR G c v := by
  have key : ∀ (op : BinOp) (n : Int), (op ≠ .shl ∧ op ≠ .shr) → intOpA op k (a.eval G.ρ) (b.eval G.ρ) = some (.int k n) → c = .sx k (.bin op k a b) →
      ∃ v, (binOp op xt (.int k (a.eval G.ρ)) (.int k (b.eval G.ρ))).run P w = .ok v w ∧ VR G c v := fun op n hop hi hc => by
    obtain ⟨v, h1, h2⟩ := intOp_sim (P := P) (w := w) (G := G) hop hi xt
    cases h2
    refine ⟨_, h1, ?_⟩
    subst hc
    have : VR G (.sx k (.bin op k a b)) (.int k ((Sx.bin op k a b).eval G.ρ)) := .sx _ _
    simp only [Sx.eval, intVal_some hi] at this
    exact this
  have hz : D .eql b (.lit 0) = some false → b.eval G.ρ ≠ 0 := fun hd => by
    have := hD _ k _ _ _ hd
    simp [intOpA, Sx.eval] at this
    exact this
  cases op <;> simp only [symBinA, Option.some.injEq, reduceCtorEq] at h <;> first
    | exact key _ _ (by simp) rfl h.symm
    | (split at h
       · rename_i hd
         simp only [Option.some.injEq] at h
         first
           | exact key .quo (k.wrap ((a.eval G.ρ).tdiv (b.eval G.ρ))) (by simp) (by simp only [intOpA, if_neg (hz hd)]) h.symm
           | exact key .rem ((a.eval G.ρ).tmod (b.eval G.ρ)) (by simp) (by simp only [intOpA, if_neg (hz hd)]) h.symm
       · simp at h)
    | (split at h
       · rename_i r hd
         simp only [Option.some.injEq] at h
         subst h
         exact intOp_sim (P := P) (w := w) (G := G) (by simp) (hD _ k _ _ _ hd) xt
       · simp at h)

theorem syms_sim {D : BinOp → Sx → Sx → Option Bool} (hD : DecOk D G.ρ) {op : BinOp} {xt : TypeId} {ox oy : Operand} {x y c : AV} {xv yv : Value} (hx : VR G x xv) (hy : VR G y yv) (hna : ∀ l m, x = .agg l → y = .agg m → False) (h : symsA D op x y = some c) :
    ∃ v, (do eqGuard op xt ox oy xv yv; binOp op xt xv yv : Sem Value).run P w = .ok v w ∧ VR G c v := by
  have hg := eqGuard_run (P := P) (w := w) (op := op) (t := xt) (x := ox) (y := oy) hx hy hna
  simp only [Sem.run_bind, hg, Result.andThen_ok]
  unfold symsA at h
  split at h
  · rename_i k a k' b hx' hy'
    have e1 := sym_of hx hx'
    have e2 := sym_of hy hy'
    subst e1 e2
    split at h
    · rename_i hk
      subst hk
      exact symBin_sim hD h xt
    · simp at h
  · simp at h

theorem bin_sim {D : BinOp → Sx → Sx → Option Bool} (hD : DecOk D G.ρ) {op : BinOp} {xt : TypeId} {ox oy : Operand} {x y c : AV} {xv yv : Value} (hx : VR G x xv) (hy : VR G y yv) (h : binA P D op xt x y = some c) :
    ∃ v, (do eqGuard op xt ox oy xv yv; binOp op xt xv yv : Sem Value).run P w = .ok v w ∧ VR G c v := by
  unfold binA at h
  split at h
  · rename_i k a k' b
    have hg := eqGuard_run (P := P) (w := w) (op := op) (t := xt) (x := ox) (y := oy) hx hy (by simp)
    simp only [Sem.run_bind, hg, Result.andThen_ok]
    cases hx; cases hy
    unfold intsA at h
    split at h
    · unfold shiftA at h
      split at h
      · simp only [Option.some.injEq] at h
        subst h
        refine ⟨_, ?_, .int _ _⟩
        simp only [binOp, Op.shift]
        rw [if_neg (by simp)]
        rfl
      · simp at h
    · unfold shiftA at h
      split at h
      · simp only [Option.some.injEq] at h
        subst h
        refine ⟨_, ?_, .int _ _⟩
        simp only [binOp, Op.shift]
        rw [if_neg (by simp)]
        rfl
      · simp at h
    · rename_i h1 h2
      split at h
      · rename_i hk
        subst hk
        exact intOp_sim ⟨h1, h2⟩ h xt
      · simp at h
  · rename_i a b
    have hg := eqGuard_run (P := P) (w := w) (op := op) (t := xt) (x := ox) (y := oy) hx hy (by simp)
    simp only [Sem.run_bind, hg, Result.andThen_ok]
    cases hx with
    | str sa _ ha =>
      cases hy with
      | str sb _ hb =>
        subst ha hb
        exact strOp_sim h xt
  · exact syms_sim hD hx hy (by simp) h
  · exact syms_sim hD hx hy (by simp) h
  · exact others_sim hx hy (by assumption) (by assumption) (by assumption) (by assumption) h

theorem un_sim {op : UnOp} {x c : AV} {xv : Value} (hx : VR G x xv) (h : unA op x = some c) : ∃ v, (Op.unary op xv).run P w = .ok v w ∧ VR G c v := by
  unfold unA at h
  split at h
  · cases hx
    simp only [Option.some.injEq] at h
    subst h
    refine ⟨_, rfl, ?_⟩
    exact .sx _ _
  · cases hx
    simp only [Option.some.injEq] at h
    subst h
    refine ⟨_, rfl, ?_⟩
    exact .sx _ _
  · cases hx
    simp only [intOpA, Option.some.injEq] at h
    subst h
    exact ⟨_, rfl, .int _ _⟩
  · cases hx
    simp only [intOpA, Option.some.injEq] at h
    subst h
    exact ⟨_, rfl, .int _ _⟩
  · cases hx
    simp only [Option.some.injEq] at h
    subst h
    exact ⟨_, rfl, .bool _⟩
  · simp at h
end
end Go.Ab
