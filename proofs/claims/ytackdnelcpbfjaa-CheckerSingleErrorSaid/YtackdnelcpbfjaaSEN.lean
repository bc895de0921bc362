/- Parts: Mu1, Mu2, AbArg, Seeds. -/
import Derived.Deep.Slices
import Derived.Test.YtackdnelcpbfjaaSEM
import Derived.WideKeyArgs
import Derived.WideShapes
set_option linter.unusedSimpArgs false
set_option linter.unusedVariables false
set_option linter.unusedSectionVars false
set_option linter.defProp false
namespace Go.Proofs.Ytackdnelcpbfjaa
set_option maxRecDepth 20000
set_option linter.unusedSimpArgs false
set_option linter.unusedVariables false
set_option linter.unusedSectionVars false
set_option linter.defProp false
set_option maxRecDepth 20000
open Go Go.Ab
namespace tyMu1
end tyMu1
open tyMu1
theorem RowsW.exs {S : Nat → Prop} {n : Nat} {H : Hp} : ∀ l : List Ex, RowsW S (n + 1) H 5 (l.map Ex.cells) (l.map Ex.cells)
  | [] => trivial
  | a :: l => ⟨⟨a.clen, CellsW.ex a⟩, RowsW.exs l⟩
/-- Cells in memory asx a value without addresses. -/
theorem CellsW.made {S : Nat → Prop} {n : Nat} {H : Hp} {cs ws : List AV} (h : CellsW S n H cs ws) (hn : n ≤ 58) : ∃ m u, iceV H m (.agg cs) = some u ∧ wkN 60 u = .agg ws := by
  obtain ⟨us, h1, h2⟩ := h
  have h3 : Ic S 100 H (.agg cs) (.agg us) := Ic.up (n := n + 1) ⟨us, h1, rfl⟩ (by omega)
  obtain ⟨m0, hm⟩ := Ic.iceV h3
  refine ⟨m0, .agg us, hm m0 (Nat.le_refl _), ?_⟩
  show AV.agg (us.map (wkN 59)) = _
  rw [h2 59 (by omega)]
structure MuA where
  x : Ex
  how : Int
  a : Int
theorem aggE5 (a b c d e : AV) : aggA 5 [a, b, c, d, e] = some (.agg [a, b, c, d, e]) := rfl
end Go.Proofs.Ytackdnelcpbfjaa
namespace Go.Proofs.Ytackdnelcpbfjaa
set_option maxRecDepth 20000
set_option linter.unusedSimpArgs false
set_option linter.unusedVariables false
set_option linter.unusedSectionVars false
set_option linter.defProp false
set_option maxRecDepth 20000
open Go Go.Ab
namespace tyMu2
end tyMu2
open tyMu2
theorem RowsW.sts {S : Nat → Prop} {n : Nat} {H : Hp} : ∀ l : List St, RowsW S (n + 1) H 17 (l.map St.cells) (l.map St.cells)
  | [] => trivial
  | a :: l => ⟨⟨a.clen, CellsW.st a⟩, RowsW.sts l⟩
structure MuB where
  x : St
  how : Int
  a : Int
theorem bTr : buildA Try.prog 46 [(0, .int .i64 7)] = some (.agg [.int .i64 7, .str [], .str [], .int .i64 0, .int .i64 0, .int .i64 0, .str [], .int .i64 0, .nilS, .int .i64 0, .int .i64 0, .str [], .int .i64 0, .nilS, .nilS, .nilS, .nilS]) := by kernel_rfl
theorem bsT17 (H : Hp) (c0 c1 c2 c3 c4 c5 c6 c7 c8 c9 d0 d1 d2 d3 d4 d5 d6 : AV) : buildSliceA Try.prog H 36 1 [(0, .agg [c0, c1, c2, c3, c4, c5, c6, c7, c8, c9, d0, d1, d2, d3, d4, d5, d6])] = some (.sl H.next 0 1 17, H.alloc (.cells [c0, c1, c2, c3, c4, c5, c6, c7, c8, c9, d0, d1, d2, d3, d4, d5, d6] 0 true)) := by kernel_rfl
end Go.Proofs.Ytackdnelcpbfjaa
namespace Go.Ab
set_option maxRecDepth 20000
set_option linter.unusedVariables false
set_option linter.unusedSectionVars false
open Go Go.WideShapes Go.Deep Go.RowKit Go.ChangeShapes
/-- All that lies in memory, asx it is. -/
def memF (W : World) : Nat → Nat → Option Value := fun b o => W.cell? ⟨b, o, none⟩
theorem memF_ok (W : World) : ∀ b o v, memF W b o = some v → W.cell? ⟨b, o, none⟩ = some v := fun _ _ _ h => h
section
variable {H : Type} {enc : TypeId × Value → H} {P : Program} {W : World}
/-- A row of numbers. -/
theorem arg_ints {r : Reach} {b0 : Nat} {t e : TypeId} {k : IntKind} {v : Value} {d : DataW H} {ps : List MemPlace} {sp : Nat → Bool} {held : Bool} (ht : P.underlying t = some (.slice e)) (he : P.underlying e = some (.int k)) (hc : P.cellsOf e = 1) (hval : Value.okWide P W r b0 t v) (hd : DataW.Trod enc P W 0 sp held t v d ps) (β : Nat → Option (Nat × Nat × Nat)) (ρ : Nat → Int) :
    ∃ l : List Int, VR ⟨β, memF W, ρ⟩ (.lst (l.map fun n => [AV.int k n])) v ∧ l.length ≤ maxLen := by
  obtain ⟨a0, len0, cap0, rfl⟩ := okWide_slice ht hval
  obtain ⟨fuel, hf⟩ := hd
  rcases open_slice1 ht hc hf with ⟨h, _⟩ | ⟨a, len, cap, m, n, V, D, Pl, h, hb, hl, hm, hmm, hx, hV⟩
  · simp [Value.cells] at h
    obtain ⟨rfl, rfl, rfl⟩ := h
    exact ⟨[], .lst0 _ _, Nat.zero_le _⟩
  · simp [Value.cells] at h
    obtain ⟨rfl, rfl, rfl⟩ := h
    have hlm : len0 ≤ m := by rw [hmm]; split <;> omega
    have hint : ∀ i, ∃ n : Int, i < len0 → V i = .int k n := fun i => by
      by_cases hi : i < len0
      · obtain ⟨n', h1, _⟩ := DataW.trod_int he (hV i (by omega)).2
        simp at h1
        exact ⟨n', fun _ => h1⟩
      · exact ⟨0, fun h => absurd h hi⟩
    obtain ⟨N, hN⟩ := Classical.axiomOfChoice hint
    refine ⟨(List.range len0).map N, ?_, by simp; omega⟩
    by_cases h0 : len0 = 0
    · subst h0; exact .lst0 _ _
    obtain ⟨ab, ao, asp⟩ := a
    have hspot : asp = none := by
      have := (hV 0 (by omega)).1
      simp only [Addr.add, if_true, World.cell?] at this
      split at this
      · split at this
        · cases this
        · rename_i hn
          cases asp with
          | none => rfl
          | some s => simp at hn
      · cases this
    subst hspot
    have hlen : (((List.range len0).map N).map fun n => [AV.int k n]).length = len0 := by simp
    have key := VR.lst (G := ⟨β, memF W, ρ⟩) (xs := ((List.range len0).map N).map fun n => [AV.int k n]) (b := ab) (o := ao) (cap := cap0) (z := 1) (fun i _ => V i) ?_ ?_ ?_ (by rw [hlen]; omega)
    · rw [hlen] at key; exact key
    · intro i row hr
      rw [List.getElem?_map] at hr
      cases hq : ((List.range len0).map N)[i]? with
      | none => rw [hq] at hr; simp at hr
      | some q => rw [hq] at hr; simp only [Option.map_some, Option.some.injEq] at hr; rw [← hr]; rfl
    · intro i j hi hj
      rw [hlen] at hi
      have h2 := (hV i (by omega)).1
      show W.cell? ⟨ab, ao + i * 1 + j, none⟩ = some (V i)
      have hj0 : j = 0 := by omega
      subst hj0
      rw [← h2]
      congr 1
      unfold Addr.add
      split
      · rename_i h; subst h; rfl
      · simp
    · intro i j row c hr hcj
      rw [List.getElem?_map, List.getElem?_map] at hr
      by_cases hi : i < len0
      · rw [List.getElem?_range hi] at hr
        simp only [Option.map_some, Option.some.injEq] at hr
        subst hr
        cases j with
        | zero =>
          simp only [List.getElem?_cons_zero, Option.some.injEq] at hcj
          subst hcj
          show VR _ _ (V i)
          rw [hN i hi]
          exact .int k _
        | succ j => simp at hcj
      · rw [List.getElem?_eq_none (by simp; omega)] at hr
        simp at hr
/-- What was read is read again. -/
theorem arg_stays {t : TypeId} (hl : laidOutB P = true) (hr : P.readableRec t = true) (hrow : t < P.types.size) {W' : World} {v : Value} {d : DataW H} {ps before : List MemPlace}
    (h : DataW.Trod enc P W 0 (fun _ => true) true t v d ps) (hb : Below W.heap.size W W') (hlt : ∀ p ∈ before, p.block < W.heap.size) (hps : ∀ p ∈ ps, p ∈ before) {sp : Nat → Bool} (hsp : ∀ p ∈ before, sp p.block = true) :
    DataW.Trod enc P W' 0 sp true t v d ps :=
  WideElems.Trod_stays hl hr hrow h (fun x hx => hb.same (hlt x (hps x hx))) fun x hx => hsp x (hps x hx)
end
end Go.Ab
namespace Go.Proofs.Ytackdnelcpbfjaa
set_option maxRecDepth 20000
set_option linter.unusedSimpArgs false
set_option linter.unusedVariables false
set_option linter.unusedSectionVars false
set_option linter.defProp false
open Go Go.Ab
def intRows (l : List Int) : AV := .lst (l.map fun n => [.int .i64 n])
theorem intRows_pure (l : List Int) : PureA (intRows l) := .map fun n _ => .cons (.int _ _) .nil
theorem maxLen_lt {n : Nat} (h : n ≤ maxLen) : n < 2 ^ 63 := Nat.lt_of_le_of_lt h (by decide)
theorem cells_int : Try.prog.cellsOf 3 = 1 := by kernel_rfl
set_option maxRecDepth 100000 in
/-- A slice of numbers, an argument of a law. -/
theorem seeds_arg {H : Type} {enc : TypeId × Value → H} {W : World} {v0 : Value} {r : Reach} {b0 : Nat} (k0 : Value.okWide Try.prog W r b0 26 v0) {d : DataW H} {ps : List MemPlace} {sp : Nat → Bool} {held : Bool} (h0 : DataW.Trod enc Try.prog W 0 sp held 26 v0 d ps) : ∃ l : List Int, VR ⟨fun _ => none, memF W, fun _ => 0⟩ (intRows l) v0 ∧ l.length < 2 ^ 63 := by
  obtain ⟨l, hv, hl⟩ := arg_ints Try.underlying26 Try.underlying3 cells_int k0 h0 (fun _ => none) (fun _ => 0)
  exact ⟨l, hv, maxLen_lt hl⟩
end Go.Proofs.Ytackdnelcpbfjaa
