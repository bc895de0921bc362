/- Picks. -/
import Derived.Test.YtlanljjbcpepjaaW6h
namespace Go.Proofs.Ytlanljjbcpepjaa
set_option linter.unusedSimpArgs false
set_option linter.unusedVariables false
set_option linter.unusedSectionVars false
set_option linter.defProp false
open Go Go.Ab
namespace tyPick
def tyF := And.intro @sz3 (And.intro @pt3 (And.intro @bt3 (And.intro @zr3 (@bin_rem))))
end tyPick
open tyPick

noncomputable def code19 : { c : SC // slim 14 (Try.f19.body.getD .skip) = c } := by
  refine ⟨?_, ?_⟩
  rotate_left
  · simp only [Try.f19, Option.getD_some, slim, slimR, slimL, slimD, slimG, Nat.blt, Nat.ble]
    rfl

def pickI (n m : Int) : Int := if n.tmod m < 0 then w64 (n.tmod m + m) else n.tmod m

theorem pickI_range {n m : Int} (h : 0 < m) (h2 : m < 2 ^ 62) : 0 ≤ pickI n m ∧ pickI n m < m := by
  unfold pickI
  have h3 := Int.tmod_lt_of_pos n h
  have h4 : -m < n.tmod m := by
    have := Int.tmod_lt_of_pos (-n) h
    rw [Int.neg_tmod] at this
    omega
  split
  · unfold w64
    rw [IntWalk.i64_in _ (by omega)]; omega
  · omega

theorem pick_wp {cfg : Cfg} (hS : Std cfg) (n m : Int) (hm : m ≠ 0) (H : Hp) : WpCall Try.prog cfg 19 [.int .i64 n, .int .i64 m] H fun v H' => v = .int .i64 (pickI n m) ∧ H' = H := by
  refine WpCall.slim (M := 14) (rs := [.tmp 4]) ((hS.plain _ rfl).call _) (hS.plain _ rfl).ice (hS.plain _ rfl).froz Try.func19 rfl rfl code19.2 rfl ?_; dsimp only [code19, envOf, Nat.reduceAdd]
  repeat' (first
     | (refine WpL.nil (hK _ _ ?_); clear hK K; try dsimp only [thenQ, blockQ]) | refine Rx.move (hk := ?_) | refine Rx.assign (hk := ?_) | refine Rx.bin (hk := ?_) | (refine Rx.cond (h1 := fun hb => ?_) (h2 := fun hb => ?_) <;> (try simp only [Bool.not_true, Bool.not_false, reduceCtorEq] at hb) <;> (try (cases hb; done)) <;> (try have hbp := hb) <;> (try simp only [decide_eq_true_eq, decide_eq_false_iff_not] at hbp)) | refine Wp.seq ?_ | (refine Wp.ops' fun K hK => ?_) | refine Wp.block ?_ | (refine Wp.skip ?_; try dsimp only [thenQ, blockQ]) | (refine Wp.ret ?_; try dsimp only [thenQ, blockQ]) | (refine Wp.exit ?_; try simp only [thenQ, blockQ, reduceIte]))
  all_goals (refine ⟨by first | exact .inl rfl | exact .inr rfl | exact .inl trivial | exact .inr trivial, _, (by (try simp only [sB, Nat.reduceBEq, resultsA, resultA, *]); first | done | with_reducible rfl), ?_⟩; try simp only [oneOr])
  all_goals (simp_all [pickI]; try omega)

theorem pure_ints (l : List Int) : pureArgs 1 (l.map fun n => .int .i64 n) = true := by
  have h : ∀ l : List Int, iceL (iceV H0 1) (l.map fun n => .int .i64 n) = some (l.map fun n => .int .i64 n) := fun l => by
    induction l with
    | nil => rfl
    | cons a l ih => simp only [List.map_cons, iceL, ih]; rfl
  unfold pureArgs
  rw [h]
  exact AV.beqs_refl _
theorem ice_bool (H : Hp) (b : Bool) : iceV H 1 (.bool b) = some (.bool b) := rfl
end Go.Proofs.Ytlanljjbcpepjaa
