/-
  The Go function fullinglaw6.InterpLaziness returns true whatever its three arguments are, and leaves all memory that was there as it was. Conditions: none.
-/
import Derived.Test.YtlanljjbcpepjaaRows
import Derived.Test.YtlanljjbcpepjaaAbSym
import Derived.Test.YtlanljjbcpepjaaKnLaz
import Derived.Test.YtlanljjbcpepjaaKnEx
import Derived.WalkKit
import Derived.ProofKit
import Derived.OpenShut
namespace Go.Proofs.Ytlanljjbcpepjaa.interpLaziness
open Go Go.Ab Go.ChangeShapes Go.WideShapes Go.ChangeAt Go.RowKit
set_option linter.unusedVariables false
set_option linter.unusedSimpArgs false

theorem own : ownKnob Try.prog.godebug = none := by kernel_rfl

/-! ### THE RUN, with two unknown numbers: the first is nothing, or something -/
def known : List (FuncId × List AV × AV) := knEx.list ++ knLaz.list
theorem known_ok (ρ : Nat → Int) : KOk Try.prog ρ known := KOk.append (knEx.ok ρ) (knLaz.ok ρ)
def isZ (z : Bool) : List Fact := [⟨.neq, .var 0, .lit 0, !z⟩]
def args (b : Bool) : List AV := [.sx .i64 (.var 0), .sx .i64 (.var 1), .bool b]
theorem run_tt : Res.isTrue (ev Try.prog (cfgF (isZ true) pls known) 100000 (.call 10 (args true) H0)) = true := by kernel_rfl
theorem run_tf : Res.isTrue (ev Try.prog (cfgF (isZ true) pls known) 100000 (.call 10 (args false) H0)) = true := by kernel_rfl
theorem run_ft : Res.isTrue (ev Try.prog (cfgF (isZ false) pls known) 100000 (.call 10 (args true) H0)) = true := by kernel_rfl
theorem run_ff : Res.isTrue (ev Try.prog (cfgF (isZ false) pls known) 100000 (.call 10 (args false) H0)) = true := by kernel_rfl

def rho (c x : Int) : Nat → Int
  | 0 => c
  | _ => x

theorem con (c x : Int) (b : Bool) : Con Try.prog (rho c x) 10 (args b) (.bool true) := by
  have hz : FactsOk (rho c x) (isZ (decide (c = 0))) := factsOk_cons (by simp [relI, Sx.eval, rho, bne]; by_cases h : c = 0 <;> simp [h]) (factsOk_nil _)
  by_cases h : c = 0
  · rw [decide_eq_true h] at hz
    cases b
    · exact Con.symb fit (known_ok _) hz (k := 2) (by kernel_rfl) run_tf
    · exact Con.symb fit (known_ok _) hz (k := 2) (by kernel_rfl) run_tt
  · rw [decide_eq_false h] at hz
    cases b
    · exact Con.symb fit (known_ok _) hz (k := 2) (by kernel_rfl) run_ff
    · exact Con.symb fit (known_ok _) hz (k := 2) (by kernel_rfl) run_ft

/-! ### THE WALK -/
theorem walk (a0 : Int) (a1 : Int) (a2 : Bool) (w0 : (Lit.int .i64 a0).wf = true) (w1 : (Lit.int .i64 a1).wf = true) (w : World) :
    Calls Try.prog 10 #[.int .i64 a0, .int .i64 a1, .bool a2] w fun e w' => e = .returned (.bool true) ∧ Below w.heap.size w w' :=
  Con.walk (ρ := rho a0 a1) (F := fun _ _ => none) (con a0 a1 a2) (fun _ _ _ h => by simp at h) (VRs.cons (.sx .i64 (.var 0)) (VRs.cons (.sx .i64 (.var 1)) (VRs.cons (.bool a2) (VRs.nil _))))

/-! ### THE ROW's STEP: WRITTEN OUT: LEAVE IT -/
set_option maxRecDepth 100000 in
theorem lifted (os : Os) (started : os.Started) (H : Type) (enc : TypeId × Value → H) :
    ReturnsInHanded {} Try.checked os 10 .any (Rows.interpLazinessSpec.pre6 enc Try.prog Try.f10 Rows.interpLazinessRow.domain false) (Rows.interpLazinessSpec.post enc Try.prog Try.f10 false true false false) := by
  refine returnsInHanded_of_change (C := Try.checked) own started (by kernel_rfl) Try.func10
    (ChangeSpec.witness6 (enc := enc) (C := Try.checked) false ⟨#[], #[.int .i64 0, .int .i64 0, .bool false], []⟩ 8 (by kernel_rfl) (by kernel_rfl) (by kernel_rfl) (by kernel_rfl)) ?_
  intro W base args ds gs before hval0 hW hcnd _
  have hval : ∀ (j : Nat) t v, Try.f10.params[j]? = some t → args[j]? = some v → Value.okWide Try.prog W .any base t v := hval0
  have hW' := hW
  obtain ⟨p, q, hA0, hV, rfl, hfz, hnd⟩ := hW
  have hA : DataW.TrodAll enc Try.prog W 0 (fun _ => true) true Try.f10.params.toList args.toList ds p := hA0
  rw [Try.params10] at hA hval
  obtain ⟨v0, vs0, d0, ds0, p0, q0, hargs, rfl, rfl, h0, r0⟩ := trodAll_cons hA
  obtain ⟨v1, vs1, d1, ds1, p1, q1, rfl, rfl, rfl, h1, r1⟩ := trodAll_cons r0
  obtain ⟨v2, vs2, d2, ds2, p2, q2, rfl, rfl, rfl, h2, r2⟩ := trodAll_cons r1
  obtain ⟨rfl, rfl, rfl⟩ := trodAll_nil r2
  obtain rfl : args = #[v0, v1, v2] := by cases args; simp_all
  obtain ⟨rfl, rfl⟩ := trodVars_none hV
  obtain ⟨a0, rfl, rfl, rfl, w0⟩ := open_int Try.underlying2 (hval 0 2 v0 rfl rfl) h0
  obtain ⟨a1, rfl, rfl, rfl, w1⟩ := open_int Try.underlying2 (hval 1 2 v1 rfl rfl) h1
  obtain ⟨a2, rfl, rfl, rfl⟩ := open_bool Try.underlying4 (hval 2 4 v2 rfl rfl) h2
  clear hA0 hval0
  simp only [List.append_nil] at hW'
  refine (walk a0 a1 a2 w0 w1 W).mono fun e W' ⟨he, hg⟩ => ?_
  subst he
  exact ⟨_, rfl, post_of_below (pa := []) (pv := []) hW' (fun _ _ _ => (trodAll_cons_mk (shut_bool Try.underlying4 _) trodAll_mk0)) (fun sp _ => (trodAll_cons_mk (shut_int Try.underlying2 w0) (trodAll_cons_mk (shut_int Try.underlying2 w1) (trodAll_cons_mk (shut_bool Try.underlying4 _) trodAll_mk0)))) (fun _ _ => rfl) rfl
    hg (ok_one (by kernel_rfl) rfl (okWide_bool_mk Try.underlying4 _))⟩

theorem over : Rows.interpLazinessRow.holds Try.pinned (OpenSpec.ofChange Rows.interpLazinessSpec) :=
  OpenClaim.holds_of_wide 10 Try.f10 rfl rfl rfl rfl rfl rfl rfl ⟨rfl, rfl, rfl, rfl, rfl⟩ rfl rfl rfl rfl rfl (by kernel_rfl) Try.func10 (by kernel_rfl)
    (of_decide_eq_true (by kernel_rfl)) (by unfold Func.isWrapper; first | (rw [if_pos (by decide +kernel)]; kernel_rfl) | (rw [if_neg (by decide +kernel)]; exact ⟨rfl, rfl⟩))
    (fun os started H enc _ => lifted os started H enc)

/-- ████ THE STATEMENT ████ -/
theorem proved : Rows.InterpLazinessSaid :=
  over
#print axioms proved

end Go.Proofs.Ytlanljjbcpepjaa.interpLaziness
