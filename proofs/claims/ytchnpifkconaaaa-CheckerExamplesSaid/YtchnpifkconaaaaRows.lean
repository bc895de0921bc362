/-
  NARROWER THAN 'FOR EVERY INPUT', by the rows' own cells (each row's printed sentence says how): CheckerReference: loops.
  DERIVED. THE GIVEN ROWS OF THIS SEAT. 5 by the template 'for every input the law returns true; each argument reads behind the call as it read before'; 0 by the template 'total and deterministic' (their statements: YtchnpifkconaaaaTotals.lean).
  GIVEN WITH THE SEED: the statements are not yours to turn. If you find one false, say at which input.
  Laid BY PROGRAM, IN A SANDBOX (cutbox-rows.mjs): the forced cells as the released guide's own fill.sh prints them over the translation 6b984447168f457f… (all of the seat's roots in one cut). By AI agents, Wed Nov 11 2026. No macro, syntax, notation, axiom, sorry.
-/
import Derived.Test.YtchnpifkconaaaaChecked
import GoSem.Claim
import GoSem.ClaimJoined
import GoSem.ClaimMapViews
import Derived.JoinedTies
import Derived.KernelRfl
namespace Go.Proofs.Ytchnpifkconaaaa
/- THE CELL 'sum', in the pinned program and in every row, IS THE sha256 OF THE DUMP (.gsa) THAT YtchnpifkconaaaaProg.lean LOADS. Nothing in Lean hashes anything: it is a label: what it is worth is what the hold of that sum in a sandbox is worth. -/
noncomputable def Try.pinned : Pinned := { name := "ytchnpifkconaaaa", sum := "6b984447168f457f062b4c06753c53fcd77e5659d8d2b5cf20e9c948ad8b015a", checked := Try.checked }
namespace Rows
def none {H : Type} : Left H := { results := [], args := [] }

/-- 'fullinglaw4.CheckerExamples': WHATEVER THE INPUT: true; the input reads as it did. -/
def checkerExamplesSpec : ChangeSpec := { name := "checkerExamples", fn := fun _ => fun
  | [] => { results := [.lit (.bool true)], args := [] }
  | _ => none }
def checkerExamplesRow : OpenClaim := { program := "ytchnpifkconaaaa", sum := "6b984447168f457f062b4c06753c53fcd77e5659d8d2b5cf20e9c948ad8b015a", func := "fulling/fullinglaw4.CheckerExamples", spec := "checkerExamples", unfollowed := true, recurses := true, apart := false }
def CheckerExamplesSaid : Prop := checkerExamplesRow.holds Try.pinned (OpenSpec.ofChange checkerExamplesSpec)

/-- ITS FALSE NEIGHBOUR: 'it returns false'. Refute it at one input. -/
def checkerExamplesWrong : ChangeSpec := { name := "checkerExamples", fn := fun _ => fun
  | [] => { results := [.lit (.bool false)], args := [] }
  | _ => none }
def CheckerExamplesWrongFalsely : Prop := checkerExamplesRow.holds Try.pinned (OpenSpec.ofChange checkerExamplesWrong)

/-- 'fullinglaw4.CheckerReference': WHATEVER THE INPUT: true; the input reads as it did. -/
def checkerReferenceSpec : ChangeSpec := { name := "checkerReference", fn := fun _ => fun
  | [d1, d2, d3, d4] => { results := [.lit (.bool true)], args := [d1, d2, d3, d4] }
  | _ => none }
def checkerReferenceRow : OpenClaim := { program := "ytchnpifkconaaaa", sum := "6b984447168f457f062b4c06753c53fcd77e5659d8d2b5cf20e9c948ad8b015a", func := "fulling/fullinglaw4.CheckerReference", spec := "checkerReference", unfollowed := true, recurses := true, loops := true, apart := false }
def CheckerReferenceSaid : Prop := checkerReferenceRow.holds Try.pinned (OpenSpec.ofChange checkerReferenceSpec)

/-- ITS FALSE NEIGHBOUR: 'it returns false'. Refute it at one input. -/
def checkerReferenceWrong : ChangeSpec := { name := "checkerReference", fn := fun _ => fun
  | [d1, d2, d3, d4] => { results := [.lit (.bool false)], args := [d1, d2, d3, d4] }
  | _ => none }
def CheckerReferenceWrongFalsely : Prop := checkerReferenceRow.holds Try.pinned (OpenSpec.ofChange checkerReferenceWrong)

/-- 'fullinglaw4.CheckerSingleError': WHATEVER THE INPUT: true; the input reads as it did. -/
def checkerSingleErrorSpec : ChangeSpec := { name := "checkerSingleError", fn := fun _ => fun
  | [d1, d2] => { results := [.lit (.bool true)], args := [d1, d2] }
  | _ => none }
def checkerSingleErrorRow : OpenClaim := { program := "ytchnpifkconaaaa", sum := "6b984447168f457f062b4c06753c53fcd77e5659d8d2b5cf20e9c948ad8b015a", func := "fulling/fullinglaw4.CheckerSingleError", spec := "checkerSingleError", unfollowed := true, recurses := true, apart := false }
def CheckerSingleErrorSaid : Prop := checkerSingleErrorRow.holds Try.pinned (OpenSpec.ofChange checkerSingleErrorSpec)

/-- ITS FALSE NEIGHBOUR: 'it returns false'. Refute it at one input. -/
def checkerSingleErrorWrong : ChangeSpec := { name := "checkerSingleError", fn := fun _ => fun
  | [d1, d2] => { results := [.lit (.bool false)], args := [d1, d2] }
  | _ => none }
def CheckerSingleErrorWrongFalsely : Prop := checkerSingleErrorRow.holds Try.pinned (OpenSpec.ofChange checkerSingleErrorWrong)

/-- 'fullinglaw4.CheckerOrder': WHATEVER THE INPUT: true; the input reads as it did. -/
def checkerOrderSpec : ChangeSpec := { name := "checkerOrder", fn := fun _ => fun
  | [d1, d2, d3] => { results := [.lit (.bool true)], args := [d1, d2, d3] }
  | _ => none }
def checkerOrderRow : OpenClaim := { program := "ytchnpifkconaaaa", sum := "6b984447168f457f062b4c06753c53fcd77e5659d8d2b5cf20e9c948ad8b015a", func := "fulling/fullinglaw4.CheckerOrder", spec := "checkerOrder", unfollowed := true, recurses := true, apart := false }
def CheckerOrderSaid : Prop := checkerOrderRow.holds Try.pinned (OpenSpec.ofChange checkerOrderSpec)

/-- ITS FALSE NEIGHBOUR: 'it returns false'. Refute it at one input. -/
def checkerOrderWrong : ChangeSpec := { name := "checkerOrder", fn := fun _ => fun
  | [d1, d2, d3] => { results := [.lit (.bool false)], args := [d1, d2, d3] }
  | _ => none }
def CheckerOrderWrongFalsely : Prop := checkerOrderRow.holds Try.pinned (OpenSpec.ofChange checkerOrderWrong)

/-- 'fullinglaw4.CheckerLimits': WHATEVER THE INPUT: true; the input reads as it did. -/
def checkerLimitsSpec : ChangeSpec := { name := "checkerLimits", fn := fun _ => fun
  | [d1, d2] => { results := [.lit (.bool true)], args := [d1, d2] }
  | _ => none }
def checkerLimitsRow : OpenClaim := { program := "ytchnpifkconaaaa", sum := "6b984447168f457f062b4c06753c53fcd77e5659d8d2b5cf20e9c948ad8b015a", func := "fulling/fullinglaw4.CheckerLimits", spec := "checkerLimits", unfollowed := true, recurses := true, apart := false }
def CheckerLimitsSaid : Prop := checkerLimitsRow.holds Try.pinned (OpenSpec.ofChange checkerLimitsSpec)

/-- ITS FALSE NEIGHBOUR: 'it returns false'. Refute it at one input. -/
def checkerLimitsWrong : ChangeSpec := { name := "checkerLimits", fn := fun _ => fun
  | [d1, d2] => { results := [.lit (.bool false)], args := [d1, d2] }
  | _ => none }
def CheckerLimitsWrongFalsely : Prop := checkerLimitsRow.holds Try.pinned (OpenSpec.ofChange checkerLimitsWrong)

/- THE SECOND FORM. 'bulk': how many values and letters a reading holds, each counted each time it is reached (what is shared counts as often as it is met; a slice's spare places count too). A statement '..UptoSaid' is the law's where the arguments, and the package variables that the reading takes, are together of bulk at most 1048576: NARROWER than '..Said'. Prove '..Said' where nothing that the law and all that it calls make is longer than what came in: it says more and counts as full. Else prove '..UptoSaid'. A law counts once. -/
mutual
def uptoBulk {H : Type} : DataW H → Nat
  | .lit (.string bytes) => bytes.length + 1
  | .lit _ => 1
  | .nil => 1
  | .ptr d => uptoBulk d + 1
  | .slice elems spare => uptoBulkAll elems + uptoBulkAll spare + 1
  | .agg parts => uptoBulkAll parts + 1
  | .iface _ d => uptoBulk d + 1
  | .map entries => uptoBulkEntries entries + 1
  | .held _ => 1
def uptoBulkAll {H : Type} : List (DataW H) → Nat
  | [] => 0
  | d :: r => uptoBulk d + uptoBulkAll r
def uptoBulkEntries {H : Type} : List (Lit × DataW H) → Nat
  | [] => 0
  | x :: r => uptoBulkEntry x + uptoBulkEntries r
def uptoBulkEntry {H : Type} : Lit × DataW H → Nat
  | (.string bytes, d) => bytes.length + uptoBulk d + 1
  | (_, d) => uptoBulk d + 1
 end
def uptoSmall : (H : Type) → List (DataW H) → Bool := fun _ ds => decide (uptoBulkAll ds ≤ 1048576)
def OpenSpec.upto (s : _root_.Go.ChangeSpec) : _root_.Go.OpenSpec := { _root_.Go.OpenSpec.ofChange s with cond := some uptoSmall }

/-- 'fullinglaw4.CheckerExamples', WHERE WHAT IT READS IS OF BULK AT MOST 1048576: true; the input reads as it did. -/
def checkerExamplesUptoRow : OpenClaim := { program := "ytchnpifkconaaaa", sum := "6b984447168f457f062b4c06753c53fcd77e5659d8d2b5cf20e9c948ad8b015a", func := "fulling/fullinglaw4.CheckerExamples", spec := "checkerExamples", unfollowed := true, recurses := true, apart := false, narrowed := true }
def CheckerExamplesUptoSaid : Prop := checkerExamplesUptoRow.holds Try.pinned (OpenSpec.upto checkerExamplesSpec)

/-- 'fullinglaw4.CheckerReference', WHERE WHAT IT READS IS OF BULK AT MOST 1048576: true; the input reads as it did. -/
def checkerReferenceUptoRow : OpenClaim := { program := "ytchnpifkconaaaa", sum := "6b984447168f457f062b4c06753c53fcd77e5659d8d2b5cf20e9c948ad8b015a", func := "fulling/fullinglaw4.CheckerReference", spec := "checkerReference", unfollowed := true, recurses := true, loops := true, apart := false, narrowed := true }
def CheckerReferenceUptoSaid : Prop := checkerReferenceUptoRow.holds Try.pinned (OpenSpec.upto checkerReferenceSpec)

/-- 'fullinglaw4.CheckerSingleError', WHERE WHAT IT READS IS OF BULK AT MOST 1048576: true; the input reads as it did. -/
def checkerSingleErrorUptoRow : OpenClaim := { program := "ytchnpifkconaaaa", sum := "6b984447168f457f062b4c06753c53fcd77e5659d8d2b5cf20e9c948ad8b015a", func := "fulling/fullinglaw4.CheckerSingleError", spec := "checkerSingleError", unfollowed := true, recurses := true, apart := false, narrowed := true }
def CheckerSingleErrorUptoSaid : Prop := checkerSingleErrorUptoRow.holds Try.pinned (OpenSpec.upto checkerSingleErrorSpec)

/-- 'fullinglaw4.CheckerOrder', WHERE WHAT IT READS IS OF BULK AT MOST 1048576: true; the input reads as it did. -/
def checkerOrderUptoRow : OpenClaim := { program := "ytchnpifkconaaaa", sum := "6b984447168f457f062b4c06753c53fcd77e5659d8d2b5cf20e9c948ad8b015a", func := "fulling/fullinglaw4.CheckerOrder", spec := "checkerOrder", unfollowed := true, recurses := true, apart := false, narrowed := true }
def CheckerOrderUptoSaid : Prop := checkerOrderUptoRow.holds Try.pinned (OpenSpec.upto checkerOrderSpec)

/-- 'fullinglaw4.CheckerLimits', WHERE WHAT IT READS IS OF BULK AT MOST 1048576: true; the input reads as it did. -/
def checkerLimitsUptoRow : OpenClaim := { program := "ytchnpifkconaaaa", sum := "6b984447168f457f062b4c06753c53fcd77e5659d8d2b5cf20e9c948ad8b015a", func := "fulling/fullinglaw4.CheckerLimits", spec := "checkerLimits", unfollowed := true, recurses := true, apart := false, narrowed := true }
def CheckerLimitsUptoSaid : Prop := checkerLimitsUptoRow.holds Try.pinned (OpenSpec.upto checkerLimitsSpec)

end Rows
end Go.Proofs.Ytchnpifkconaaaa
