/-
  NARROWER THAN 'FOR EVERY INPUT', by the rows' own cells (each row's printed sentence says how): InterpReference: loops.
  DERIVED. THE GIVEN ROWS OF THIS SEAT. 6 by the template 'for every input the law returns true; each argument reads behind the call as it read before'; 0 by the template 'total and deterministic' (their statements: YtbflaciihaijgaaGreatTotals.lean).
  GIVEN WITH THE SEED: the statements are not yours to turn. If you find one false, say at which input.
  Laid BY PROGRAM, IN A SANDBOX (cutbox-rows.mjs): the forced cells as the released guide's own fill.sh prints them over the translation 7e24d5a92b1d2e52… (all of the seat's roots in one cut). By AI agents, Wed Nov 11 2026. No macro, syntax, notation, axiom, sorry.
-/
import Derived.Test.YtbflaciihaijgaaGreatChecked
import GoSem.Claim
import GoSem.ClaimJoined
import GoSem.ClaimMapViews
import Derived.JoinedTies
import Derived.KernelRfl
namespace Go.Proofs.YtbflaciihaijgaaGreat
/- THE CELL 'sum', in the pinned program and in every row, IS THE sha256 OF THE DUMP (.gsa) THAT YtbflaciihaijgaaGreatProg.lean LOADS. Nothing in Lean hashes anything: it is a label: what it is worth is what the hold of that sum in a sandbox is worth. -/
noncomputable def Tryz.pinned : Pinned := { name := "ytbflaciihaijgaagreat", sum := "7e24d5a92b1d2e529359e17adb6f8ef45a3a15e69371585fa0c84ee11444d7bc", checked := Tryz.checked }
namespace Rows
def none {H : Type} : Left H := { results := [], args := [] }

/-- 'fullinglaw6.InterpReference': WHATEVER THE INPUT: true; the input reads as it did. -/
def interpReferenceSpec : ChangeSpec := { name := "interpReference", fn := fun _ => fun
  | [d1, d2, d3, d4, d5, d6, d7, d8, d9] => { results := [.lit (.bool true)], args := [d1, d2, d3, d4, d5, d6, d7, d8, d9] }
  | _ => none }
def interpReferenceRow : OpenClaim := { program := "ytbflaciihaijgaagreat", sum := "7e24d5a92b1d2e529359e17adb6f8ef45a3a15e69371585fa0c84ee11444d7bc", func := "fulling/fullinglaw6.InterpReference", spec := "interpReference", unfollowed := true, recurses := true, loops := true, apart := false }
def InterpReferenceSaid : Prop := interpReferenceRow.holds Tryz.pinned (OpenSpec.ofChange interpReferenceSpec)

/-- ITS FALSE NEIGHBOUR: 'it returns false'. Refute it at one input. -/
def interpReferenceWrong : ChangeSpec := { name := "interpReference", fn := fun _ => fun
  | [d1, d2, d3, d4, d5, d6, d7, d8, d9] => { results := [.lit (.bool false)], args := [d1, d2, d3, d4, d5, d6, d7, d8, d9] }
  | _ => none }
def InterpReferenceWrongFalsely : Prop := interpReferenceRow.holds Tryz.pinned (OpenSpec.ofChange interpReferenceWrong)

/-- 'fullinglaw7.IRValidReference': WHATEVER THE INPUT: true; the input reads as it did. -/
def iRValidReferenceSpec : ChangeSpec := { name := "iRValidReference", fn := fun _ => fun
  | [d1, d2, d3, d4] => { results := [.lit (.bool true)], args := [d1, d2, d3, d4] }
  | _ => none }
def iRValidReferenceRow : OpenClaim := { program := "ytbflaciihaijgaagreat", sum := "7e24d5a92b1d2e529359e17adb6f8ef45a3a15e69371585fa0c84ee11444d7bc", func := "fulling/fullinglaw7.IRValidReference", spec := "iRValidReference", unfollowed := true, recurses := true, apart := false }
def IRValidReferenceSaid : Prop := iRValidReferenceRow.holds Tryz.pinned (OpenSpec.ofChange iRValidReferenceSpec)

/-- ITS FALSE NEIGHBOUR: 'it returns false'. Refute it at one input. -/
def iRValidReferenceWrong : ChangeSpec := { name := "iRValidReference", fn := fun _ => fun
  | [d1, d2, d3, d4] => { results := [.lit (.bool false)], args := [d1, d2, d3, d4] }
  | _ => none }
def IRValidReferenceWrongFalsely : Prop := iRValidReferenceRow.holds Tryz.pinned (OpenSpec.ofChange iRValidReferenceWrong)

/-- 'fullinglaw9.EvalLowerCorrect': WHATEVER THE INPUT: true; the input reads as it did. -/
def evalLowerCorrectSpec : ChangeSpec := { name := "evalLowerCorrect", fn := fun _ => fun
  | [d1, d2, d3, d4, d5] => { results := [.lit (.bool true)], args := [d1, d2, d3, d4, d5] }
  | _ => none }
def evalLowerCorrectRow : OpenClaim := { program := "ytbflaciihaijgaagreat", sum := "7e24d5a92b1d2e529359e17adb6f8ef45a3a15e69371585fa0c84ee11444d7bc", func := "fulling/fullinglaw9.EvalLowerCorrect", spec := "evalLowerCorrect", unfollowed := true, recurses := true, apart := false }
def EvalLowerCorrectSaid : Prop := evalLowerCorrectRow.holds Tryz.pinned (OpenSpec.ofChange evalLowerCorrectSpec)

/-- ITS FALSE NEIGHBOUR: 'it returns false'. Refute it at one input. -/
def evalLowerCorrectWrong : ChangeSpec := { name := "evalLowerCorrect", fn := fun _ => fun
  | [d1, d2, d3, d4, d5] => { results := [.lit (.bool false)], args := [d1, d2, d3, d4, d5] }
  | _ => none }
def EvalLowerCorrectWrongFalsely : Prop := evalLowerCorrectRow.holds Tryz.pinned (OpenSpec.ofChange evalLowerCorrectWrong)

/-- 'fullinglaw9.EvalFuelMonotonic': WHATEVER THE INPUT: true; the input reads as it did. -/
def evalFuelMonotonicSpec : ChangeSpec := { name := "evalFuelMonotonic", fn := fun _ => fun
  | [d1, d2, d3, d4, d5, d6] => { results := [.lit (.bool true)], args := [d1, d2, d3, d4, d5, d6] }
  | _ => none }
def evalFuelMonotonicRow : OpenClaim := { program := "ytbflaciihaijgaagreat", sum := "7e24d5a92b1d2e529359e17adb6f8ef45a3a15e69371585fa0c84ee11444d7bc", func := "fulling/fullinglaw9.EvalFuelMonotonic", spec := "evalFuelMonotonic", unfollowed := true, recurses := true, apart := false }
def EvalFuelMonotonicSaid : Prop := evalFuelMonotonicRow.holds Tryz.pinned (OpenSpec.ofChange evalFuelMonotonicSpec)

/-- ITS FALSE NEIGHBOUR: 'it returns false'. Refute it at one input. -/
def evalFuelMonotonicWrong : ChangeSpec := { name := "evalFuelMonotonic", fn := fun _ => fun
  | [d1, d2, d3, d4, d5, d6] => { results := [.lit (.bool false)], args := [d1, d2, d3, d4, d5, d6] }
  | _ => none }
def EvalFuelMonotonicWrongFalsely : Prop := evalFuelMonotonicRow.holds Tryz.pinned (OpenSpec.ofChange evalFuelMonotonicWrong)

/-- 'fullinglaw9.EvalPure': WHATEVER THE INPUT: true; the input reads as it did. -/
def evalPureSpec : ChangeSpec := { name := "evalPure", fn := fun _ => fun
  | [d1, d2, d3, d4, d5, d6] => { results := [.lit (.bool true)], args := [d1, d2, d3, d4, d5, d6] }
  | _ => none }
def evalPureRow : OpenClaim := { program := "ytbflaciihaijgaagreat", sum := "7e24d5a92b1d2e529359e17adb6f8ef45a3a15e69371585fa0c84ee11444d7bc", func := "fulling/fullinglaw9.EvalPure", spec := "evalPure", unfollowed := true, recurses := true, apart := false }
def EvalPureSaid : Prop := evalPureRow.holds Tryz.pinned (OpenSpec.ofChange evalPureSpec)

/-- ITS FALSE NEIGHBOUR: 'it returns false'. Refute it at one input. -/
def evalPureWrong : ChangeSpec := { name := "evalPure", fn := fun _ => fun
  | [d1, d2, d3, d4, d5, d6] => { results := [.lit (.bool false)], args := [d1, d2, d3, d4, d5, d6] }
  | _ => none }
def EvalPureWrongFalsely : Prop := evalPureRow.holds Tryz.pinned (OpenSpec.ofChange evalPureWrong)

/-- 'fullinglaw9.EvalDeadNodes': WHATEVER THE INPUT: true; the input reads as it did. -/
def evalDeadNodesSpec : ChangeSpec := { name := "evalDeadNodes", fn := fun _ => fun
  | [d1, d2, d3, d4, d5, d6] => { results := [.lit (.bool true)], args := [d1, d2, d3, d4, d5, d6] }
  | _ => none }
def evalDeadNodesRow : OpenClaim := { program := "ytbflaciihaijgaagreat", sum := "7e24d5a92b1d2e529359e17adb6f8ef45a3a15e69371585fa0c84ee11444d7bc", func := "fulling/fullinglaw9.EvalDeadNodes", spec := "evalDeadNodes", unfollowed := true, recurses := true, apart := false }
def EvalDeadNodesSaid : Prop := evalDeadNodesRow.holds Tryz.pinned (OpenSpec.ofChange evalDeadNodesSpec)

/-- ITS FALSE NEIGHBOUR: 'it returns false'. Refute it at one input. -/
def evalDeadNodesWrong : ChangeSpec := { name := "evalDeadNodes", fn := fun _ => fun
  | [d1, d2, d3, d4, d5, d6] => { results := [.lit (.bool false)], args := [d1, d2, d3, d4, d5, d6] }
  | _ => none }
def EvalDeadNodesWrongFalsely : Prop := evalDeadNodesRow.holds Tryz.pinned (OpenSpec.ofChange evalDeadNodesWrong)

/- THE SECOND FORM. 'bulk': how many values and letters a reading holds, each counted each time it is reached (what is shared counts as often as it is met; a slice's spare places count too). A statement '..UptoSaid' is the law's where the arguments, and the package variables that the reading takes, are together of bulk at most 1048576: NARROWER than '..Said'. Prove '..Said' where nothing that the law and all that it calls make is longer than what came in: it says more and counts as full. Else prove '..UptoSaid'. A law counts once. -/
mutual
def uptoBulk {H : Type} : DataW H → Nat
  | .lit (.string bytes) => bytes.length + 1
  | .lit _ => 1
  | .nil => 1
  | .ptr d => uptoBulk d + 1
  | .slice elems spare => uptoBulkAll elems + uptoBulkAll spare + 1
  | .agg parts => uptoBulkAll parts + 1
  | .iface _ d => uptoBulk d + 1
  | .map entries => uptoBulkEntries entries + 1
  | .held _ => 1
def uptoBulkAll {H : Type} : List (DataW H) → Nat
  | [] => 0
  | d :: r => uptoBulk d + uptoBulkAll r
def uptoBulkEntries {H : Type} : List (Lit × DataW H) → Nat
  | [] => 0
  | x :: r => uptoBulkEntry x + uptoBulkEntries r
def uptoBulkEntry {H : Type} : Lit × DataW H → Nat
  | (.string bytes, d) => bytes.length + uptoBulk d + 1
  | (_, d) => uptoBulk d + 1
 end
def uptoSmall : (H : Type) → List (DataW H) → Bool := fun _ ds => decide (uptoBulkAll ds ≤ 1048576)
def OpenSpec.upto (s : _root_.Go.ChangeSpec) : _root_.Go.OpenSpec := { _root_.Go.OpenSpec.ofChange s with cond := some uptoSmall }

/-- 'fullinglaw6.InterpReference', WHERE WHAT IT READS IS OF BULK AT MOST 1048576: true; the input reads as it did. -/
def interpReferenceUptoRow : OpenClaim := { program := "ytbflaciihaijgaagreat", sum := "7e24d5a92b1d2e529359e17adb6f8ef45a3a15e69371585fa0c84ee11444d7bc", func := "fulling/fullinglaw6.InterpReference", spec := "interpReference", unfollowed := true, recurses := true, loops := true, apart := false, narrowed := true }
def InterpReferenceUptoSaid : Prop := interpReferenceUptoRow.holds Tryz.pinned (OpenSpec.upto interpReferenceSpec)

/-- 'fullinglaw7.IRValidReference', WHERE WHAT IT READS IS OF BULK AT MOST 1048576: true; the input reads as it did. -/
def iRValidReferenceUptoRow : OpenClaim := { program := "ytbflaciihaijgaagreat", sum := "7e24d5a92b1d2e529359e17adb6f8ef45a3a15e69371585fa0c84ee11444d7bc", func := "fulling/fullinglaw7.IRValidReference", spec := "iRValidReference", unfollowed := true, recurses := true, apart := false, narrowed := true }
def IRValidReferenceUptoSaid : Prop := iRValidReferenceUptoRow.holds Tryz.pinned (OpenSpec.upto iRValidReferenceSpec)

/-- 'fullinglaw9.EvalLowerCorrect', WHERE WHAT IT READS IS OF BULK AT MOST 1048576: true; the input reads as it did. -/
def evalLowerCorrectUptoRow : OpenClaim := { program := "ytbflaciihaijgaagreat", sum := "7e24d5a92b1d2e529359e17adb6f8ef45a3a15e69371585fa0c84ee11444d7bc", func := "fulling/fullinglaw9.EvalLowerCorrect", spec := "evalLowerCorrect", unfollowed := true, recurses := true, apart := false, narrowed := true }
def EvalLowerCorrectUptoSaid : Prop := evalLowerCorrectUptoRow.holds Tryz.pinned (OpenSpec.upto evalLowerCorrectSpec)

/-- 'fullinglaw9.EvalFuelMonotonic', WHERE WHAT IT READS IS OF BULK AT MOST 1048576: true; the input reads as it did. -/
def evalFuelMonotonicUptoRow : OpenClaim := { program := "ytbflaciihaijgaagreat", sum := "7e24d5a92b1d2e529359e17adb6f8ef45a3a15e69371585fa0c84ee11444d7bc", func := "fulling/fullinglaw9.EvalFuelMonotonic", spec := "evalFuelMonotonic", unfollowed := true, recurses := true, apart := false, narrowed := true }
def EvalFuelMonotonicUptoSaid : Prop := evalFuelMonotonicUptoRow.holds Tryz.pinned (OpenSpec.upto evalFuelMonotonicSpec)

/-- 'fullinglaw9.EvalPure', WHERE WHAT IT READS IS OF BULK AT MOST 1048576: true; the input reads as it did. -/
def evalPureUptoRow : OpenClaim := { program := "ytbflaciihaijgaagreat", sum := "7e24d5a92b1d2e529359e17adb6f8ef45a3a15e69371585fa0c84ee11444d7bc", func := "fulling/fullinglaw9.EvalPure", spec := "evalPure", unfollowed := true, recurses := true, apart := false, narrowed := true }
def EvalPureUptoSaid : Prop := evalPureUptoRow.holds Tryz.pinned (OpenSpec.upto evalPureSpec)

/-- 'fullinglaw9.EvalDeadNodes', WHERE WHAT IT READS IS OF BULK AT MOST 1048576: true; the input reads as it did. -/
def evalDeadNodesUptoRow : OpenClaim := { program := "ytbflaciihaijgaagreat", sum := "7e24d5a92b1d2e529359e17adb6f8ef45a3a15e69371585fa0c84ee11444d7bc", func := "fulling/fullinglaw9.EvalDeadNodes", spec := "evalDeadNodes", unfollowed := true, recurses := true, apart := false, narrowed := true }
def EvalDeadNodesUptoSaid : Prop := evalDeadNodesUptoRow.holds Tryz.pinned (OpenSpec.upto evalDeadNodesSpec)

end Rows
end Go.Proofs.YtbflaciihaijgaaGreat
