/-
  No cell of these rows narrows 'for every input' (looked for: loops, veiled, ifaces, maps, wideKeys, modest, calm, conditions, laid).
  DERIVED. THE GIVEN ROWS OF THIS SEAT. 8 by the template 'for every input the law returns true; each argument reads behind the call as it read before'; 0 by the template 'total and deterministic' (their statements: YtljebeflbbgibaaGreatTotals.lean).
  GIVEN WITH THE SEED: the statements are not yours to turn. If you find one false, say at which input.
  Laid BY PROGRAM, IN A SANDBOX (cutbox-rows.mjs): the forced cells as the released guide's own fill.sh prints them over the translation f90b4330618397b5… (all of the seat's roots in one cut). By AI agents, Wed Nov 11 2026. No macro, syntax, notation, axiom, sorry.
-/
import Derived.Test.YtljebeflbbgibaaGreatChecked
import GoSem.Claim
import GoSem.ClaimJoined
import GoSem.ClaimMapViews
import Derived.JoinedTies
import Derived.KernelRfl
namespace Go.Proofs.YtljebeflbbgibaaGreat
/- THE CELL 'sum', in the pinned program and in every row, IS THE sha256 OF THE DUMP (.gsa) THAT YtljebeflbbgibaaGreatProg.lean LOADS. Nothing in Lean hashes anything: it is a label: what it is worth is what the hold of that sum in a sandbox is worth. -/
noncomputable def Tryz.pinned : Pinned := { name := "ytljebeflbbgibaagreat", sum := "f90b4330618397b5bda9380deef240aabc345cb5724f228830f81b58664f2f4e", checked := Tryz.checked }
namespace Rows
def none {H : Type} : Left H := { results := [], args := [] }

/-- 'fullinglaw9.EvalLaziness': WHATEVER THE INPUT: true; the input reads as it did. -/
def evalLazinessSpec : ChangeSpec := { name := "evalLaziness", fn := fun _ => fun
  | [d1, d2, d3] => { results := [.lit (.bool true)], args := [d1, d2, d3] }
  | _ => none }
def evalLazinessRow : OpenClaim := { program := "ytljebeflbbgibaagreat", sum := "f90b4330618397b5bda9380deef240aabc345cb5724f228830f81b58664f2f4e", func := "fulling/fullinglaw9.EvalLaziness", spec := "evalLaziness", unfollowed := true, recurses := true, apart := false }
def EvalLazinessSaid : Prop := evalLazinessRow.holds Tryz.pinned (OpenSpec.ofChange evalLazinessSpec)

/-- ITS FALSE NEIGHBOUR: 'it returns false'. Refute it at one input. -/
def evalLazinessWrong : ChangeSpec := { name := "evalLaziness", fn := fun _ => fun
  | [d1, d2, d3] => { results := [.lit (.bool false)], args := [d1, d2, d3] }
  | _ => none }
def EvalLazinessWrongFalsely : Prop := evalLazinessRow.holds Tryz.pinned (OpenSpec.ofChange evalLazinessWrong)

/-- 'fullinglaw9.EvalStoreLoad': WHATEVER THE INPUT: true; the input reads as it did. -/
def evalStoreLoadSpec : ChangeSpec := { name := "evalStoreLoad", fn := fun _ => fun
  | [d1, d2, d3, d4, d5, d6] => { results := [.lit (.bool true)], args := [d1, d2, d3, d4, d5, d6] }
  | _ => none }
def evalStoreLoadRow : OpenClaim := { program := "ytljebeflbbgibaagreat", sum := "f90b4330618397b5bda9380deef240aabc345cb5724f228830f81b58664f2f4e", func := "fulling/fullinglaw9.EvalStoreLoad", spec := "evalStoreLoad", unfollowed := true, recurses := true, apart := false }
def EvalStoreLoadSaid : Prop := evalStoreLoadRow.holds Tryz.pinned (OpenSpec.ofChange evalStoreLoadSpec)

/-- ITS FALSE NEIGHBOUR: 'it returns false'. Refute it at one input. -/
def evalStoreLoadWrong : ChangeSpec := { name := "evalStoreLoad", fn := fun _ => fun
  | [d1, d2, d3, d4, d5, d6] => { results := [.lit (.bool false)], args := [d1, d2, d3, d4, d5, d6] }
  | _ => none }
def EvalStoreLoadWrongFalsely : Prop := evalStoreLoadRow.holds Tryz.pinned (OpenSpec.ofChange evalStoreLoadWrong)

/-- 'fullinglaw9.EvalStopped': WHATEVER THE INPUT: true; the input reads as it did. -/
def evalStoppedSpec : ChangeSpec := { name := "evalStopped", fn := fun _ => fun
  | [d1, d2, d3, d4] => { results := [.lit (.bool true)], args := [d1, d2, d3, d4] }
  | _ => none }
def evalStoppedRow : OpenClaim := { program := "ytljebeflbbgibaagreat", sum := "f90b4330618397b5bda9380deef240aabc345cb5724f228830f81b58664f2f4e", func := "fulling/fullinglaw9.EvalStopped", spec := "evalStopped", unfollowed := true, recurses := true, apart := false }
def EvalStoppedSaid : Prop := evalStoppedRow.holds Tryz.pinned (OpenSpec.ofChange evalStoppedSpec)

/-- ITS FALSE NEIGHBOUR: 'it returns false'. Refute it at one input. -/
def evalStoppedWrong : ChangeSpec := { name := "evalStopped", fn := fun _ => fun
  | [d1, d2, d3, d4] => { results := [.lit (.bool false)], args := [d1, d2, d3, d4] }
  | _ => none }
def EvalStoppedWrongFalsely : Prop := evalStoppedRow.holds Tryz.pinned (OpenSpec.ofChange evalStoppedWrong)

/-- 'fullinglaw9.EvalDeadNodes': WHATEVER THE INPUT: true; the input reads as it did. -/
def evalDeadNodesSpec : ChangeSpec := { name := "evalDeadNodes", fn := fun _ => fun
  | [d1, d2, d3, d4, d5, d6] => { results := [.lit (.bool true)], args := [d1, d2, d3, d4, d5, d6] }
  | _ => none }
def evalDeadNodesRow : OpenClaim := { program := "ytljebeflbbgibaagreat", sum := "f90b4330618397b5bda9380deef240aabc345cb5724f228830f81b58664f2f4e", func := "fulling/fullinglaw9.EvalDeadNodes", spec := "evalDeadNodes", unfollowed := true, recurses := true, apart := false }
def EvalDeadNodesSaid : Prop := evalDeadNodesRow.holds Tryz.pinned (OpenSpec.ofChange evalDeadNodesSpec)

/-- ITS FALSE NEIGHBOUR: 'it returns false'. Refute it at one input. -/
def evalDeadNodesWrong : ChangeSpec := { name := "evalDeadNodes", fn := fun _ => fun
  | [d1, d2, d3, d4, d5, d6] => { results := [.lit (.bool false)], args := [d1, d2, d3, d4, d5, d6] }
  | _ => none }
def EvalDeadNodesWrongFalsely : Prop := evalDeadNodesRow.holds Tryz.pinned (OpenSpec.ofChange evalDeadNodesWrong)

/-- 'fullinglaw9.EvalPure': WHATEVER THE INPUT: true; the input reads as it did. -/
def evalPureSpec : ChangeSpec := { name := "evalPure", fn := fun _ => fun
  | [d1, d2, d3, d4, d5, d6] => { results := [.lit (.bool true)], args := [d1, d2, d3, d4, d5, d6] }
  | _ => none }
def evalPureRow : OpenClaim := { program := "ytljebeflbbgibaagreat", sum := "f90b4330618397b5bda9380deef240aabc345cb5724f228830f81b58664f2f4e", func := "fulling/fullinglaw9.EvalPure", spec := "evalPure", unfollowed := true, recurses := true, apart := false }
def EvalPureSaid : Prop := evalPureRow.holds Tryz.pinned (OpenSpec.ofChange evalPureSpec)

/-- ITS FALSE NEIGHBOUR: 'it returns false'. Refute it at one input. -/
def evalPureWrong : ChangeSpec := { name := "evalPure", fn := fun _ => fun
  | [d1, d2, d3, d4, d5, d6] => { results := [.lit (.bool false)], args := [d1, d2, d3, d4, d5, d6] }
  | _ => none }
def EvalPureWrongFalsely : Prop := evalPureRow.holds Tryz.pinned (OpenSpec.ofChange evalPureWrong)

/-- 'fullinglaw9.EvalFuelMonotonic': WHATEVER THE INPUT: true; the input reads as it did. -/
def evalFuelMonotonicSpec : ChangeSpec := { name := "evalFuelMonotonic", fn := fun _ => fun
  | [d1, d2, d3, d4, d5, d6] => { results := [.lit (.bool true)], args := [d1, d2, d3, d4, d5, d6] }
  | _ => none }
def evalFuelMonotonicRow : OpenClaim := { program := "ytljebeflbbgibaagreat", sum := "f90b4330618397b5bda9380deef240aabc345cb5724f228830f81b58664f2f4e", func := "fulling/fullinglaw9.EvalFuelMonotonic", spec := "evalFuelMonotonic", unfollowed := true, recurses := true, apart := false }
def EvalFuelMonotonicSaid : Prop := evalFuelMonotonicRow.holds Tryz.pinned (OpenSpec.ofChange evalFuelMonotonicSpec)

/-- ITS FALSE NEIGHBOUR: 'it returns false'. Refute it at one input. -/
def evalFuelMonotonicWrong : ChangeSpec := { name := "evalFuelMonotonic", fn := fun _ => fun
  | [d1, d2, d3, d4, d5, d6] => { results := [.lit (.bool false)], args := [d1, d2, d3, d4, d5, d6] }
  | _ => none }
def EvalFuelMonotonicWrongFalsely : Prop := evalFuelMonotonicRow.holds Tryz.pinned (OpenSpec.ofChange evalFuelMonotonicWrong)

/-- 'fullinglaw9.EvalValueReference': WHATEVER THE INPUT: true; the input reads as it did. -/
def evalValueReferenceSpec : ChangeSpec := { name := "evalValueReference", fn := fun _ => fun
  | [d1, d2, d3, d4, d5, d6, d7] => { results := [.lit (.bool true)], args := [d1, d2, d3, d4, d5, d6, d7] }
  | _ => none }
def evalValueReferenceRow : OpenClaim := { program := "ytljebeflbbgibaagreat", sum := "f90b4330618397b5bda9380deef240aabc345cb5724f228830f81b58664f2f4e", func := "fulling/fullinglaw9.EvalValueReference", spec := "evalValueReference", unfollowed := true, recurses := true, apart := false }
def EvalValueReferenceSaid : Prop := evalValueReferenceRow.holds Tryz.pinned (OpenSpec.ofChange evalValueReferenceSpec)

/-- ITS FALSE NEIGHBOUR: 'it returns false'. Refute it at one input. -/
def evalValueReferenceWrong : ChangeSpec := { name := "evalValueReference", fn := fun _ => fun
  | [d1, d2, d3, d4, d5, d6, d7] => { results := [.lit (.bool false)], args := [d1, d2, d3, d4, d5, d6, d7] }
  | _ => none }
def EvalValueReferenceWrongFalsely : Prop := evalValueReferenceRow.holds Tryz.pinned (OpenSpec.ofChange evalValueReferenceWrong)

/-- 'fullinglaw9.EvalLowerCorrect': WHATEVER THE INPUT: true; the input reads as it did. -/
def evalLowerCorrectSpec : ChangeSpec := { name := "evalLowerCorrect", fn := fun _ => fun
  | [d1, d2, d3, d4, d5] => { results := [.lit (.bool true)], args := [d1, d2, d3, d4, d5] }
  | _ => none }
def evalLowerCorrectRow : OpenClaim := { program := "ytljebeflbbgibaagreat", sum := "f90b4330618397b5bda9380deef240aabc345cb5724f228830f81b58664f2f4e", func := "fulling/fullinglaw9.EvalLowerCorrect", spec := "evalLowerCorrect", unfollowed := true, recurses := true, apart := false }
def EvalLowerCorrectSaid : Prop := evalLowerCorrectRow.holds Tryz.pinned (OpenSpec.ofChange evalLowerCorrectSpec)

/-- ITS FALSE NEIGHBOUR: 'it returns false'. Refute it at one input. -/
def evalLowerCorrectWrong : ChangeSpec := { name := "evalLowerCorrect", fn := fun _ => fun
  | [d1, d2, d3, d4, d5] => { results := [.lit (.bool false)], args := [d1, d2, d3, d4, d5] }
  | _ => none }
def EvalLowerCorrectWrongFalsely : Prop := evalLowerCorrectRow.holds Tryz.pinned (OpenSpec.ofChange evalLowerCorrectWrong)

/- THE SECOND FORM. 'bulk': how many values and letters a reading holds, each counted each time it is reached (what is shared counts as often as it is met; a slice's spare places count too). A statement '..UptoSaid' is the law's where the arguments, and the package variables that the reading takes, are together of bulk at most 1048576: NARROWER than '..Said'. Prove '..Said' where nothing that the law and all that it calls make is longer than what came in: it says more and counts as full. Else prove '..UptoSaid'. A law counts once. -/
mutual
def uptoBulk {H : Type} : DataW H → Nat
  | .lit (.string bytes) => bytes.length + 1
  | .lit _ => 1
  | .nil => 1
  | .ptr d => uptoBulk d + 1
  | .slice elems spare => uptoBulkAll elems + uptoBulkAll spare + 1
  | .agg parts => uptoBulkAll parts + 1
  | .iface _ d => uptoBulk d + 1
  | .map entries => uptoBulkEntries entries + 1
  | .held _ => 1
def uptoBulkAll {H : Type} : List (DataW H) → Nat
  | [] => 0
  | d :: r => uptoBulk d + uptoBulkAll r
def uptoBulkEntries {H : Type} : List (Lit × DataW H) → Nat
  | [] => 0
  | x :: r => uptoBulkEntry x + uptoBulkEntries r
def uptoBulkEntry {H : Type} : Lit × DataW H → Nat
  | (.string bytes, d) => bytes.length + uptoBulk d + 1
  | (_, d) => uptoBulk d + 1
 end
def uptoSmall : (H : Type) → List (DataW H) → Bool := fun _ ds => decide (uptoBulkAll ds ≤ 1048576)
def OpenSpec.upto (s : _root_.Go.ChangeSpec) : _root_.Go.OpenSpec := { _root_.Go.OpenSpec.ofChange s with cond := some uptoSmall }

/-- 'fullinglaw9.EvalLaziness', WHERE WHAT IT READS IS OF BULK AT MOST 1048576: true; the input reads as it did. -/
def evalLazinessUptoRow : OpenClaim := { program := "ytljebeflbbgibaagreat", sum := "f90b4330618397b5bda9380deef240aabc345cb5724f228830f81b58664f2f4e", func := "fulling/fullinglaw9.EvalLaziness", spec := "evalLaziness", unfollowed := true, recurses := true, apart := false, narrowed := true }
def EvalLazinessUptoSaid : Prop := evalLazinessUptoRow.holds Tryz.pinned (OpenSpec.upto evalLazinessSpec)

/-- 'fullinglaw9.EvalStoreLoad', WHERE WHAT IT READS IS OF BULK AT MOST 1048576: true; the input reads as it did. -/
def evalStoreLoadUptoRow : OpenClaim := { program := "ytljebeflbbgibaagreat", sum := "f90b4330618397b5bda9380deef240aabc345cb5724f228830f81b58664f2f4e", func := "fulling/fullinglaw9.EvalStoreLoad", spec := "evalStoreLoad", unfollowed := true, recurses := true, apart := false, narrowed := true }
def EvalStoreLoadUptoSaid : Prop := evalStoreLoadUptoRow.holds Tryz.pinned (OpenSpec.upto evalStoreLoadSpec)

/-- 'fullinglaw9.EvalStopped', WHERE WHAT IT READS IS OF BULK AT MOST 1048576: true; the input reads as it did. -/
def evalStoppedUptoRow : OpenClaim := { program := "ytljebeflbbgibaagreat", sum := "f90b4330618397b5bda9380deef240aabc345cb5724f228830f81b58664f2f4e", func := "fulling/fullinglaw9.EvalStopped", spec := "evalStopped", unfollowed := true, recurses := true, apart := false, narrowed := true }
def EvalStoppedUptoSaid : Prop := evalStoppedUptoRow.holds Tryz.pinned (OpenSpec.upto evalStoppedSpec)

/-- 'fullinglaw9.EvalDeadNodes', WHERE WHAT IT READS IS OF BULK AT MOST 1048576: true; the input reads as it did. -/
def evalDeadNodesUptoRow : OpenClaim := { program := "ytljebeflbbgibaagreat", sum := "f90b4330618397b5bda9380deef240aabc345cb5724f228830f81b58664f2f4e", func := "fulling/fullinglaw9.EvalDeadNodes", spec := "evalDeadNodes", unfollowed := true, recurses := true, apart := false, narrowed := true }
def EvalDeadNodesUptoSaid : Prop := evalDeadNodesUptoRow.holds Tryz.pinned (OpenSpec.upto evalDeadNodesSpec)

/-- 'fullinglaw9.EvalPure', WHERE WHAT IT READS IS OF BULK AT MOST 1048576: true; the input reads as it did. -/
def evalPureUptoRow : OpenClaim := { program := "ytljebeflbbgibaagreat", sum := "f90b4330618397b5bda9380deef240aabc345cb5724f228830f81b58664f2f4e", func := "fulling/fullinglaw9.EvalPure", spec := "evalPure", unfollowed := true, recurses := true, apart := false, narrowed := true }
def EvalPureUptoSaid : Prop := evalPureUptoRow.holds Tryz.pinned (OpenSpec.upto evalPureSpec)

/-- 'fullinglaw9.EvalFuelMonotonic', WHERE WHAT IT READS IS OF BULK AT MOST 1048576: true; the input reads as it did. -/
def evalFuelMonotonicUptoRow : OpenClaim := { program := "ytljebeflbbgibaagreat", sum := "f90b4330618397b5bda9380deef240aabc345cb5724f228830f81b58664f2f4e", func := "fulling/fullinglaw9.EvalFuelMonotonic", spec := "evalFuelMonotonic", unfollowed := true, recurses := true, apart := false, narrowed := true }
def EvalFuelMonotonicUptoSaid : Prop := evalFuelMonotonicUptoRow.holds Tryz.pinned (OpenSpec.upto evalFuelMonotonicSpec)

/-- 'fullinglaw9.EvalValueReference', WHERE WHAT IT READS IS OF BULK AT MOST 1048576: true; the input reads as it did. -/
def evalValueReferenceUptoRow : OpenClaim := { program := "ytljebeflbbgibaagreat", sum := "f90b4330618397b5bda9380deef240aabc345cb5724f228830f81b58664f2f4e", func := "fulling/fullinglaw9.EvalValueReference", spec := "evalValueReference", unfollowed := true, recurses := true, apart := false, narrowed := true }
def EvalValueReferenceUptoSaid : Prop := evalValueReferenceUptoRow.holds Tryz.pinned (OpenSpec.upto evalValueReferenceSpec)

/-- 'fullinglaw9.EvalLowerCorrect', WHERE WHAT IT READS IS OF BULK AT MOST 1048576: true; the input reads as it did. -/
def evalLowerCorrectUptoRow : OpenClaim := { program := "ytljebeflbbgibaagreat", sum := "f90b4330618397b5bda9380deef240aabc345cb5724f228830f81b58664f2f4e", func := "fulling/fullinglaw9.EvalLowerCorrect", spec := "evalLowerCorrect", unfollowed := true, recurses := true, apart := false, narrowed := true }
def EvalLowerCorrectUptoSaid : Prop := evalLowerCorrectUptoRow.holds Tryz.pinned (OpenSpec.upto evalLowerCorrectSpec)

end Rows
end Go.Proofs.YtljebeflbbgibaaGreat
