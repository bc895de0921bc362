/-
  NARROWER THAN 'FOR EVERY INPUT', by the rows' own cells (each row's printed sentence says how): CheckerReference: loops.
  DERIVED. THE GIVEN ROWS OF THIS SEAT. 9 by the template 'for every input the law returns true; each argument reads behind the call as it read before'; 0 by the template 'total and deterministic' (their statements: YtjkmbpieknaekaaTotals.lean).
  GIVEN WITH THE SEED: the statements are not yours to turn. If you find one false, say at which input.
  Laid BY PROGRAM, IN A SANDBOX (cutbox-rows.mjs): the forced cells as the released guide's own fill.sh prints them over the translation f16ac0d3a572d79b… (all of the seat's roots in one cut). By AI agents, Wed Nov 11 2026. No macro, syntax, notation, axiom, sorry.
-/
import Derived.Test.YtjkmbpieknaekaaChecked
import GoSem.Claim
import GoSem.ClaimJoined
import GoSem.ClaimMapViews
import Derived.JoinedTies
import Derived.KernelRfl
namespace Go.Proofs.Ytjkmbpieknaekaa
/- THE CELL 'sum', in the pinned program and in every row, IS THE sha256 OF THE DUMP (.gsa) THAT YtjkmbpieknaekaaProg.lean LOADS. Nothing in Lean hashes anything: it is a label: what it is worth is what the hold of that sum in a sandbox is worth. -/
noncomputable def Try.pinned : Pinned := { name := "ytjkmbpieknaekaa", sum := "f16ac0d3a572d79b20510814ec3263a2263bc82cbba1ae989f034f807f348245", checked := Try.checked }
namespace Rows
def none {H : Type} : Left H := { results := [], args := [] }

/-- 'fullinglaw4.CheckerReference': WHATEVER THE INPUT: true; the input reads as it did. -/
def checkerReferenceSpec : ChangeSpec := { name := "checkerReference", fn := fun _ => fun
  | [d1, d2, d3, d4] => { results := [.lit (.bool true)], args := [d1, d2, d3, d4] }
  | _ => none }
def checkerReferenceRow : OpenClaim := { program := "ytjkmbpieknaekaa", sum := "f16ac0d3a572d79b20510814ec3263a2263bc82cbba1ae989f034f807f348245", func := "fulling/fullinglaw4.CheckerReference", spec := "checkerReference", unfollowed := true, recurses := true, loops := true, apart := false }
def CheckerReferenceSaid : Prop := checkerReferenceRow.holds Try.pinned (OpenSpec.ofChange checkerReferenceSpec)

/-- ITS FALSE NEIGHBOUR: 'it returns false'. Refute it at one input. -/
def checkerReferenceWrong : ChangeSpec := { name := "checkerReference", fn := fun _ => fun
  | [d1, d2, d3, d4] => { results := [.lit (.bool false)], args := [d1, d2, d3, d4] }
  | _ => none }
def CheckerReferenceWrongFalsely : Prop := checkerReferenceRow.holds Try.pinned (OpenSpec.ofChange checkerReferenceWrong)

/-- 'fullinglaw4.CheckerSingleError': WHATEVER THE INPUT: true; the input reads as it did. -/
def checkerSingleErrorSpec : ChangeSpec := { name := "checkerSingleError", fn := fun _ => fun
  | [d1, d2] => { results := [.lit (.bool true)], args := [d1, d2] }
  | _ => none }
def checkerSingleErrorRow : OpenClaim := { program := "ytjkmbpieknaekaa", sum := "f16ac0d3a572d79b20510814ec3263a2263bc82cbba1ae989f034f807f348245", func := "fulling/fullinglaw4.CheckerSingleError", spec := "checkerSingleError", unfollowed := true, recurses := true, apart := false }
def CheckerSingleErrorSaid : Prop := checkerSingleErrorRow.holds Try.pinned (OpenSpec.ofChange checkerSingleErrorSpec)

/-- ITS FALSE NEIGHBOUR: 'it returns false'. Refute it at one input. -/
def checkerSingleErrorWrong : ChangeSpec := { name := "checkerSingleError", fn := fun _ => fun
  | [d1, d2] => { results := [.lit (.bool false)], args := [d1, d2] }
  | _ => none }
def CheckerSingleErrorWrongFalsely : Prop := checkerSingleErrorRow.holds Try.pinned (OpenSpec.ofChange checkerSingleErrorWrong)

/-- 'fullinglaw4.CheckerOrder': WHATEVER THE INPUT: true; the input reads as it did. -/
def checkerOrderSpec : ChangeSpec := { name := "checkerOrder", fn := fun _ => fun
  | [d1, d2, d3] => { results := [.lit (.bool true)], args := [d1, d2, d3] }
  | _ => none }
def checkerOrderRow : OpenClaim := { program := "ytjkmbpieknaekaa", sum := "f16ac0d3a572d79b20510814ec3263a2263bc82cbba1ae989f034f807f348245", func := "fulling/fullinglaw4.CheckerOrder", spec := "checkerOrder", unfollowed := true, recurses := true, apart := false }
def CheckerOrderSaid : Prop := checkerOrderRow.holds Try.pinned (OpenSpec.ofChange checkerOrderSpec)

/-- ITS FALSE NEIGHBOUR: 'it returns false'. Refute it at one input. -/
def checkerOrderWrong : ChangeSpec := { name := "checkerOrder", fn := fun _ => fun
  | [d1, d2, d3] => { results := [.lit (.bool false)], args := [d1, d2, d3] }
  | _ => none }
def CheckerOrderWrongFalsely : Prop := checkerOrderRow.holds Try.pinned (OpenSpec.ofChange checkerOrderWrong)

/-- 'fullinglaw4.CheckerLimits': WHATEVER THE INPUT: true; the input reads as it did. -/
def checkerLimitsSpec : ChangeSpec := { name := "checkerLimits", fn := fun _ => fun
  | [d1, d2] => { results := [.lit (.bool true)], args := [d1, d2] }
  | _ => none }
def checkerLimitsRow : OpenClaim := { program := "ytjkmbpieknaekaa", sum := "f16ac0d3a572d79b20510814ec3263a2263bc82cbba1ae989f034f807f348245", func := "fulling/fullinglaw4.CheckerLimits", spec := "checkerLimits", unfollowed := true, recurses := true, apart := false }
def CheckerLimitsSaid : Prop := checkerLimitsRow.holds Try.pinned (OpenSpec.ofChange checkerLimitsSpec)

/-- ITS FALSE NEIGHBOUR: 'it returns false'. Refute it at one input. -/
def checkerLimitsWrong : ChangeSpec := { name := "checkerLimits", fn := fun _ => fun
  | [d1, d2] => { results := [.lit (.bool false)], args := [d1, d2] }
  | _ => none }
def CheckerLimitsWrongFalsely : Prop := checkerLimitsRow.holds Try.pinned (OpenSpec.ofChange checkerLimitsWrong)

/-- 'fullinglaw6.InterpFuelMonotonic': WHATEVER THE INPUT: true; the input reads as it did. -/
def interpFuelMonotonicSpec : ChangeSpec := { name := "interpFuelMonotonic", fn := fun _ => fun
  | [d1, d2, d3, d4, d5, d6] => { results := [.lit (.bool true)], args := [d1, d2, d3, d4, d5, d6] }
  | _ => none }
def interpFuelMonotonicRow : OpenClaim := { program := "ytjkmbpieknaekaa", sum := "f16ac0d3a572d79b20510814ec3263a2263bc82cbba1ae989f034f807f348245", func := "fulling/fullinglaw6.InterpFuelMonotonic", spec := "interpFuelMonotonic", unfollowed := true, recurses := true, apart := false }
def InterpFuelMonotonicSaid : Prop := interpFuelMonotonicRow.holds Try.pinned (OpenSpec.ofChange interpFuelMonotonicSpec)

/-- ITS FALSE NEIGHBOUR: 'it returns false'. Refute it at one input. -/
def interpFuelMonotonicWrong : ChangeSpec := { name := "interpFuelMonotonic", fn := fun _ => fun
  | [d1, d2, d3, d4, d5, d6] => { results := [.lit (.bool false)], args := [d1, d2, d3, d4, d5, d6] }
  | _ => none }
def InterpFuelMonotonicWrongFalsely : Prop := interpFuelMonotonicRow.holds Try.pinned (OpenSpec.ofChange interpFuelMonotonicWrong)

/-- 'fullinglaw6.InterpSorts': WHATEVER THE INPUT: true; the input reads as it did. -/
def interpSortsSpec : ChangeSpec := { name := "interpSorts", fn := fun _ => fun
  | [d1, d2, d3] => { results := [.lit (.bool true)], args := [d1, d2, d3] }
  | _ => none }
def interpSortsRow : OpenClaim := { program := "ytjkmbpieknaekaa", sum := "f16ac0d3a572d79b20510814ec3263a2263bc82cbba1ae989f034f807f348245", func := "fulling/fullinglaw6.InterpSorts", spec := "interpSorts", unfollowed := true, recurses := true, apart := false }
def InterpSortsSaid : Prop := interpSortsRow.holds Try.pinned (OpenSpec.ofChange interpSortsSpec)

/-- ITS FALSE NEIGHBOUR: 'it returns false'. Refute it at one input. -/
def interpSortsWrong : ChangeSpec := { name := "interpSorts", fn := fun _ => fun
  | [d1, d2, d3] => { results := [.lit (.bool false)], args := [d1, d2, d3] }
  | _ => none }
def InterpSortsWrongFalsely : Prop := interpSortsRow.holds Try.pinned (OpenSpec.ofChange interpSortsWrong)

/-- 'fullinglaw6.InterpTraps': WHATEVER THE INPUT: true; the input reads as it did. -/
def interpTrapsSpec : ChangeSpec := { name := "interpTraps", fn := fun _ => fun
  | [d1, d2, d3] => { results := [.lit (.bool true)], args := [d1, d2, d3] }
  | _ => none }
def interpTrapsRow : OpenClaim := { program := "ytjkmbpieknaekaa", sum := "f16ac0d3a572d79b20510814ec3263a2263bc82cbba1ae989f034f807f348245", func := "fulling/fullinglaw6.InterpTraps", spec := "interpTraps", unfollowed := true, recurses := true, apart := false }
def InterpTrapsSaid : Prop := interpTrapsRow.holds Try.pinned (OpenSpec.ofChange interpTrapsSpec)

/-- ITS FALSE NEIGHBOUR: 'it returns false'. Refute it at one input. -/
def interpTrapsWrong : ChangeSpec := { name := "interpTraps", fn := fun _ => fun
  | [d1, d2, d3] => { results := [.lit (.bool false)], args := [d1, d2, d3] }
  | _ => none }
def InterpTrapsWrongFalsely : Prop := interpTrapsRow.holds Try.pinned (OpenSpec.ofChange interpTrapsWrong)

/-- 'fullinglaw6.InterpFresh': WHATEVER THE INPUT: true; the input reads as it did. -/
def interpFreshSpec : ChangeSpec := { name := "interpFresh", fn := fun _ => fun
  | [d1, d2, d3, d4, d5] => { results := [.lit (.bool true)], args := [d1, d2, d3, d4, d5] }
  | _ => none }
def interpFreshRow : OpenClaim := { program := "ytjkmbpieknaekaa", sum := "f16ac0d3a572d79b20510814ec3263a2263bc82cbba1ae989f034f807f348245", func := "fulling/fullinglaw6.InterpFresh", spec := "interpFresh", unfollowed := true, recurses := true, apart := false }
def InterpFreshSaid : Prop := interpFreshRow.holds Try.pinned (OpenSpec.ofChange interpFreshSpec)

/-- ITS FALSE NEIGHBOUR: 'it returns false'. Refute it at one input. -/
def interpFreshWrong : ChangeSpec := { name := "interpFresh", fn := fun _ => fun
  | [d1, d2, d3, d4, d5] => { results := [.lit (.bool false)], args := [d1, d2, d3, d4, d5] }
  | _ => none }
def InterpFreshWrongFalsely : Prop := interpFreshRow.holds Try.pinned (OpenSpec.ofChange interpFreshWrong)

/-- 'fullinglaw6.InterpSwappedFunctions': WHATEVER THE INPUT: true; the input reads as it did. -/
def interpSwappedFunctionsSpec : ChangeSpec := { name := "interpSwappedFunctions", fn := fun _ => fun
  | [d1, d2, d3, d4, d5] => { results := [.lit (.bool true)], args := [d1, d2, d3, d4, d5] }
  | _ => none }
def interpSwappedFunctionsRow : OpenClaim := { program := "ytjkmbpieknaekaa", sum := "f16ac0d3a572d79b20510814ec3263a2263bc82cbba1ae989f034f807f348245", func := "fulling/fullinglaw6.InterpSwappedFunctions", spec := "interpSwappedFunctions", unfollowed := true, recurses := true, apart := false }
def InterpSwappedFunctionsSaid : Prop := interpSwappedFunctionsRow.holds Try.pinned (OpenSpec.ofChange interpSwappedFunctionsSpec)

/-- ITS FALSE NEIGHBOUR: 'it returns false'. Refute it at one input. -/
def interpSwappedFunctionsWrong : ChangeSpec := { name := "interpSwappedFunctions", fn := fun _ => fun
  | [d1, d2, d3, d4, d5] => { results := [.lit (.bool false)], args := [d1, d2, d3, d4, d5] }
  | _ => none }
def InterpSwappedFunctionsWrongFalsely : Prop := interpSwappedFunctionsRow.holds Try.pinned (OpenSpec.ofChange interpSwappedFunctionsWrong)

/- THE SECOND FORM. 'bulk': how many values and letters a reading holds, each counted each time it is reached (what is shared counts as often as it is met; a slice's spare places count too). A statement '..UptoSaid' is the law's where the arguments, and the package variables that the reading takes, are together of bulk at most 1048576: NARROWER than '..Said'. Prove '..Said' where nothing that the law and all that it calls make is longer than what came in: it says more and counts as full. Else prove '..UptoSaid'. A law counts once. -/
mutual
def uptoBulk {H : Type} : DataW H → Nat
  | .lit (.string bytes) => bytes.length + 1
  | .lit _ => 1
  | .nil => 1
  | .ptr d => uptoBulk d + 1
  | .slice elems spare => uptoBulkAll elems + uptoBulkAll spare + 1
  | .agg parts => uptoBulkAll parts + 1
  | .iface _ d => uptoBulk d + 1
  | .map entries => uptoBulkEntries entries + 1
  | .held _ => 1
def uptoBulkAll {H : Type} : List (DataW H) → Nat
  | [] => 0
  | d :: r => uptoBulk d + uptoBulkAll r
def uptoBulkEntries {H : Type} : List (Lit × DataW H) → Nat
  | [] => 0
  | x :: r => uptoBulkEntry x + uptoBulkEntries r
def uptoBulkEntry {H : Type} : Lit × DataW H → Nat
  | (.string bytes, d) => bytes.length + uptoBulk d + 1
  | (_, d) => uptoBulk d + 1
 end
def uptoSmall : (H : Type) → List (DataW H) → Bool := fun _ ds => decide (uptoBulkAll ds ≤ 1048576)
def OpenSpec.upto (s : _root_.Go.ChangeSpec) : _root_.Go.OpenSpec := { _root_.Go.OpenSpec.ofChange s with cond := some uptoSmall }

/-- 'fullinglaw4.CheckerReference', WHERE WHAT IT READS IS OF BULK AT MOST 1048576: true; the input reads as it did. -/
def checkerReferenceUptoRow : OpenClaim := { program := "ytjkmbpieknaekaa", sum := "f16ac0d3a572d79b20510814ec3263a2263bc82cbba1ae989f034f807f348245", func := "fulling/fullinglaw4.CheckerReference", spec := "checkerReference", unfollowed := true, recurses := true, loops := true, apart := false, narrowed := true }
def CheckerReferenceUptoSaid : Prop := checkerReferenceUptoRow.holds Try.pinned (OpenSpec.upto checkerReferenceSpec)

/-- 'fullinglaw4.CheckerSingleError', WHERE WHAT IT READS IS OF BULK AT MOST 1048576: true; the input reads as it did. -/
def checkerSingleErrorUptoRow : OpenClaim := { program := "ytjkmbpieknaekaa", sum := "f16ac0d3a572d79b20510814ec3263a2263bc82cbba1ae989f034f807f348245", func := "fulling/fullinglaw4.CheckerSingleError", spec := "checkerSingleError", unfollowed := true, recurses := true, apart := false, narrowed := true }
def CheckerSingleErrorUptoSaid : Prop := checkerSingleErrorUptoRow.holds Try.pinned (OpenSpec.upto checkerSingleErrorSpec)

/-- 'fullinglaw4.CheckerOrder', WHERE WHAT IT READS IS OF BULK AT MOST 1048576: true; the input reads as it did. -/
def checkerOrderUptoRow : OpenClaim := { program := "ytjkmbpieknaekaa", sum := "f16ac0d3a572d79b20510814ec3263a2263bc82cbba1ae989f034f807f348245", func := "fulling/fullinglaw4.CheckerOrder", spec := "checkerOrder", unfollowed := true, recurses := true, apart := false, narrowed := true }
def CheckerOrderUptoSaid : Prop := checkerOrderUptoRow.holds Try.pinned (OpenSpec.upto checkerOrderSpec)

/-- 'fullinglaw4.CheckerLimits', WHERE WHAT IT READS IS OF BULK AT MOST 1048576: true; the input reads as it did. -/
def checkerLimitsUptoRow : OpenClaim := { program := "ytjkmbpieknaekaa", sum := "f16ac0d3a572d79b20510814ec3263a2263bc82cbba1ae989f034f807f348245", func := "fulling/fullinglaw4.CheckerLimits", spec := "checkerLimits", unfollowed := true, recurses := true, apart := false, narrowed := true }
def CheckerLimitsUptoSaid : Prop := checkerLimitsUptoRow.holds Try.pinned (OpenSpec.upto checkerLimitsSpec)

/-- 'fullinglaw6.InterpFuelMonotonic', WHERE WHAT IT READS IS OF BULK AT MOST 1048576: true; the input reads as it did. -/
def interpFuelMonotonicUptoRow : OpenClaim := { program := "ytjkmbpieknaekaa", sum := "f16ac0d3a572d79b20510814ec3263a2263bc82cbba1ae989f034f807f348245", func := "fulling/fullinglaw6.InterpFuelMonotonic", spec := "interpFuelMonotonic", unfollowed := true, recurses := true, apart := false, narrowed := true }
def InterpFuelMonotonicUptoSaid : Prop := interpFuelMonotonicUptoRow.holds Try.pinned (OpenSpec.upto interpFuelMonotonicSpec)

/-- 'fullinglaw6.InterpSorts', WHERE WHAT IT READS IS OF BULK AT MOST 1048576: true; the input reads as it did. -/
def interpSortsUptoRow : OpenClaim := { program := "ytjkmbpieknaekaa", sum := "f16ac0d3a572d79b20510814ec3263a2263bc82cbba1ae989f034f807f348245", func := "fulling/fullinglaw6.InterpSorts", spec := "interpSorts", unfollowed := true, recurses := true, apart := false, narrowed := true }
def InterpSortsUptoSaid : Prop := interpSortsUptoRow.holds Try.pinned (OpenSpec.upto interpSortsSpec)

/-- 'fullinglaw6.InterpTraps', WHERE WHAT IT READS IS OF BULK AT MOST 1048576: true; the input reads as it did. -/
def interpTrapsUptoRow : OpenClaim := { program := "ytjkmbpieknaekaa", sum := "f16ac0d3a572d79b20510814ec3263a2263bc82cbba1ae989f034f807f348245", func := "fulling/fullinglaw6.InterpTraps", spec := "interpTraps", unfollowed := true, recurses := true, apart := false, narrowed := true }
def InterpTrapsUptoSaid : Prop := interpTrapsUptoRow.holds Try.pinned (OpenSpec.upto interpTrapsSpec)

/-- 'fullinglaw6.InterpFresh', WHERE WHAT IT READS IS OF BULK AT MOST 1048576: true; the input reads as it did. -/
def interpFreshUptoRow : OpenClaim := { program := "ytjkmbpieknaekaa", sum := "f16ac0d3a572d79b20510814ec3263a2263bc82cbba1ae989f034f807f348245", func := "fulling/fullinglaw6.InterpFresh", spec := "interpFresh", unfollowed := true, recurses := true, apart := false, narrowed := true }
def InterpFreshUptoSaid : Prop := interpFreshUptoRow.holds Try.pinned (OpenSpec.upto interpFreshSpec)

/-- 'fullinglaw6.InterpSwappedFunctions', WHERE WHAT IT READS IS OF BULK AT MOST 1048576: true; the input reads as it did. -/
def interpSwappedFunctionsUptoRow : OpenClaim := { program := "ytjkmbpieknaekaa", sum := "f16ac0d3a572d79b20510814ec3263a2263bc82cbba1ae989f034f807f348245", func := "fulling/fullinglaw6.InterpSwappedFunctions", spec := "interpSwappedFunctions", unfollowed := true, recurses := true, apart := false, narrowed := true }
def InterpSwappedFunctionsUptoSaid : Prop := interpSwappedFunctionsUptoRow.holds Try.pinned (OpenSpec.upto interpSwappedFunctionsSpec)

end Rows
end Go.Proofs.Ytjkmbpieknaekaa
