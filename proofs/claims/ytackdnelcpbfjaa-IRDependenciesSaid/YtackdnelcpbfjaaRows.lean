/-
  NARROWER THAN 'FOR EVERY INPUT', by the rows' own cells (each row's printed sentence says how): CheckerReference: loops.
  DERIVED. THE GIVEN ROWS OF THIS SEAT. 8 by the template 'for every input the law returns true; each argument reads behind the call as it read before'; 0 by the template 'total and deterministic' (their statements: YtackdnelcpbfjaaTotals.lean).
  GIVEN WITH THE SEED: the statements are not yours to turn. If you find one false, say at which input.
  Laid BY PROGRAM, IN A SANDBOX (cutbox-rows.mjs): the forced cells as the released guide's own fill.sh prints them over the translation 8639523846a7d789… (all of the seat's roots in one cut). By AI agents, Wed Nov 11 2026. No macro, syntax, notation, axiom, sorry.
-/
import Derived.Test.YtackdnelcpbfjaaChecked
import GoSem.Claim
import GoSem.ClaimJoined
import GoSem.ClaimMapViews
import Derived.JoinedTies
import Derived.KernelRfl
namespace Go.Proofs.Ytackdnelcpbfjaa
/- THE CELL 'sum', in the pinned program and in every row, IS THE sha256 OF THE DUMP (.gsa) THAT YtackdnelcpbfjaaProg.lean LOADS. Nothing in Lean hashes anything: it is a label: what it is worth is what the hold of that sum in a sandbox is worth. -/
noncomputable def Try.pinned : Pinned := { name := "ytackdnelcpbfjaa", sum := "8639523846a7d789542e5cd5f2eeeb5e8105455ed2db8114244eb516cb95b32a", checked := Try.checked }
namespace Rows
def none {H : Type} : Left H := { results := [], args := [] }

/-- 'fullinglaw4.CheckerReference': WHATEVER THE INPUT: true; the input reads as it did. -/
def checkerReferenceSpec : ChangeSpec := { name := "checkerReference", fn := fun _ => fun
  | [d1, d2, d3, d4] => { results := [.lit (.bool true)], args := [d1, d2, d3, d4] }
  | _ => none }
def checkerReferenceRow : OpenClaim := { program := "ytackdnelcpbfjaa", sum := "8639523846a7d789542e5cd5f2eeeb5e8105455ed2db8114244eb516cb95b32a", func := "fulling/fullinglaw4.CheckerReference", spec := "checkerReference", unfollowed := true, recurses := true, loops := true, apart := false }
def CheckerReferenceSaid : Prop := checkerReferenceRow.holds Try.pinned (OpenSpec.ofChange checkerReferenceSpec)

/-- ITS FALSE NEIGHBOUR: 'it returns false'. Refute it at one input. -/
def checkerReferenceWrong : ChangeSpec := { name := "checkerReference", fn := fun _ => fun
  | [d1, d2, d3, d4] => { results := [.lit (.bool false)], args := [d1, d2, d3, d4] }
  | _ => none }
def CheckerReferenceWrongFalsely : Prop := checkerReferenceRow.holds Try.pinned (OpenSpec.ofChange checkerReferenceWrong)

/-- 'fullinglaw4.CheckerSingleError': WHATEVER THE INPUT: true; the input reads as it did. -/
def checkerSingleErrorSpec : ChangeSpec := { name := "checkerSingleError", fn := fun _ => fun
  | [d1, d2] => { results := [.lit (.bool true)], args := [d1, d2] }
  | _ => none }
def checkerSingleErrorRow : OpenClaim := { program := "ytackdnelcpbfjaa", sum := "8639523846a7d789542e5cd5f2eeeb5e8105455ed2db8114244eb516cb95b32a", func := "fulling/fullinglaw4.CheckerSingleError", spec := "checkerSingleError", unfollowed := true, recurses := true, apart := false }
def CheckerSingleErrorSaid : Prop := checkerSingleErrorRow.holds Try.pinned (OpenSpec.ofChange checkerSingleErrorSpec)

/-- ITS FALSE NEIGHBOUR: 'it returns false'. Refute it at one input. -/
def checkerSingleErrorWrong : ChangeSpec := { name := "checkerSingleError", fn := fun _ => fun
  | [d1, d2] => { results := [.lit (.bool false)], args := [d1, d2] }
  | _ => none }
def CheckerSingleErrorWrongFalsely : Prop := checkerSingleErrorRow.holds Try.pinned (OpenSpec.ofChange checkerSingleErrorWrong)

/-- 'fullinglaw4.CheckerOrder': WHATEVER THE INPUT: true; the input reads as it did. -/
def checkerOrderSpec : ChangeSpec := { name := "checkerOrder", fn := fun _ => fun
  | [d1, d2, d3] => { results := [.lit (.bool true)], args := [d1, d2, d3] }
  | _ => none }
def checkerOrderRow : OpenClaim := { program := "ytackdnelcpbfjaa", sum := "8639523846a7d789542e5cd5f2eeeb5e8105455ed2db8114244eb516cb95b32a", func := "fulling/fullinglaw4.CheckerOrder", spec := "checkerOrder", unfollowed := true, recurses := true, apart := false }
def CheckerOrderSaid : Prop := checkerOrderRow.holds Try.pinned (OpenSpec.ofChange checkerOrderSpec)

/-- ITS FALSE NEIGHBOUR: 'it returns false'. Refute it at one input. -/
def checkerOrderWrong : ChangeSpec := { name := "checkerOrder", fn := fun _ => fun
  | [d1, d2, d3] => { results := [.lit (.bool false)], args := [d1, d2, d3] }
  | _ => none }
def CheckerOrderWrongFalsely : Prop := checkerOrderRow.holds Try.pinned (OpenSpec.ofChange checkerOrderWrong)

/-- 'fullinglaw6.InterpSorts': WHATEVER THE INPUT: true; the input reads as it did. -/
def interpSortsSpec : ChangeSpec := { name := "interpSorts", fn := fun _ => fun
  | [d1, d2, d3] => { results := [.lit (.bool true)], args := [d1, d2, d3] }
  | _ => none }
def interpSortsRow : OpenClaim := { program := "ytackdnelcpbfjaa", sum := "8639523846a7d789542e5cd5f2eeeb5e8105455ed2db8114244eb516cb95b32a", func := "fulling/fullinglaw6.InterpSorts", spec := "interpSorts", unfollowed := true, recurses := true, apart := false }
def InterpSortsSaid : Prop := interpSortsRow.holds Try.pinned (OpenSpec.ofChange interpSortsSpec)

/-- ITS FALSE NEIGHBOUR: 'it returns false'. Refute it at one input. -/
def interpSortsWrong : ChangeSpec := { name := "interpSorts", fn := fun _ => fun
  | [d1, d2, d3] => { results := [.lit (.bool false)], args := [d1, d2, d3] }
  | _ => none }
def InterpSortsWrongFalsely : Prop := interpSortsRow.holds Try.pinned (OpenSpec.ofChange interpSortsWrong)

/-- 'fullinglaw7.IRDependencies': WHATEVER THE INPUT: true; the input reads as it did. -/
def iRDependenciesSpec : ChangeSpec := { name := "iRDependencies", fn := fun _ => fun
  | [d1, d2, d3] => { results := [.lit (.bool true)], args := [d1, d2, d3] }
  | _ => none }
def iRDependenciesRow : OpenClaim := { program := "ytackdnelcpbfjaa", sum := "8639523846a7d789542e5cd5f2eeeb5e8105455ed2db8114244eb516cb95b32a", func := "fulling/fullinglaw7.IRDependencies", spec := "iRDependencies", unfollowed := true, recurses := true, apart := false }
def IRDependenciesSaid : Prop := iRDependenciesRow.holds Try.pinned (OpenSpec.ofChange iRDependenciesSpec)

/-- ITS FALSE NEIGHBOUR: 'it returns false'. Refute it at one input. -/
def iRDependenciesWrong : ChangeSpec := { name := "iRDependencies", fn := fun _ => fun
  | [d1, d2, d3] => { results := [.lit (.bool false)], args := [d1, d2, d3] }
  | _ => none }
def IRDependenciesWrongFalsely : Prop := iRDependenciesRow.holds Try.pinned (OpenSpec.ofChange iRDependenciesWrong)

/-- 'fullinglaw7.IRLoops': WHATEVER THE INPUT: true; the input reads as it did. -/
def iRLoopsSpec : ChangeSpec := { name := "iRLoops", fn := fun _ => fun
  | [d1, d2, d3] => { results := [.lit (.bool true)], args := [d1, d2, d3] }
  | _ => none }
def iRLoopsRow : OpenClaim := { program := "ytackdnelcpbfjaa", sum := "8639523846a7d789542e5cd5f2eeeb5e8105455ed2db8114244eb516cb95b32a", func := "fulling/fullinglaw7.IRLoops", spec := "iRLoops", unfollowed := true, recurses := true, apart := false }
def IRLoopsSaid : Prop := iRLoopsRow.holds Try.pinned (OpenSpec.ofChange iRLoopsSpec)

/-- ITS FALSE NEIGHBOUR: 'it returns false'. Refute it at one input. -/
def iRLoopsWrong : ChangeSpec := { name := "iRLoops", fn := fun _ => fun
  | [d1, d2, d3] => { results := [.lit (.bool false)], args := [d1, d2, d3] }
  | _ => none }
def IRLoopsWrongFalsely : Prop := iRLoopsRow.holds Try.pinned (OpenSpec.ofChange iRLoopsWrong)

/-- 'fullinglaw7.IRPrefix': WHATEVER THE INPUT: true; the input reads as it did. -/
def iRPrefixSpec : ChangeSpec := { name := "iRPrefix", fn := fun _ => fun
  | [d1, d2, d3, d4] => { results := [.lit (.bool true)], args := [d1, d2, d3, d4] }
  | _ => none }
def iRPrefixRow : OpenClaim := { program := "ytackdnelcpbfjaa", sum := "8639523846a7d789542e5cd5f2eeeb5e8105455ed2db8114244eb516cb95b32a", func := "fulling/fullinglaw7.IRPrefix", spec := "iRPrefix", unfollowed := true, recurses := true, apart := false }
def IRPrefixSaid : Prop := iRPrefixRow.holds Try.pinned (OpenSpec.ofChange iRPrefixSpec)

/-- ITS FALSE NEIGHBOUR: 'it returns false'. Refute it at one input. -/
def iRPrefixWrong : ChangeSpec := { name := "iRPrefix", fn := fun _ => fun
  | [d1, d2, d3, d4] => { results := [.lit (.bool false)], args := [d1, d2, d3, d4] }
  | _ => none }
def IRPrefixWrongFalsely : Prop := iRPrefixRow.holds Try.pinned (OpenSpec.ofChange iRPrefixWrong)

/-- 'fullinglaw7.IRValidParts': WHATEVER THE INPUT: true; the input reads as it did. -/
def iRValidPartsSpec : ChangeSpec := { name := "iRValidParts", fn := fun _ => fun
  | [d1, d2, d3] => { results := [.lit (.bool true)], args := [d1, d2, d3] }
  | _ => none }
def iRValidPartsRow : OpenClaim := { program := "ytackdnelcpbfjaa", sum := "8639523846a7d789542e5cd5f2eeeb5e8105455ed2db8114244eb516cb95b32a", func := "fulling/fullinglaw7.IRValidParts", spec := "iRValidParts", unfollowed := true, recurses := true, apart := false }
def IRValidPartsSaid : Prop := iRValidPartsRow.holds Try.pinned (OpenSpec.ofChange iRValidPartsSpec)

/-- ITS FALSE NEIGHBOUR: 'it returns false'. Refute it at one input. -/
def iRValidPartsWrong : ChangeSpec := { name := "iRValidParts", fn := fun _ => fun
  | [d1, d2, d3] => { results := [.lit (.bool false)], args := [d1, d2, d3] }
  | _ => none }
def IRValidPartsWrongFalsely : Prop := iRValidPartsRow.holds Try.pinned (OpenSpec.ofChange iRValidPartsWrong)

/- THE SECOND FORM. 'bulk': how many values and letters a reading holds, each counted each time it is reached (what is shared counts as often as it is met; a slice's spare places count too). A statement '..UptoSaid' is the law's where the arguments, and the package variables that the reading takes, are together of bulk at most 1048576: NARROWER than '..Said'. Prove '..Said' where nothing that the law and all that it calls make is longer than what came in: it says more and counts as full. Else prove '..UptoSaid'. A law counts once. -/
mutual
def uptoBulk {H : Type} : DataW H → Nat
  | .lit (.string bytes) => bytes.length + 1
  | .lit _ => 1
  | .nil => 1
  | .ptr d => uptoBulk d + 1
  | .slice elems spare => uptoBulkAll elems + uptoBulkAll spare + 1
  | .agg parts => uptoBulkAll parts + 1
  | .iface _ d => uptoBulk d + 1
  | .map entries => uptoBulkEntries entries + 1
  | .held _ => 1
def uptoBulkAll {H : Type} : List (DataW H) → Nat
  | [] => 0
  | d :: r => uptoBulk d + uptoBulkAll r
def uptoBulkEntries {H : Type} : List (Lit × DataW H) → Nat
  | [] => 0
  | x :: r => uptoBulkEntry x + uptoBulkEntries r
def uptoBulkEntry {H : Type} : Lit × DataW H → Nat
  | (.string bytes, d) => bytes.length + uptoBulk d + 1
  | (_, d) => uptoBulk d + 1
 end
def uptoSmall : (H : Type) → List (DataW H) → Bool := fun _ ds => decide (uptoBulkAll ds ≤ 1048576)
def OpenSpec.upto (s : _root_.Go.ChangeSpec) : _root_.Go.OpenSpec := { _root_.Go.OpenSpec.ofChange s with cond := some uptoSmall }

/-- 'fullinglaw4.CheckerReference', WHERE WHAT IT READS IS OF BULK AT MOST 1048576: true; the input reads as it did. -/
def checkerReferenceUptoRow : OpenClaim := { program := "ytackdnelcpbfjaa", sum := "8639523846a7d789542e5cd5f2eeeb5e8105455ed2db8114244eb516cb95b32a", func := "fulling/fullinglaw4.CheckerReference", spec := "checkerReference", unfollowed := true, recurses := true, loops := true, apart := false, narrowed := true }
def CheckerReferenceUptoSaid : Prop := checkerReferenceUptoRow.holds Try.pinned (OpenSpec.upto checkerReferenceSpec)

/-- 'fullinglaw4.CheckerSingleError', WHERE WHAT IT READS IS OF BULK AT MOST 1048576: true; the input reads as it did. -/
def checkerSingleErrorUptoRow : OpenClaim := { program := "ytackdnelcpbfjaa", sum := "8639523846a7d789542e5cd5f2eeeb5e8105455ed2db8114244eb516cb95b32a", func := "fulling/fullinglaw4.CheckerSingleError", spec := "checkerSingleError", unfollowed := true, recurses := true, apart := false, narrowed := true }
def CheckerSingleErrorUptoSaid : Prop := checkerSingleErrorUptoRow.holds Try.pinned (OpenSpec.upto checkerSingleErrorSpec)

/-- 'fullinglaw4.CheckerOrder', WHERE WHAT IT READS IS OF BULK AT MOST 1048576: true; the input reads as it did. -/
def checkerOrderUptoRow : OpenClaim := { program := "ytackdnelcpbfjaa", sum := "8639523846a7d789542e5cd5f2eeeb5e8105455ed2db8114244eb516cb95b32a", func := "fulling/fullinglaw4.CheckerOrder", spec := "checkerOrder", unfollowed := true, recurses := true, apart := false, narrowed := true }
def CheckerOrderUptoSaid : Prop := checkerOrderUptoRow.holds Try.pinned (OpenSpec.upto checkerOrderSpec)

/-- 'fullinglaw6.InterpSorts', WHERE WHAT IT READS IS OF BULK AT MOST 1048576: true; the input reads as it did. -/
def interpSortsUptoRow : OpenClaim := { program := "ytackdnelcpbfjaa", sum := "8639523846a7d789542e5cd5f2eeeb5e8105455ed2db8114244eb516cb95b32a", func := "fulling/fullinglaw6.InterpSorts", spec := "interpSorts", unfollowed := true, recurses := true, apart := false, narrowed := true }
def InterpSortsUptoSaid : Prop := interpSortsUptoRow.holds Try.pinned (OpenSpec.upto interpSortsSpec)

/-- 'fullinglaw7.IRDependencies', WHERE WHAT IT READS IS OF BULK AT MOST 1048576: true; the input reads as it did. -/
def iRDependenciesUptoRow : OpenClaim := { program := "ytackdnelcpbfjaa", sum := "8639523846a7d789542e5cd5f2eeeb5e8105455ed2db8114244eb516cb95b32a", func := "fulling/fullinglaw7.IRDependencies", spec := "iRDependencies", unfollowed := true, recurses := true, apart := false, narrowed := true }
def IRDependenciesUptoSaid : Prop := iRDependenciesUptoRow.holds Try.pinned (OpenSpec.upto iRDependenciesSpec)

/-- 'fullinglaw7.IRLoops', WHERE WHAT IT READS IS OF BULK AT MOST 1048576: true; the input reads as it did. -/
def iRLoopsUptoRow : OpenClaim := { program := "ytackdnelcpbfjaa", sum := "8639523846a7d789542e5cd5f2eeeb5e8105455ed2db8114244eb516cb95b32a", func := "fulling/fullinglaw7.IRLoops", spec := "iRLoops", unfollowed := true, recurses := true, apart := false, narrowed := true }
def IRLoopsUptoSaid : Prop := iRLoopsUptoRow.holds Try.pinned (OpenSpec.upto iRLoopsSpec)

/-- 'fullinglaw7.IRPrefix', WHERE WHAT IT READS IS OF BULK AT MOST 1048576: true; the input reads as it did. -/
def iRPrefixUptoRow : OpenClaim := { program := "ytackdnelcpbfjaa", sum := "8639523846a7d789542e5cd5f2eeeb5e8105455ed2db8114244eb516cb95b32a", func := "fulling/fullinglaw7.IRPrefix", spec := "iRPrefix", unfollowed := true, recurses := true, apart := false, narrowed := true }
def IRPrefixUptoSaid : Prop := iRPrefixUptoRow.holds Try.pinned (OpenSpec.upto iRPrefixSpec)

/-- 'fullinglaw7.IRValidParts', WHERE WHAT IT READS IS OF BULK AT MOST 1048576: true; the input reads as it did. -/
def iRValidPartsUptoRow : OpenClaim := { program := "ytackdnelcpbfjaa", sum := "8639523846a7d789542e5cd5f2eeeb5e8105455ed2db8114244eb516cb95b32a", func := "fulling/fullinglaw7.IRValidParts", spec := "iRValidParts", unfollowed := true, recurses := true, apart := false, narrowed := true }
def IRValidPartsUptoSaid : Prop := iRValidPartsUptoRow.holds Try.pinned (OpenSpec.upto iRValidPartsSpec)

end Rows
end Go.Proofs.Ytackdnelcpbfjaa
