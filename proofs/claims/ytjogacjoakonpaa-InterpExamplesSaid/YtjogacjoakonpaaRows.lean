/-
  No cell of these rows narrows 'for every input' (looked for: loops, veiled, ifaces, maps, wideKeys, modest, calm, conditions, laid).
  DERIVED. THE GIVEN ROWS OF THIS SEAT. 10 by the template 'for every input the law returns true; each argument reads behind the call as it read before'; 0 by the template 'total and deterministic' (their statements: YtjogacjoakonpaaTotals.lean).
  GIVEN WITH THE SEED: the statements are not yours to turn. If you find one false, say at which input.
  Laid BY PROGRAM, IN A SANDBOX (cutbox-rows.mjs): the forced cells as the released guide's own fill.sh prints them over the translation a080c4216900f256… (all of the seat's roots in one cut). By AI agents, Wed Nov 11 2026. No macro, syntax, notation, axiom, sorry.
-/
import Derived.Test.YtjogacjoakonpaaChecked
import GoSem.Claim
import GoSem.ClaimJoined
import GoSem.ClaimMapViews
import Derived.JoinedTies
import Derived.KernelRfl
namespace Go.Proofs.Ytjogacjoakonpaa
/- THE CELL 'sum', in the pinned program and in every row, IS THE sha256 OF THE DUMP (.gsa) THAT YtjogacjoakonpaaProg.lean LOADS. Nothing in Lean hashes anything: it is a label: what it is worth is what the hold of that sum in a sandbox is worth. -/
noncomputable def Try.pinned : Pinned := { name := "ytjogacjoakonpaa", sum := "a080c4216900f2562306cdd065f7d2030e48931ed547c477ca04fd12838efbc2", checked := Try.checked }
namespace Rows
def none {H : Type} : Left H := { results := [], args := [] }

/-- 'fullinglaw8.LowerExamples': WHATEVER THE INPUT: true; the input reads as it did. -/
def lowerExamplesSpec : ChangeSpec := { name := "lowerExamples", fn := fun _ => fun
  | [] => { results := [.lit (.bool true)], args := [] }
  | _ => none }
def lowerExamplesRow : OpenClaim := { program := "ytjogacjoakonpaa", sum := "a080c4216900f2562306cdd065f7d2030e48931ed547c477ca04fd12838efbc2", func := "fulling/fullinglaw8.LowerExamples", spec := "lowerExamples", unfollowed := true, recurses := true, apart := false }
def LowerExamplesSaid : Prop := lowerExamplesRow.holds Try.pinned (OpenSpec.ofChange lowerExamplesSpec)

/-- ITS FALSE NEIGHBOUR: 'it returns false'. Refute it at one input. -/
def lowerExamplesWrong : ChangeSpec := { name := "lowerExamples", fn := fun _ => fun
  | [] => { results := [.lit (.bool false)], args := [] }
  | _ => none }
def LowerExamplesWrongFalsely : Prop := lowerExamplesRow.holds Try.pinned (OpenSpec.ofChange lowerExamplesWrong)

/-- 'fullinglaw8.LowerGuards': WHATEVER THE INPUT: true; the input reads as it did. -/
def lowerGuardsSpec : ChangeSpec := { name := "lowerGuards", fn := fun _ => fun
  | [d1, d2] => { results := [.lit (.bool true)], args := [d1, d2] }
  | _ => none }
def lowerGuardsRow : OpenClaim := { program := "ytjogacjoakonpaa", sum := "a080c4216900f2562306cdd065f7d2030e48931ed547c477ca04fd12838efbc2", func := "fulling/fullinglaw8.LowerGuards", spec := "lowerGuards", unfollowed := true, recurses := true, apart := false }
def LowerGuardsSaid : Prop := lowerGuardsRow.holds Try.pinned (OpenSpec.ofChange lowerGuardsSpec)

/-- ITS FALSE NEIGHBOUR: 'it returns false'. Refute it at one input. -/
def lowerGuardsWrong : ChangeSpec := { name := "lowerGuards", fn := fun _ => fun
  | [d1, d2] => { results := [.lit (.bool false)], args := [d1, d2] }
  | _ => none }
def LowerGuardsWrongFalsely : Prop := lowerGuardsRow.holds Try.pinned (OpenSpec.ofChange lowerGuardsWrong)

/-- 'fullinglaw6.InterpExamples': WHATEVER THE INPUT: true; the input reads as it did. -/
def interpExamplesSpec : ChangeSpec := { name := "interpExamples", fn := fun _ => fun
  | [] => { results := [.lit (.bool true)], args := [] }
  | _ => none }
def interpExamplesRow : OpenClaim := { program := "ytjogacjoakonpaa", sum := "a080c4216900f2562306cdd065f7d2030e48931ed547c477ca04fd12838efbc2", func := "fulling/fullinglaw6.InterpExamples", spec := "interpExamples", unfollowed := true, recurses := true, apart := false }
def InterpExamplesSaid : Prop := interpExamplesRow.holds Try.pinned (OpenSpec.ofChange interpExamplesSpec)

/-- ITS FALSE NEIGHBOUR: 'it returns false'. Refute it at one input. -/
def interpExamplesWrong : ChangeSpec := { name := "interpExamples", fn := fun _ => fun
  | [] => { results := [.lit (.bool false)], args := [] }
  | _ => none }
def InterpExamplesWrongFalsely : Prop := interpExamplesRow.holds Try.pinned (OpenSpec.ofChange interpExamplesWrong)

/-- 'fullinglaw6.InterpTicks': WHATEVER THE INPUT: true; the input reads as it did. -/
def interpTicksSpec : ChangeSpec := { name := "interpTicks", fn := fun _ => fun
  | [d1, d2, d3] => { results := [.lit (.bool true)], args := [d1, d2, d3] }
  | _ => none }
def interpTicksRow : OpenClaim := { program := "ytjogacjoakonpaa", sum := "a080c4216900f2562306cdd065f7d2030e48931ed547c477ca04fd12838efbc2", func := "fulling/fullinglaw6.InterpTicks", spec := "interpTicks", unfollowed := true, recurses := true, apart := false }
def InterpTicksSaid : Prop := interpTicksRow.holds Try.pinned (OpenSpec.ofChange interpTicksSpec)

/-- ITS FALSE NEIGHBOUR: 'it returns false'. Refute it at one input. -/
def interpTicksWrong : ChangeSpec := { name := "interpTicks", fn := fun _ => fun
  | [d1, d2, d3] => { results := [.lit (.bool false)], args := [d1, d2, d3] }
  | _ => none }
def InterpTicksWrongFalsely : Prop := interpTicksRow.holds Try.pinned (OpenSpec.ofChange interpTicksWrong)

/-- 'fullinglaw6.InterpSorts': WHATEVER THE INPUT: true; the input reads as it did. -/
def interpSortsSpec : ChangeSpec := { name := "interpSorts", fn := fun _ => fun
  | [d1, d2, d3] => { results := [.lit (.bool true)], args := [d1, d2, d3] }
  | _ => none }
def interpSortsRow : OpenClaim := { program := "ytjogacjoakonpaa", sum := "a080c4216900f2562306cdd065f7d2030e48931ed547c477ca04fd12838efbc2", func := "fulling/fullinglaw6.InterpSorts", spec := "interpSorts", unfollowed := true, recurses := true, apart := false }
def InterpSortsSaid : Prop := interpSortsRow.holds Try.pinned (OpenSpec.ofChange interpSortsSpec)

/-- ITS FALSE NEIGHBOUR: 'it returns false'. Refute it at one input. -/
def interpSortsWrong : ChangeSpec := { name := "interpSorts", fn := fun _ => fun
  | [d1, d2, d3] => { results := [.lit (.bool false)], args := [d1, d2, d3] }
  | _ => none }
def InterpSortsWrongFalsely : Prop := interpSortsRow.holds Try.pinned (OpenSpec.ofChange interpSortsWrong)

/-- 'fullinglaw6.InterpLaziness': WHATEVER THE INPUT: true; the input reads as it did. -/
def interpLazinessSpec : ChangeSpec := { name := "interpLaziness", fn := fun _ => fun
  | [d1, d2, d3] => { results := [.lit (.bool true)], args := [d1, d2, d3] }
  | _ => none }
def interpLazinessRow : OpenClaim := { program := "ytjogacjoakonpaa", sum := "a080c4216900f2562306cdd065f7d2030e48931ed547c477ca04fd12838efbc2", func := "fulling/fullinglaw6.InterpLaziness", spec := "interpLaziness", unfollowed := true, recurses := true, apart := false }
def InterpLazinessSaid : Prop := interpLazinessRow.holds Try.pinned (OpenSpec.ofChange interpLazinessSpec)

/-- ITS FALSE NEIGHBOUR: 'it returns false'. Refute it at one input. -/
def interpLazinessWrong : ChangeSpec := { name := "interpLaziness", fn := fun _ => fun
  | [d1, d2, d3] => { results := [.lit (.bool false)], args := [d1, d2, d3] }
  | _ => none }
def InterpLazinessWrongFalsely : Prop := interpLazinessRow.holds Try.pinned (OpenSpec.ofChange interpLazinessWrong)

/-- 'fullinglaw6.InterpCalls': WHATEVER THE INPUT: true; the input reads as it did. -/
def interpCallsSpec : ChangeSpec := { name := "interpCalls", fn := fun _ => fun
  | [d1, d2, d3] => { results := [.lit (.bool true)], args := [d1, d2, d3] }
  | _ => none }
def interpCallsRow : OpenClaim := { program := "ytjogacjoakonpaa", sum := "a080c4216900f2562306cdd065f7d2030e48931ed547c477ca04fd12838efbc2", func := "fulling/fullinglaw6.InterpCalls", spec := "interpCalls", unfollowed := true, recurses := true, apart := false }
def InterpCallsSaid : Prop := interpCallsRow.holds Try.pinned (OpenSpec.ofChange interpCallsSpec)

/-- ITS FALSE NEIGHBOUR: 'it returns false'. Refute it at one input. -/
def interpCallsWrong : ChangeSpec := { name := "interpCalls", fn := fun _ => fun
  | [d1, d2, d3] => { results := [.lit (.bool false)], args := [d1, d2, d3] }
  | _ => none }
def InterpCallsWrongFalsely : Prop := interpCallsRow.holds Try.pinned (OpenSpec.ofChange interpCallsWrong)

/-- 'fullinglaw6.InterpTraps': WHATEVER THE INPUT: true; the input reads as it did. -/
def interpTrapsSpec : ChangeSpec := { name := "interpTraps", fn := fun _ => fun
  | [d1, d2, d3] => { results := [.lit (.bool true)], args := [d1, d2, d3] }
  | _ => none }
def interpTrapsRow : OpenClaim := { program := "ytjogacjoakonpaa", sum := "a080c4216900f2562306cdd065f7d2030e48931ed547c477ca04fd12838efbc2", func := "fulling/fullinglaw6.InterpTraps", spec := "interpTraps", unfollowed := true, recurses := true, apart := false }
def InterpTrapsSaid : Prop := interpTrapsRow.holds Try.pinned (OpenSpec.ofChange interpTrapsSpec)

/-- ITS FALSE NEIGHBOUR: 'it returns false'. Refute it at one input. -/
def interpTrapsWrong : ChangeSpec := { name := "interpTraps", fn := fun _ => fun
  | [d1, d2, d3] => { results := [.lit (.bool false)], args := [d1, d2, d3] }
  | _ => none }
def InterpTrapsWrongFalsely : Prop := interpTrapsRow.holds Try.pinned (OpenSpec.ofChange interpTrapsWrong)

/-- 'fullinglaw7.IRExamples': WHATEVER THE INPUT: true; the input reads as it did. -/
def iRExamplesSpec : ChangeSpec := { name := "iRExamples", fn := fun _ => fun
  | [] => { results := [.lit (.bool true)], args := [] }
  | _ => none }
def iRExamplesRow : OpenClaim := { program := "ytjogacjoakonpaa", sum := "a080c4216900f2562306cdd065f7d2030e48931ed547c477ca04fd12838efbc2", func := "fulling/fullinglaw7.IRExamples", spec := "iRExamples", unfollowed := true, recurses := true, apart := false }
def IRExamplesSaid : Prop := iRExamplesRow.holds Try.pinned (OpenSpec.ofChange iRExamplesSpec)

/-- ITS FALSE NEIGHBOUR: 'it returns false'. Refute it at one input. -/
def iRExamplesWrong : ChangeSpec := { name := "iRExamples", fn := fun _ => fun
  | [] => { results := [.lit (.bool false)], args := [] }
  | _ => none }
def IRExamplesWrongFalsely : Prop := iRExamplesRow.holds Try.pinned (OpenSpec.ofChange iRExamplesWrong)

/-- 'fullinglaw7.IRLoops': WHATEVER THE INPUT: true; the input reads as it did. -/
def iRLoopsSpec : ChangeSpec := { name := "iRLoops", fn := fun _ => fun
  | [d1, d2, d3] => { results := [.lit (.bool true)], args := [d1, d2, d3] }
  | _ => none }
def iRLoopsRow : OpenClaim := { program := "ytjogacjoakonpaa", sum := "a080c4216900f2562306cdd065f7d2030e48931ed547c477ca04fd12838efbc2", func := "fulling/fullinglaw7.IRLoops", spec := "iRLoops", unfollowed := true, recurses := true, apart := false }
def IRLoopsSaid : Prop := iRLoopsRow.holds Try.pinned (OpenSpec.ofChange iRLoopsSpec)

/-- ITS FALSE NEIGHBOUR: 'it returns false'. Refute it at one input. -/
def iRLoopsWrong : ChangeSpec := { name := "iRLoops", fn := fun _ => fun
  | [d1, d2, d3] => { results := [.lit (.bool false)], args := [d1, d2, d3] }
  | _ => none }
def IRLoopsWrongFalsely : Prop := iRLoopsRow.holds Try.pinned (OpenSpec.ofChange iRLoopsWrong)

/- THE SECOND FORM. 'bulk': how many values and letters a reading holds, each counted each time it is reached (what is shared counts as often as it is met; a slice's spare places count too). A statement '..UptoSaid' is the law's where the arguments, and the package variables that the reading takes, are together of bulk at most 1048576: NARROWER than '..Said'. Prove '..Said' where nothing that the law and all that it calls make is longer than what came in: it says more and counts as full. Else prove '..UptoSaid'. A law counts once. -/
mutual
def uptoBulk {H : Type} : DataW H → Nat
  | .lit (.string bytes) => bytes.length + 1
  | .lit _ => 1
  | .nil => 1
  | .ptr d => uptoBulk d + 1
  | .slice elems spare => uptoBulkAll elems + uptoBulkAll spare + 1
  | .agg parts => uptoBulkAll parts + 1
  | .iface _ d => uptoBulk d + 1
  | .map entries => uptoBulkEntries entries + 1
  | .held _ => 1
def uptoBulkAll {H : Type} : List (DataW H) → Nat
  | [] => 0
  | d :: r => uptoBulk d + uptoBulkAll r
def uptoBulkEntries {H : Type} : List (Lit × DataW H) → Nat
  | [] => 0
  | x :: r => uptoBulkEntry x + uptoBulkEntries r
def uptoBulkEntry {H : Type} : Lit × DataW H → Nat
  | (.string bytes, d) => bytes.length + uptoBulk d + 1
  | (_, d) => uptoBulk d + 1
 end
def uptoSmall : (H : Type) → List (DataW H) → Bool := fun _ ds => decide (uptoBulkAll ds ≤ 1048576)
def OpenSpec.upto (s : _root_.Go.ChangeSpec) : _root_.Go.OpenSpec := { _root_.Go.OpenSpec.ofChange s with cond := some uptoSmall }

/-- 'fullinglaw8.LowerExamples', WHERE WHAT IT READS IS OF BULK AT MOST 1048576: true; the input reads as it did. -/
def lowerExamplesUptoRow : OpenClaim := { program := "ytjogacjoakonpaa", sum := "a080c4216900f2562306cdd065f7d2030e48931ed547c477ca04fd12838efbc2", func := "fulling/fullinglaw8.LowerExamples", spec := "lowerExamples", unfollowed := true, recurses := true, apart := false, narrowed := true }
def LowerExamplesUptoSaid : Prop := lowerExamplesUptoRow.holds Try.pinned (OpenSpec.upto lowerExamplesSpec)

/-- 'fullinglaw8.LowerGuards', WHERE WHAT IT READS IS OF BULK AT MOST 1048576: true; the input reads as it did. -/
def lowerGuardsUptoRow : OpenClaim := { program := "ytjogacjoakonpaa", sum := "a080c4216900f2562306cdd065f7d2030e48931ed547c477ca04fd12838efbc2", func := "fulling/fullinglaw8.LowerGuards", spec := "lowerGuards", unfollowed := true, recurses := true, apart := false, narrowed := true }
def LowerGuardsUptoSaid : Prop := lowerGuardsUptoRow.holds Try.pinned (OpenSpec.upto lowerGuardsSpec)

/-- 'fullinglaw6.InterpExamples', WHERE WHAT IT READS IS OF BULK AT MOST 1048576: true; the input reads as it did. -/
def interpExamplesUptoRow : OpenClaim := { program := "ytjogacjoakonpaa", sum := "a080c4216900f2562306cdd065f7d2030e48931ed547c477ca04fd12838efbc2", func := "fulling/fullinglaw6.InterpExamples", spec := "interpExamples", unfollowed := true, recurses := true, apart := false, narrowed := true }
def InterpExamplesUptoSaid : Prop := interpExamplesUptoRow.holds Try.pinned (OpenSpec.upto interpExamplesSpec)

/-- 'fullinglaw6.InterpTicks', WHERE WHAT IT READS IS OF BULK AT MOST 1048576: true; the input reads as it did. -/
def interpTicksUptoRow : OpenClaim := { program := "ytjogacjoakonpaa", sum := "a080c4216900f2562306cdd065f7d2030e48931ed547c477ca04fd12838efbc2", func := "fulling/fullinglaw6.InterpTicks", spec := "interpTicks", unfollowed := true, recurses := true, apart := false, narrowed := true }
def InterpTicksUptoSaid : Prop := interpTicksUptoRow.holds Try.pinned (OpenSpec.upto interpTicksSpec)

/-- 'fullinglaw6.InterpSorts', WHERE WHAT IT READS IS OF BULK AT MOST 1048576: true; the input reads as it did. -/
def interpSortsUptoRow : OpenClaim := { program := "ytjogacjoakonpaa", sum := "a080c4216900f2562306cdd065f7d2030e48931ed547c477ca04fd12838efbc2", func := "fulling/fullinglaw6.InterpSorts", spec := "interpSorts", unfollowed := true, recurses := true, apart := false, narrowed := true }
def InterpSortsUptoSaid : Prop := interpSortsUptoRow.holds Try.pinned (OpenSpec.upto interpSortsSpec)

/-- 'fullinglaw6.InterpLaziness', WHERE WHAT IT READS IS OF BULK AT MOST 1048576: true; the input reads as it did. -/
def interpLazinessUptoRow : OpenClaim := { program := "ytjogacjoakonpaa", sum := "a080c4216900f2562306cdd065f7d2030e48931ed547c477ca04fd12838efbc2", func := "fulling/fullinglaw6.InterpLaziness", spec := "interpLaziness", unfollowed := true, recurses := true, apart := false, narrowed := true }
def InterpLazinessUptoSaid : Prop := interpLazinessUptoRow.holds Try.pinned (OpenSpec.upto interpLazinessSpec)

/-- 'fullinglaw6.InterpCalls', WHERE WHAT IT READS IS OF BULK AT MOST 1048576: true; the input reads as it did. -/
def interpCallsUptoRow : OpenClaim := { program := "ytjogacjoakonpaa", sum := "a080c4216900f2562306cdd065f7d2030e48931ed547c477ca04fd12838efbc2", func := "fulling/fullinglaw6.InterpCalls", spec := "interpCalls", unfollowed := true, recurses := true, apart := false, narrowed := true }
def InterpCallsUptoSaid : Prop := interpCallsUptoRow.holds Try.pinned (OpenSpec.upto interpCallsSpec)

/-- 'fullinglaw6.InterpTraps', WHERE WHAT IT READS IS OF BULK AT MOST 1048576: true; the input reads as it did. -/
def interpTrapsUptoRow : OpenClaim := { program := "ytjogacjoakonpaa", sum := "a080c4216900f2562306cdd065f7d2030e48931ed547c477ca04fd12838efbc2", func := "fulling/fullinglaw6.InterpTraps", spec := "interpTraps", unfollowed := true, recurses := true, apart := false, narrowed := true }
def InterpTrapsUptoSaid : Prop := interpTrapsUptoRow.holds Try.pinned (OpenSpec.upto interpTrapsSpec)

/-- 'fullinglaw7.IRExamples', WHERE WHAT IT READS IS OF BULK AT MOST 1048576: true; the input reads as it did. -/
def iRExamplesUptoRow : OpenClaim := { program := "ytjogacjoakonpaa", sum := "a080c4216900f2562306cdd065f7d2030e48931ed547c477ca04fd12838efbc2", func := "fulling/fullinglaw7.IRExamples", spec := "iRExamples", unfollowed := true, recurses := true, apart := false, narrowed := true }
def IRExamplesUptoSaid : Prop := iRExamplesUptoRow.holds Try.pinned (OpenSpec.upto iRExamplesSpec)

/-- 'fullinglaw7.IRLoops', WHERE WHAT IT READS IS OF BULK AT MOST 1048576: true; the input reads as it did. -/
def iRLoopsUptoRow : OpenClaim := { program := "ytjogacjoakonpaa", sum := "a080c4216900f2562306cdd065f7d2030e48931ed547c477ca04fd12838efbc2", func := "fulling/fullinglaw7.IRLoops", spec := "iRLoops", unfollowed := true, recurses := true, apart := false, narrowed := true }
def IRLoopsUptoSaid : Prop := iRLoopsUptoRow.holds Try.pinned (OpenSpec.upto iRLoopsSpec)

end Rows
end Go.Proofs.Ytjogacjoakonpaa
