/-
  No cell of these rows narrows 'for every input' (looked for: loops, veiled, ifaces, maps, wideKeys, modest, calm, conditions, laid).
  DERIVED. THE GIVEN ROWS OF THIS SEAT. 3 by the template 'for every input the law returns true; each argument reads behind the call as it read before'; 0 by the template 'total and deterministic' (their statements: YtbflaciihaijgaaTotals.lean).
  GIVEN WITH THE SEED: the statements are not yours to turn. If you find one false, say at which input.
  Laid BY PROGRAM, IN A SANDBOX (cutbox-rows.mjs): the forced cells as the released guide's own fill.sh prints them over the translation 29789ca4b79cf8b0… (all of the seat's roots in one cut). By AI agents, Wed Nov 11 2026. No macro, syntax, notation, axiom, sorry.
-/
import Derived.Test.YtbflaciihaijgaaChecked
import GoSem.Claim
import GoSem.ClaimJoined
import GoSem.ClaimMapViews
import Derived.JoinedTies
import Derived.KernelRfl
namespace Go.Proofs.Ytbflaciihaijgaa
/- THE CELL 'sum', in the pinned program and in every row, IS THE sha256 OF THE DUMP (.gsa) THAT YtbflaciihaijgaaProg.lean LOADS. Nothing in Lean hashes anything: it is a label: what it is worth is what the hold of that sum in a sandbox is worth. -/
noncomputable def Try.pinned : Pinned := { name := "ytbflaciihaijgaa", sum := "29789ca4b79cf8b0ac1302a65593c6f60f5d3a791f6169e40d2cd90e67f32ee9", checked := Try.checked }
namespace Rows
def none {H : Type} : Left H := { results := [], args := [] }

/-- 'fullinglaw7.IRValidParts': WHATEVER THE INPUT: true; the input reads as it did. -/
def iRValidPartsSpec : ChangeSpec := { name := "iRValidParts", fn := fun _ => fun
  | [d1, d2, d3] => { results := [.lit (.bool true)], args := [d1, d2, d3] }
  | _ => none }
def iRValidPartsRow : OpenClaim := { program := "ytbflaciihaijgaa", sum := "29789ca4b79cf8b0ac1302a65593c6f60f5d3a791f6169e40d2cd90e67f32ee9", func := "fulling/fullinglaw7.IRValidParts", spec := "iRValidParts", unfollowed := true, recurses := true, apart := false }
def IRValidPartsSaid : Prop := iRValidPartsRow.holds Try.pinned (OpenSpec.ofChange iRValidPartsSpec)

/-- ITS FALSE NEIGHBOUR: 'it returns false'. Refute it at one input. -/
def iRValidPartsWrong : ChangeSpec := { name := "iRValidParts", fn := fun _ => fun
  | [d1, d2, d3] => { results := [.lit (.bool false)], args := [d1, d2, d3] }
  | _ => none }
def IRValidPartsWrongFalsely : Prop := iRValidPartsRow.holds Try.pinned (OpenSpec.ofChange iRValidPartsWrong)

/-- 'fullinglaw8.LowerGuards': WHATEVER THE INPUT: true; the input reads as it did. -/
def lowerGuardsSpec : ChangeSpec := { name := "lowerGuards", fn := fun _ => fun
  | [d1, d2] => { results := [.lit (.bool true)], args := [d1, d2] }
  | _ => none }
def lowerGuardsRow : OpenClaim := { program := "ytbflaciihaijgaa", sum := "29789ca4b79cf8b0ac1302a65593c6f60f5d3a791f6169e40d2cd90e67f32ee9", func := "fulling/fullinglaw8.LowerGuards", spec := "lowerGuards", unfollowed := true, recurses := true, apart := false }
def LowerGuardsSaid : Prop := lowerGuardsRow.holds Try.pinned (OpenSpec.ofChange lowerGuardsSpec)

/-- ITS FALSE NEIGHBOUR: 'it returns false'. Refute it at one input. -/
def lowerGuardsWrong : ChangeSpec := { name := "lowerGuards", fn := fun _ => fun
  | [d1, d2] => { results := [.lit (.bool false)], args := [d1, d2] }
  | _ => none }
def LowerGuardsWrongFalsely : Prop := lowerGuardsRow.holds Try.pinned (OpenSpec.ofChange lowerGuardsWrong)

/-- 'fullinglaw6.InterpSorts': WHATEVER THE INPUT: true; the input reads as it did. -/
def interpSortsSpec : ChangeSpec := { name := "interpSorts", fn := fun _ => fun
  | [d1, d2, d3] => { results := [.lit (.bool true)], args := [d1, d2, d3] }
  | _ => none }
def interpSortsRow : OpenClaim := { program := "ytbflaciihaijgaa", sum := "29789ca4b79cf8b0ac1302a65593c6f60f5d3a791f6169e40d2cd90e67f32ee9", func := "fulling/fullinglaw6.InterpSorts", spec := "interpSorts", unfollowed := true, recurses := true, apart := false }
def InterpSortsSaid : Prop := interpSortsRow.holds Try.pinned (OpenSpec.ofChange interpSortsSpec)

/-- ITS FALSE NEIGHBOUR: 'it returns false'. Refute it at one input. -/
def interpSortsWrong : ChangeSpec := { name := "interpSorts", fn := fun _ => fun
  | [d1, d2, d3] => { results := [.lit (.bool false)], args := [d1, d2, d3] }
  | _ => none }
def InterpSortsWrongFalsely : Prop := interpSortsRow.holds Try.pinned (OpenSpec.ofChange interpSortsWrong)

/- THE SECOND FORM. 'bulk': how many values and letters a reading holds, each counted each time it is reached (what is shared counts as often as it is met; a slice's spare places count too). A statement '..UptoSaid' is the law's where the arguments, and the package variables that the reading takes, are together of bulk at most 1048576: NARROWER than '..Said'. Prove '..Said' where nothing that the law and all that it calls make is longer than what came in: it says more and counts as full. Else prove '..UptoSaid'. A law counts once. -/
mutual
def uptoBulk {H : Type} : DataW H → Nat
  | .lit (.string bytes) => bytes.length + 1
  | .lit _ => 1
  | .nil => 1
  | .ptr d => uptoBulk d + 1
  | .slice elems spare => uptoBulkAll elems + uptoBulkAll spare + 1
  | .agg parts => uptoBulkAll parts + 1
  | .iface _ d => uptoBulk d + 1
  | .map entries => uptoBulkEntries entries + 1
  | .held _ => 1
def uptoBulkAll {H : Type} : List (DataW H) → Nat
  | [] => 0
  | d :: r => uptoBulk d + uptoBulkAll r
def uptoBulkEntries {H : Type} : List (Lit × DataW H) → Nat
  | [] => 0
  | x :: r => uptoBulkEntry x + uptoBulkEntries r
def uptoBulkEntry {H : Type} : Lit × DataW H → Nat
  | (.string bytes, d) => bytes.length + uptoBulk d + 1
  | (_, d) => uptoBulk d + 1
 end
def uptoSmall : (H : Type) → List (DataW H) → Bool := fun _ ds => decide (uptoBulkAll ds ≤ 1048576)
def OpenSpec.upto (s : _root_.Go.ChangeSpec) : _root_.Go.OpenSpec := { _root_.Go.OpenSpec.ofChange s with cond := some uptoSmall }

/-- 'fullinglaw7.IRValidParts', WHERE WHAT IT READS IS OF BULK AT MOST 1048576: true; the input reads as it did. -/
def iRValidPartsUptoRow : OpenClaim := { program := "ytbflaciihaijgaa", sum := "29789ca4b79cf8b0ac1302a65593c6f60f5d3a791f6169e40d2cd90e67f32ee9", func := "fulling/fullinglaw7.IRValidParts", spec := "iRValidParts", unfollowed := true, recurses := true, apart := false, narrowed := true }
def IRValidPartsUptoSaid : Prop := iRValidPartsUptoRow.holds Try.pinned (OpenSpec.upto iRValidPartsSpec)

/-- 'fullinglaw8.LowerGuards', WHERE WHAT IT READS IS OF BULK AT MOST 1048576: true; the input reads as it did. -/
def lowerGuardsUptoRow : OpenClaim := { program := "ytbflaciihaijgaa", sum := "29789ca4b79cf8b0ac1302a65593c6f60f5d3a791f6169e40d2cd90e67f32ee9", func := "fulling/fullinglaw8.LowerGuards", spec := "lowerGuards", unfollowed := true, recurses := true, apart := false, narrowed := true }
def LowerGuardsUptoSaid : Prop := lowerGuardsUptoRow.holds Try.pinned (OpenSpec.upto lowerGuardsSpec)

/-- 'fullinglaw6.InterpSorts', WHERE WHAT IT READS IS OF BULK AT MOST 1048576: true; the input reads as it did. -/
def interpSortsUptoRow : OpenClaim := { program := "ytbflaciihaijgaa", sum := "29789ca4b79cf8b0ac1302a65593c6f60f5d3a791f6169e40d2cd90e67f32ee9", func := "fulling/fullinglaw6.InterpSorts", spec := "interpSorts", unfollowed := true, recurses := true, apart := false, narrowed := true }
def InterpSortsUptoSaid : Prop := interpSortsUptoRow.holds Try.pinned (OpenSpec.upto interpSortsSpec)

end Rows
end Go.Proofs.Ytbflaciihaijgaa
