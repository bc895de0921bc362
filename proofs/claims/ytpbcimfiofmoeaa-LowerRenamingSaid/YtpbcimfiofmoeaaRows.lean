/-
  No cell of these rows narrows 'for every input' (looked for: loops, veiled, ifaces, maps, wideKeys, modest, calm, conditions, laid).
  DERIVED. THE GIVEN ROWS OF THIS SEAT. 6 by the template 'for every input the law returns true; each argument reads behind the call as it read before'; 0 by the template 'total and deterministic' (their statements: YtpbcimfiofmoeaaTotals.lean).
  GIVEN WITH THE SEED: the statements are not yours to turn. If you find one false, say at which input.
  Laid BY PROGRAM, IN A SANDBOX (cutbox-rows.mjs): the forced cells as the released guide's own fill.sh prints them over the translation 6377b41a8b041bc5… (all of the seat's roots in one cut). By AI agents, Wed Nov 11 2026. No macro, syntax, notation, axiom, sorry.
-/
import Derived.Test.YtpbcimfiofmoeaaChecked
import GoSem.Claim
import GoSem.ClaimJoined
import GoSem.ClaimMapViews
import Derived.JoinedTies
import Derived.KernelRfl
namespace Go.Proofs.Ytpbcimfiofmoeaa
/- THE CELL 'sum', in the pinned program and in every row, IS THE sha256 OF THE DUMP (.gsa) THAT YtpbcimfiofmoeaaProg.lean LOADS. Nothing in Lean hashes anything: it is a label: what it is worth is what the hold of that sum in a sandbox is worth. -/
noncomputable def Try.pinned : Pinned := { name := "ytpbcimfiofmoeaa", sum := "6377b41a8b041bc5dcf0d0a8c94294bd41c55b131fcf4478fb86a55b6324e2d9", checked := Try.checked }
namespace Rows
def none {H : Type} : Left H := { results := [], args := [] }

/-- 'fullinglaw7.IRLoops': WHATEVER THE INPUT: true; the input reads as it did. -/
def iRLoopsSpec : ChangeSpec := { name := "iRLoops", fn := fun _ => fun
  | [d1, d2, d3] => { results := [.lit (.bool true)], args := [d1, d2, d3] }
  | _ => none }
def iRLoopsRow : OpenClaim := { program := "ytpbcimfiofmoeaa", sum := "6377b41a8b041bc5dcf0d0a8c94294bd41c55b131fcf4478fb86a55b6324e2d9", func := "fulling/fullinglaw7.IRLoops", spec := "iRLoops", unfollowed := true, recurses := true, apart := false }
def IRLoopsSaid : Prop := iRLoopsRow.holds Try.pinned (OpenSpec.ofChange iRLoopsSpec)

/-- ITS FALSE NEIGHBOUR: 'it returns false'. Refute it at one input. -/
def iRLoopsWrong : ChangeSpec := { name := "iRLoops", fn := fun _ => fun
  | [d1, d2, d3] => { results := [.lit (.bool false)], args := [d1, d2, d3] }
  | _ => none }
def IRLoopsWrongFalsely : Prop := iRLoopsRow.holds Try.pinned (OpenSpec.ofChange iRLoopsWrong)

/-- 'fullinglaw7.IRValidParts': WHATEVER THE INPUT: true; the input reads as it did. -/
def iRValidPartsSpec : ChangeSpec := { name := "iRValidParts", fn := fun _ => fun
  | [d1, d2, d3] => { results := [.lit (.bool true)], args := [d1, d2, d3] }
  | _ => none }
def iRValidPartsRow : OpenClaim := { program := "ytpbcimfiofmoeaa", sum := "6377b41a8b041bc5dcf0d0a8c94294bd41c55b131fcf4478fb86a55b6324e2d9", func := "fulling/fullinglaw7.IRValidParts", spec := "iRValidParts", unfollowed := true, recurses := true, apart := false }
def IRValidPartsSaid : Prop := iRValidPartsRow.holds Try.pinned (OpenSpec.ofChange iRValidPartsSpec)

/-- ITS FALSE NEIGHBOUR: 'it returns false'. Refute it at one input. -/
def iRValidPartsWrong : ChangeSpec := { name := "iRValidParts", fn := fun _ => fun
  | [d1, d2, d3] => { results := [.lit (.bool false)], args := [d1, d2, d3] }
  | _ => none }
def IRValidPartsWrongFalsely : Prop := iRValidPartsRow.holds Try.pinned (OpenSpec.ofChange iRValidPartsWrong)

/-- 'fullinglaw8.LowerShares': WHATEVER THE INPUT: true; the input reads as it did. -/
def lowerSharesSpec : ChangeSpec := { name := "lowerShares", fn := fun _ => fun
  | [d] => { results := [.lit (.bool true)], args := [d] }
  | _ => none }
def lowerSharesRow : OpenClaim := { program := "ytpbcimfiofmoeaa", sum := "6377b41a8b041bc5dcf0d0a8c94294bd41c55b131fcf4478fb86a55b6324e2d9", func := "fulling/fullinglaw8.LowerShares", spec := "lowerShares", unfollowed := true, recurses := true, apart := false }
def LowerSharesSaid : Prop := lowerSharesRow.holds Try.pinned (OpenSpec.ofChange lowerSharesSpec)

/-- ITS FALSE NEIGHBOUR: 'it returns false'. Refute it at one input. -/
def lowerSharesWrong : ChangeSpec := { name := "lowerShares", fn := fun _ => fun
  | [d] => { results := [.lit (.bool false)], args := [d] }
  | _ => none }
def LowerSharesWrongFalsely : Prop := lowerSharesRow.holds Try.pinned (OpenSpec.ofChange lowerSharesWrong)

/-- 'fullinglaw8.LowerRenaming': WHATEVER THE INPUT: true; the input reads as it did. -/
def lowerRenamingSpec : ChangeSpec := { name := "lowerRenaming", fn := fun _ => fun
  | [d1, d2] => { results := [.lit (.bool true)], args := [d1, d2] }
  | _ => none }
def lowerRenamingRow : OpenClaim := { program := "ytpbcimfiofmoeaa", sum := "6377b41a8b041bc5dcf0d0a8c94294bd41c55b131fcf4478fb86a55b6324e2d9", func := "fulling/fullinglaw8.LowerRenaming", spec := "lowerRenaming", unfollowed := true, recurses := true, apart := false }
def LowerRenamingSaid : Prop := lowerRenamingRow.holds Try.pinned (OpenSpec.ofChange lowerRenamingSpec)

/-- ITS FALSE NEIGHBOUR: 'it returns false'. Refute it at one input. -/
def lowerRenamingWrong : ChangeSpec := { name := "lowerRenaming", fn := fun _ => fun
  | [d1, d2] => { results := [.lit (.bool false)], args := [d1, d2] }
  | _ => none }
def LowerRenamingWrongFalsely : Prop := lowerRenamingRow.holds Try.pinned (OpenSpec.ofChange lowerRenamingWrong)

/-- 'fullinglaw8.LowerGuards': WHATEVER THE INPUT: true; the input reads as it did. -/
def lowerGuardsSpec : ChangeSpec := { name := "lowerGuards", fn := fun _ => fun
  | [d1, d2] => { results := [.lit (.bool true)], args := [d1, d2] }
  | _ => none }
def lowerGuardsRow : OpenClaim := { program := "ytpbcimfiofmoeaa", sum := "6377b41a8b041bc5dcf0d0a8c94294bd41c55b131fcf4478fb86a55b6324e2d9", func := "fulling/fullinglaw8.LowerGuards", spec := "lowerGuards", unfollowed := true, recurses := true, apart := false }
def LowerGuardsSaid : Prop := lowerGuardsRow.holds Try.pinned (OpenSpec.ofChange lowerGuardsSpec)

/-- ITS FALSE NEIGHBOUR: 'it returns false'. Refute it at one input. -/
def lowerGuardsWrong : ChangeSpec := { name := "lowerGuards", fn := fun _ => fun
  | [d1, d2] => { results := [.lit (.bool false)], args := [d1, d2] }
  | _ => none }
def LowerGuardsWrongFalsely : Prop := lowerGuardsRow.holds Try.pinned (OpenSpec.ofChange lowerGuardsWrong)

/-- 'fullinglaw8.LowerStateChain': WHATEVER THE INPUT: true; the input reads as it did. -/
def lowerStateChainSpec : ChangeSpec := { name := "lowerStateChain", fn := fun _ => fun
  | [d] => { results := [.lit (.bool true)], args := [d] }
  | _ => none }
def lowerStateChainRow : OpenClaim := { program := "ytpbcimfiofmoeaa", sum := "6377b41a8b041bc5dcf0d0a8c94294bd41c55b131fcf4478fb86a55b6324e2d9", func := "fulling/fullinglaw8.LowerStateChain", spec := "lowerStateChain", unfollowed := true, recurses := true, apart := false }
def LowerStateChainSaid : Prop := lowerStateChainRow.holds Try.pinned (OpenSpec.ofChange lowerStateChainSpec)

/-- ITS FALSE NEIGHBOUR: 'it returns false'. Refute it at one input. -/
def lowerStateChainWrong : ChangeSpec := { name := "lowerStateChain", fn := fun _ => fun
  | [d] => { results := [.lit (.bool false)], args := [d] }
  | _ => none }
def LowerStateChainWrongFalsely : Prop := lowerStateChainRow.holds Try.pinned (OpenSpec.ofChange lowerStateChainWrong)

/- THE SECOND FORM. 'bulk': how many values and letters a reading holds, each counted each time it is reached (what is shared counts as often as it is met; a slice's spare places count too). A statement '..UptoSaid' is the law's where the arguments, and the package variables that the reading takes, are together of bulk at most 1048576: NARROWER than '..Said'. Prove '..Said' where nothing that the law and all that it calls make is longer than what came in: it says more and counts as full. Else prove '..UptoSaid'. A law counts once. -/
mutual
def uptoBulk {H : Type} : DataW H → Nat
  | .lit (.string bytes) => bytes.length + 1
  | .lit _ => 1
  | .nil => 1
  | .ptr d => uptoBulk d + 1
  | .slice elems spare => uptoBulkAll elems + uptoBulkAll spare + 1
  | .agg parts => uptoBulkAll parts + 1
  | .iface _ d => uptoBulk d + 1
  | .map entries => uptoBulkEntries entries + 1
  | .held _ => 1
def uptoBulkAll {H : Type} : List (DataW H) → Nat
  | [] => 0
  | d :: r => uptoBulk d + uptoBulkAll r
def uptoBulkEntries {H : Type} : List (Lit × DataW H) → Nat
  | [] => 0
  | x :: r => uptoBulkEntry x + uptoBulkEntries r
def uptoBulkEntry {H : Type} : Lit × DataW H → Nat
  | (.string bytes, d) => bytes.length + uptoBulk d + 1
  | (_, d) => uptoBulk d + 1
 end
def uptoSmall : (H : Type) → List (DataW H) → Bool := fun _ ds => decide (uptoBulkAll ds ≤ 1048576)
def OpenSpec.upto (s : _root_.Go.ChangeSpec) : _root_.Go.OpenSpec := { _root_.Go.OpenSpec.ofChange s with cond := some uptoSmall }

/-- 'fullinglaw7.IRLoops', WHERE WHAT IT READS IS OF BULK AT MOST 1048576: true; the input reads as it did. -/
def iRLoopsUptoRow : OpenClaim := { program := "ytpbcimfiofmoeaa", sum := "6377b41a8b041bc5dcf0d0a8c94294bd41c55b131fcf4478fb86a55b6324e2d9", func := "fulling/fullinglaw7.IRLoops", spec := "iRLoops", unfollowed := true, recurses := true, apart := false, narrowed := true }
def IRLoopsUptoSaid : Prop := iRLoopsUptoRow.holds Try.pinned (OpenSpec.upto iRLoopsSpec)

/-- 'fullinglaw7.IRValidParts', WHERE WHAT IT READS IS OF BULK AT MOST 1048576: true; the input reads as it did. -/
def iRValidPartsUptoRow : OpenClaim := { program := "ytpbcimfiofmoeaa", sum := "6377b41a8b041bc5dcf0d0a8c94294bd41c55b131fcf4478fb86a55b6324e2d9", func := "fulling/fullinglaw7.IRValidParts", spec := "iRValidParts", unfollowed := true, recurses := true, apart := false, narrowed := true }
def IRValidPartsUptoSaid : Prop := iRValidPartsUptoRow.holds Try.pinned (OpenSpec.upto iRValidPartsSpec)

/-- 'fullinglaw8.LowerShares', WHERE WHAT IT READS IS OF BULK AT MOST 1048576: true; the input reads as it did. -/
def lowerSharesUptoRow : OpenClaim := { program := "ytpbcimfiofmoeaa", sum := "6377b41a8b041bc5dcf0d0a8c94294bd41c55b131fcf4478fb86a55b6324e2d9", func := "fulling/fullinglaw8.LowerShares", spec := "lowerShares", unfollowed := true, recurses := true, apart := false, narrowed := true }
def LowerSharesUptoSaid : Prop := lowerSharesUptoRow.holds Try.pinned (OpenSpec.upto lowerSharesSpec)

/-- 'fullinglaw8.LowerRenaming', WHERE WHAT IT READS IS OF BULK AT MOST 1048576: true; the input reads as it did. -/
def lowerRenamingUptoRow : OpenClaim := { program := "ytpbcimfiofmoeaa", sum := "6377b41a8b041bc5dcf0d0a8c94294bd41c55b131fcf4478fb86a55b6324e2d9", func := "fulling/fullinglaw8.LowerRenaming", spec := "lowerRenaming", unfollowed := true, recurses := true, apart := false, narrowed := true }
def LowerRenamingUptoSaid : Prop := lowerRenamingUptoRow.holds Try.pinned (OpenSpec.upto lowerRenamingSpec)

/-- 'fullinglaw8.LowerGuards', WHERE WHAT IT READS IS OF BULK AT MOST 1048576: true; the input reads as it did. -/
def lowerGuardsUptoRow : OpenClaim := { program := "ytpbcimfiofmoeaa", sum := "6377b41a8b041bc5dcf0d0a8c94294bd41c55b131fcf4478fb86a55b6324e2d9", func := "fulling/fullinglaw8.LowerGuards", spec := "lowerGuards", unfollowed := true, recurses := true, apart := false, narrowed := true }
def LowerGuardsUptoSaid : Prop := lowerGuardsUptoRow.holds Try.pinned (OpenSpec.upto lowerGuardsSpec)

/-- 'fullinglaw8.LowerStateChain', WHERE WHAT IT READS IS OF BULK AT MOST 1048576: true; the input reads as it did. -/
def lowerStateChainUptoRow : OpenClaim := { program := "ytpbcimfiofmoeaa", sum := "6377b41a8b041bc5dcf0d0a8c94294bd41c55b131fcf4478fb86a55b6324e2d9", func := "fulling/fullinglaw8.LowerStateChain", spec := "lowerStateChain", unfollowed := true, recurses := true, apart := false, narrowed := true }
def LowerStateChainUptoSaid : Prop := lowerStateChainUptoRow.holds Try.pinned (OpenSpec.upto lowerStateChainSpec)

end Rows
end Go.Proofs.Ytpbcimfiofmoeaa
