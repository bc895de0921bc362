/-
  NARROWER THAN 'FOR EVERY INPUT', by the rows' own cells (each row's printed sentence says how): LowerReference: loops · InterpReference: loops.
  DERIVED. THE GIVEN ROWS OF THIS SEAT. 6 by the template 'for every input the law returns true; each argument reads behind the call as it read before'; 0 by the template 'total and deterministic' (their statements: YtpbcimfiofmoeaaGreatTotals.lean).
  GIVEN WITH THE SEED: the statements are not yours to turn. If you find one false, say at which input.
  Laid BY PROGRAM, IN A SANDBOX (cutbox-rows.mjs): the forced cells as the released guide's own fill.sh prints them over the translation 4da6984fefe17af3… (all of the seat's roots in one cut). By AI agents, Wed Nov 11 2026. No macro, syntax, notation, axiom, sorry.
-/
import Derived.Test.YtpbcimfiofmoeaaGreatChecked
import GoSem.Claim
import GoSem.ClaimJoined
import GoSem.ClaimMapViews
import Derived.JoinedTies
import Derived.KernelRfl
namespace Go.Proofs.YtpbcimfiofmoeaaGreat
/- THE CELL 'sum', in the pinned program and in every row, IS THE sha256 OF THE DUMP (.gsa) THAT YtpbcimfiofmoeaaGreatProg.lean LOADS. Nothing in Lean hashes anything: it is a label: what it is worth is what the hold of that sum in a sandbox is worth. -/
noncomputable def Tryz.pinned : Pinned := { name := "ytpbcimfiofmoeaagreat", sum := "4da6984fefe17af32f1dcac6c7f8a7730601b1d80816037f8a6ccd662b71578c", checked := Tryz.checked }
namespace Rows
def none {H : Type} : Left H := { results := [], args := [] }

/-- 'fullinglaw7.IRReference': WHATEVER THE INPUT: true; the input reads as it did. -/
def iRReferenceSpec : ChangeSpec := { name := "iRReference", fn := fun _ => fun
  | [d1, d2, d3, d4, d5, d6] => { results := [.lit (.bool true)], args := [d1, d2, d3, d4, d5, d6] }
  | _ => none }
def iRReferenceRow : OpenClaim := { program := "ytpbcimfiofmoeaagreat", sum := "4da6984fefe17af32f1dcac6c7f8a7730601b1d80816037f8a6ccd662b71578c", func := "fulling/fullinglaw7.IRReference", spec := "iRReference", unfollowed := true, recurses := true, apart := false }
def IRReferenceSaid : Prop := iRReferenceRow.holds Tryz.pinned (OpenSpec.ofChange iRReferenceSpec)

/-- ITS FALSE NEIGHBOUR: 'it returns false'. Refute it at one input. -/
def iRReferenceWrong : ChangeSpec := { name := "iRReference", fn := fun _ => fun
  | [d1, d2, d3, d4, d5, d6] => { results := [.lit (.bool false)], args := [d1, d2, d3, d4, d5, d6] }
  | _ => none }
def IRReferenceWrongFalsely : Prop := iRReferenceRow.holds Tryz.pinned (OpenSpec.ofChange iRReferenceWrong)

/-- 'fullinglaw7.IRValidReference': WHATEVER THE INPUT: true; the input reads as it did. -/
def iRValidReferenceSpec : ChangeSpec := { name := "iRValidReference", fn := fun _ => fun
  | [d1, d2, d3, d4] => { results := [.lit (.bool true)], args := [d1, d2, d3, d4] }
  | _ => none }
def iRValidReferenceRow : OpenClaim := { program := "ytpbcimfiofmoeaagreat", sum := "4da6984fefe17af32f1dcac6c7f8a7730601b1d80816037f8a6ccd662b71578c", func := "fulling/fullinglaw7.IRValidReference", spec := "iRValidReference", unfollowed := true, recurses := true, apart := false }
def IRValidReferenceSaid : Prop := iRValidReferenceRow.holds Tryz.pinned (OpenSpec.ofChange iRValidReferenceSpec)

/-- ITS FALSE NEIGHBOUR: 'it returns false'. Refute it at one input. -/
def iRValidReferenceWrong : ChangeSpec := { name := "iRValidReference", fn := fun _ => fun
  | [d1, d2, d3, d4] => { results := [.lit (.bool false)], args := [d1, d2, d3, d4] }
  | _ => none }
def IRValidReferenceWrongFalsely : Prop := iRValidReferenceRow.holds Tryz.pinned (OpenSpec.ofChange iRValidReferenceWrong)

/-- 'fullinglaw8.LowerReference': WHATEVER THE INPUT: true; the input reads as it did. -/
def lowerReferenceSpec : ChangeSpec := { name := "lowerReference", fn := fun _ => fun
  | [d1, d2, d3, d4] => { results := [.lit (.bool true)], args := [d1, d2, d3, d4] }
  | _ => none }
def lowerReferenceRow : OpenClaim := { program := "ytpbcimfiofmoeaagreat", sum := "4da6984fefe17af32f1dcac6c7f8a7730601b1d80816037f8a6ccd662b71578c", func := "fulling/fullinglaw8.LowerReference", spec := "lowerReference", unfollowed := true, recurses := true, loops := true, apart := false }
def LowerReferenceSaid : Prop := lowerReferenceRow.holds Tryz.pinned (OpenSpec.ofChange lowerReferenceSpec)

/-- ITS FALSE NEIGHBOUR: 'it returns false'. Refute it at one input. -/
def lowerReferenceWrong : ChangeSpec := { name := "lowerReference", fn := fun _ => fun
  | [d1, d2, d3, d4] => { results := [.lit (.bool false)], args := [d1, d2, d3, d4] }
  | _ => none }
def LowerReferenceWrongFalsely : Prop := lowerReferenceRow.holds Tryz.pinned (OpenSpec.ofChange lowerReferenceWrong)

/-- 'fullinglaw8.LowerLoops': WHATEVER THE INPUT: true; the input reads as it did. -/
def lowerLoopsSpec : ChangeSpec := { name := "lowerLoops", fn := fun _ => fun
  | [d] => { results := [.lit (.bool true)], args := [d] }
  | _ => none }
def lowerLoopsRow : OpenClaim := { program := "ytpbcimfiofmoeaagreat", sum := "4da6984fefe17af32f1dcac6c7f8a7730601b1d80816037f8a6ccd662b71578c", func := "fulling/fullinglaw8.LowerLoops", spec := "lowerLoops", unfollowed := true, recurses := true, apart := false }
def LowerLoopsSaid : Prop := lowerLoopsRow.holds Tryz.pinned (OpenSpec.ofChange lowerLoopsSpec)

/-- ITS FALSE NEIGHBOUR: 'it returns false'. Refute it at one input. -/
def lowerLoopsWrong : ChangeSpec := { name := "lowerLoops", fn := fun _ => fun
  | [d] => { results := [.lit (.bool false)], args := [d] }
  | _ => none }
def LowerLoopsWrongFalsely : Prop := lowerLoopsRow.holds Tryz.pinned (OpenSpec.ofChange lowerLoopsWrong)

/-- 'fullinglaw8.LowerValid': WHATEVER THE INPUT: true; the input reads as it did. -/
def lowerValidSpec : ChangeSpec := { name := "lowerValid", fn := fun _ => fun
  | [d1, d2, d3] => { results := [.lit (.bool true)], args := [d1, d2, d3] }
  | _ => none }
def lowerValidRow : OpenClaim := { program := "ytpbcimfiofmoeaagreat", sum := "4da6984fefe17af32f1dcac6c7f8a7730601b1d80816037f8a6ccd662b71578c", func := "fulling/fullinglaw8.LowerValid", spec := "lowerValid", unfollowed := true, recurses := true, apart := false }
def LowerValidSaid : Prop := lowerValidRow.holds Tryz.pinned (OpenSpec.ofChange lowerValidSpec)

/-- ITS FALSE NEIGHBOUR: 'it returns false'. Refute it at one input. -/
def lowerValidWrong : ChangeSpec := { name := "lowerValid", fn := fun _ => fun
  | [d1, d2, d3] => { results := [.lit (.bool false)], args := [d1, d2, d3] }
  | _ => none }
def LowerValidWrongFalsely : Prop := lowerValidRow.holds Tryz.pinned (OpenSpec.ofChange lowerValidWrong)

/-- 'fullinglaw6.InterpReference': WHATEVER THE INPUT: true; the input reads as it did. -/
def interpReferenceSpec : ChangeSpec := { name := "interpReference", fn := fun _ => fun
  | [d1, d2, d3, d4, d5, d6, d7, d8, d9] => { results := [.lit (.bool true)], args := [d1, d2, d3, d4, d5, d6, d7, d8, d9] }
  | _ => none }
def interpReferenceRow : OpenClaim := { program := "ytpbcimfiofmoeaagreat", sum := "4da6984fefe17af32f1dcac6c7f8a7730601b1d80816037f8a6ccd662b71578c", func := "fulling/fullinglaw6.InterpReference", spec := "interpReference", unfollowed := true, recurses := true, loops := true, apart := false }
def InterpReferenceSaid : Prop := interpReferenceRow.holds Tryz.pinned (OpenSpec.ofChange interpReferenceSpec)

/-- ITS FALSE NEIGHBOUR: 'it returns false'. Refute it at one input. -/
def interpReferenceWrong : ChangeSpec := { name := "interpReference", fn := fun _ => fun
  | [d1, d2, d3, d4, d5, d6, d7, d8, d9] => { results := [.lit (.bool false)], args := [d1, d2, d3, d4, d5, d6, d7, d8, d9] }
  | _ => none }
def InterpReferenceWrongFalsely : Prop := interpReferenceRow.holds Tryz.pinned (OpenSpec.ofChange interpReferenceWrong)

/- THE SECOND FORM. 'bulk': how many values and letters a reading holds, each counted each time it is reached (what is shared counts as often as it is met; a slice's spare places count too). A statement '..UptoSaid' is the law's where the arguments, and the package variables that the reading takes, are together of bulk at most 1048576: NARROWER than '..Said'. Prove '..Said' where nothing that the law and all that it calls make is longer than what came in: it says more and counts as full. Else prove '..UptoSaid'. A law counts once. -/
mutual
def uptoBulk {H : Type} : DataW H → Nat
  | .lit (.string bytes) => bytes.length + 1
  | .lit _ => 1
  | .nil => 1
  | .ptr d => uptoBulk d + 1
  | .slice elems spare => uptoBulkAll elems + uptoBulkAll spare + 1
  | .agg parts => uptoBulkAll parts + 1
  | .iface _ d => uptoBulk d + 1
  | .map entries => uptoBulkEntries entries + 1
  | .held _ => 1
def uptoBulkAll {H : Type} : List (DataW H) → Nat
  | [] => 0
  | d :: r => uptoBulk d + uptoBulkAll r
def uptoBulkEntries {H : Type} : List (Lit × DataW H) → Nat
  | [] => 0
  | x :: r => uptoBulkEntry x + uptoBulkEntries r
def uptoBulkEntry {H : Type} : Lit × DataW H → Nat
  | (.string bytes, d) => bytes.length + uptoBulk d + 1
  | (_, d) => uptoBulk d + 1
 end
def uptoSmall : (H : Type) → List (DataW H) → Bool := fun _ ds => decide (uptoBulkAll ds ≤ 1048576)
def OpenSpec.upto (s : _root_.Go.ChangeSpec) : _root_.Go.OpenSpec := { _root_.Go.OpenSpec.ofChange s with cond := some uptoSmall }

/-- 'fullinglaw7.IRReference', WHERE WHAT IT READS IS OF BULK AT MOST 1048576: true; the input reads as it did. -/
def iRReferenceUptoRow : OpenClaim := { program := "ytpbcimfiofmoeaagreat", sum := "4da6984fefe17af32f1dcac6c7f8a7730601b1d80816037f8a6ccd662b71578c", func := "fulling/fullinglaw7.IRReference", spec := "iRReference", unfollowed := true, recurses := true, apart := false, narrowed := true }
def IRReferenceUptoSaid : Prop := iRReferenceUptoRow.holds Tryz.pinned (OpenSpec.upto iRReferenceSpec)

/-- 'fullinglaw7.IRValidReference', WHERE WHAT IT READS IS OF BULK AT MOST 1048576: true; the input reads as it did. -/
def iRValidReferenceUptoRow : OpenClaim := { program := "ytpbcimfiofmoeaagreat", sum := "4da6984fefe17af32f1dcac6c7f8a7730601b1d80816037f8a6ccd662b71578c", func := "fulling/fullinglaw7.IRValidReference", spec := "iRValidReference", unfollowed := true, recurses := true, apart := false, narrowed := true }
def IRValidReferenceUptoSaid : Prop := iRValidReferenceUptoRow.holds Tryz.pinned (OpenSpec.upto iRValidReferenceSpec)

/-- 'fullinglaw8.LowerReference', WHERE WHAT IT READS IS OF BULK AT MOST 1048576: true; the input reads as it did. -/
def lowerReferenceUptoRow : OpenClaim := { program := "ytpbcimfiofmoeaagreat", sum := "4da6984fefe17af32f1dcac6c7f8a7730601b1d80816037f8a6ccd662b71578c", func := "fulling/fullinglaw8.LowerReference", spec := "lowerReference", unfollowed := true, recurses := true, loops := true, apart := false, narrowed := true }
def LowerReferenceUptoSaid : Prop := lowerReferenceUptoRow.holds Tryz.pinned (OpenSpec.upto lowerReferenceSpec)

/-- 'fullinglaw8.LowerLoops', WHERE WHAT IT READS IS OF BULK AT MOST 1048576: true; the input reads as it did. -/
def lowerLoopsUptoRow : OpenClaim := { program := "ytpbcimfiofmoeaagreat", sum := "4da6984fefe17af32f1dcac6c7f8a7730601b1d80816037f8a6ccd662b71578c", func := "fulling/fullinglaw8.LowerLoops", spec := "lowerLoops", unfollowed := true, recurses := true, apart := false, narrowed := true }
def LowerLoopsUptoSaid : Prop := lowerLoopsUptoRow.holds Tryz.pinned (OpenSpec.upto lowerLoopsSpec)

/-- 'fullinglaw8.LowerValid', WHERE WHAT IT READS IS OF BULK AT MOST 1048576: true; the input reads as it did. -/
def lowerValidUptoRow : OpenClaim := { program := "ytpbcimfiofmoeaagreat", sum := "4da6984fefe17af32f1dcac6c7f8a7730601b1d80816037f8a6ccd662b71578c", func := "fulling/fullinglaw8.LowerValid", spec := "lowerValid", unfollowed := true, recurses := true, apart := false, narrowed := true }
def LowerValidUptoSaid : Prop := lowerValidUptoRow.holds Tryz.pinned (OpenSpec.upto lowerValidSpec)

/-- 'fullinglaw6.InterpReference', WHERE WHAT IT READS IS OF BULK AT MOST 1048576: true; the input reads as it did. -/
def interpReferenceUptoRow : OpenClaim := { program := "ytpbcimfiofmoeaagreat", sum := "4da6984fefe17af32f1dcac6c7f8a7730601b1d80816037f8a6ccd662b71578c", func := "fulling/fullinglaw6.InterpReference", spec := "interpReference", unfollowed := true, recurses := true, loops := true, apart := false, narrowed := true }
def InterpReferenceUptoSaid : Prop := interpReferenceUptoRow.holds Tryz.pinned (OpenSpec.upto interpReferenceSpec)

end Rows
end Go.Proofs.YtpbcimfiofmoeaaGreat
