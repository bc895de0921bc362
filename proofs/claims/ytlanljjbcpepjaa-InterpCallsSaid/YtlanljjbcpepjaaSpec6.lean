/- Words, and what a program does: on plain data. -/
import Derived.Test.YtlanljjbcpepjaaSpec4
namespace Go.Ab
set_option linter.unusedVariables false
open Go

def byI (b : Int) : Int := IntKind.wrap .u64 (IntKind.wrap .i64 (BitVec.ofInt (IntKind.bits .i64) b &&& BitVec.ofInt (IntKind.bits .i64) 63).toNat)
def shlI (k : IntKind) (a b : Int) : Int := k.wrap (a * 2 ^ min b.toNat k.bits)
def shrI (k : IntKind) (a b : Int) : Int := a.fdiv (2 ^ min b.toNat k.bits)
def quoI (a b : Int) : Int := if b = 0 then 0 else if b = -1 then w64 (0 - a) else w64 (a.tdiv b)
def truI (b : Bool) : Int := if b = true then 1 else 0
def cmpI (op a b : Int) : Int :=
  if op = 12 then shlI .i64 a (byI b) else if op = 13 then IntKind.wrap .i64 (shrI .u64 (IntKind.wrap .u64 a) (byI b)) else if op = 14 then shrI .i64 a (byI b)
  else if op = 15 then truI (decide (a = b)) else if op = 16 then truI (!decide (a = b)) else if op = 17 then truI (decide (a < b)) else if op = 18 then truI (decide (a ≤ b))
  else if op = 19 then truI (decide (IntKind.wrap .u64 a < IntKind.wrap .u64 b)) else 0
def binI (op a b : Int) : Int :=
  if op = 4 then w64 (a + b) else if op = 5 then w64 (a - b) else if op = 6 then w64 (a * b) else if op = 7 then quoI a b else if op = 8 then (if b = 0 then 0 else w64 (a - w64 (quoI a b * b)))
  else if op = 9 then IntKind.wrap .i64 (BitVec.ofInt (IntKind.bits .i64) a &&& BitVec.ofInt (IntKind.bits .i64) b).toNat
  else if op = 10 then IntKind.wrap .i64 (BitVec.ofInt (IntKind.bits .i64) a ||| BitVec.ofInt (IntKind.bits .i64) b).toNat
  else if op = 11 then IntKind.wrap .i64 (BitVec.ofInt (IntKind.bits .i64) a ^^^ BitVec.ofInt (IntKind.bits .i64) b).toNat
  else cmpI op a b
def unI (op a : Int) : Int := if op = 20 then w64 (0 - a) else if op = 21 then IntKind.wrap .i64 (BitVec.ofInt (IntKind.bits .i64) (-1) ^^^ BitVec.ofInt (IntKind.bits .i64) a).toNat else 0

theorem un_xor {a : Int} : unA .xor (.int .i64 a) = some (.int .i64 (IntKind.wrap .i64 (BitVec.ofInt (IntKind.bits .i64) (-1) ^^^ BitVec.ofInt (IntKind.bits .i64) a).toNat)) := rfl
theorem wrapU_nonneg (n : Int) : 0 ≤ IntKind.wrap .u64 n := by
  unfold IntKind.wrap
  simp only [IntKind.signed, Bool.false_and, Bool.false_eq_true, if_false]
  exact Int.emod_nonneg _ (by simp [IntKind.bits])
theorem byI_nonneg (b : Int) : 0 ≤ byI b := wrapU_nonneg _
theorem bin_shl {P : Program} {D : BinOp → Sx → Sx → Option Bool} {t : TypeId} {k k' : IntKind} {a b : Int} (hb : 0 ≤ b) : binA P D .shl t (.int k a) (.int k' b) = some (.int k (shlI k a b)) := by
  obtain ⟨m, rfl⟩ := Int.eq_ofNat_of_zero_le hb
  simp only [binA, intsA]
  show shiftA .shl k a (Int.ofNat m) = _
  simp [shiftA, shlI]
theorem bin_shr {P : Program} {D : BinOp → Sx → Sx → Option Bool} {t : TypeId} {k k' : IntKind} {a b : Int} (hb : 0 ≤ b) : binA P D .shr t (.int k a) (.int k' b) = some (.int k (shrI k a b)) := by
  obtain ⟨m, rfl⟩ := Int.eq_ofNat_of_zero_le hb
  simp only [binA, intsA]
  show shiftA .shr k a (Int.ofNat m) = _
  simp [shiftA, shrI]
end Go.Ab
