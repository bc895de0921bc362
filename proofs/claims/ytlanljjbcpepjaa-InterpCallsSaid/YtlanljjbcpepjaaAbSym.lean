/- Runs with unknown numbers: comparisons decided by a list of facts. -/
import Derived.Test.YtlanljjbcpepjaaAbLaw
namespace Go.Ab
open Go

def relI : BinOp → Int → Int → Option Bool
  | .eql, a, b => some (a == b)
  | .neq, a, b => some (a != b)
  | .lss, a, b => some (decide (a < b))
  | .leq, a, b => some (decide (a ≤ b))
  | .gtr, a, b => some (decide (a > b))
  | .geq, a, b => some (decide (a ≥ b))
  | _, _, _ => none

theorem relI_op {op : BinOp} {a b : Int} {r : Bool} (h : relI op a b = some r) (k : IntKind) : intOpA op k a b = some (.bool r) := by
  cases op <;> simp only [relI, reduceCtorEq, Option.some.injEq] at h <;> subst h <;> rfl

def isEql : BinOp → Bool
  | .eql => true
  | _ => false

/-- One fact: the comparison 'op a b' comes to r. -/
structure Fact where
  op : BinOp
  a : Sx
  b : Sx
  r : Bool

def decL : List Fact → BinOp → Sx → Sx → Option Bool
  | [], op, a, b => match isEql op && Sx.beq a b with
    | true => some true
    | false => none
  | p :: l, op, a, b => match decide (p.op = op) && Sx.beq p.a a && Sx.beq p.b b with
    | true => some p.r
    | false => decL l op a b

def FactsOk (ρ : Nat → Int) (l : List Fact) : Prop := ∀ p ∈ l, relI p.op (p.a.eval ρ) (p.b.eval ρ) = some p.r

theorem factsOk_nil (ρ : Nat → Int) : FactsOk ρ [] := by simp [FactsOk]
theorem factsOk_cons {ρ : Nat → Int} {p : Fact} {l : List Fact} (h : relI p.op (p.a.eval ρ) (p.b.eval ρ) = some p.r) (hl : FactsOk ρ l) : FactsOk ρ (p :: l) := by
  intro q hq
  rcases List.mem_cons.1 hq with rfl | hq
  · exact h
  · exact hl q hq

theorem decL_ok {ρ : Nat → Int} : ∀ {l : List Fact}, FactsOk ρ l → DecOk (decL l) ρ
  | [], _, op, k, a, b, r, h => by
    simp only [decL] at h
    split at h
    · rename_i hb
      simp only [Option.some.injEq] at h; subst h
      rw [Bool.and_eq_true] at hb
      cases op <;> simp only [isEql, Bool.false_eq_true, false_and] at hb
      rw [Sx.beq_eq hb.2]
      simp [intOpA]
    · simp at h
  | p :: l, hf, op, k, a, b, r, h => by
    simp only [decL] at h
    split at h
    · rename_i hb
      simp only [Option.some.injEq] at h; subst h
      simp only [Bool.and_eq_true, decide_eq_true_eq] at hb
      obtain ⟨⟨h1, h2⟩, h3⟩ := hb
      rw [← Sx.beq_eq h2, ← Sx.beq_eq h3, ← h1]
      exact relI_op (hf p List.mem_cons_self) k
    · exact decL_ok (fun q hq => hf q (List.mem_cons_of_mem _ hq)) op k a b r h

def cfgF (fs : List Fact) (pls : List (Nat × Nat × Plan)) (l : List (FuncId × List AV × AV)) : Cfg := { keep := fun _ => false, call := lookK l, ice := fun f => l.any fun p => Nat.beq p.1 f, plan := planK pls, dec := decL fs }

theorem Con.symb {P : Program} (fit : Fit P) {ρ : Nat → Int} {fs : List Fact} {pls : List (Nat × Nat × Plan)} {l : List (FuncId × List AV × AV)} (hl : KOk P ρ l) (hf : FactsOk ρ fs) {n k : Nat} {f : FuncId} {args : List AV}
    (hp : pureArgs k args = true) (h : Res.isTrue (ev P (cfgF fs pls l) n (.call f args H0)) = true) : Con P ρ f args (.bool true) := Con.of_true fit (decL_ok hf) (lookK_ok hl) hp h
theorem Con.symbR {P : Program} (fit : Fit P) {ρ : Nat → Int} {fs : List Fact} {pls : List (Nat × Nat × Plan)} {l : List (FuncId × List AV × AV)} (hl : KOk P ρ l) (hf : FactsOk ρ fs) {n m k : Nat} {f : FuncId} {args : List AV} {r : AV}
    (hp : pureArgs k args = true) (h : isBox P (cfgF fs pls l) n m f args r = true) : Con P ρ f args r := Con.of_box fit (decL_ok hf) (lookK_ok hl) hp h
theorem KOk.append {P : Program} {ρ : Nat → Int} : ∀ {a b : List (FuncId × List AV × AV)}, KOk P ρ a → KOk P ρ b → KOk P ρ (a ++ b)
  | [], _, _, hb => hb
  | _ :: _, _, ha, hb => ⟨ha.1, KOk.append ha.2 hb⟩
end Go.Ab
