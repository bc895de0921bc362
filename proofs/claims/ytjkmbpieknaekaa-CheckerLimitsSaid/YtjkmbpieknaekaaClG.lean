/- Parts: Lex, R3a, R3b, R3c, L4a, R3d, R3e, Strs, R3f, R3g, R3h, R3i, R3j, Sem6, Rep6, Rep6b, Rep6c, L4b, AbWk, AbCut, AbIc. -/
import Derived.Test.YtjkmbpieknaekaaClF
set_option linter.unusedSimpArgs false
set_option linter.unusedVariables false
set_option linter.unusedSectionVars false
set_option linter.defProp false
namespace Go.Ab
set_option maxRecDepth 20000
set_option linter.unusedSimpArgs false
set_option linter.unusedVariables false
set_option linter.unusedSectionVars false
open Go
def letterI (n : Int) : Bool := (decide (97 ≤ n) && decide (n ≤ 122)) || (decide (65 ≤ n) && decide (n ≤ 90)) || decide (n = 95)
def digitI (n : Int) : Bool := decide (48 ≤ n) && decide (n ≤ 57)
def wordB (b : UInt8) : Bool := letterI b.toNat || digitI b.toNat
def wordN : List UInt8 → Nat
  | [] => 0
  | b :: s => if wordB b then wordN s + 1 else 0
theorem wordN_le : ∀ s : List UInt8, wordN s ≤ s.length
  | [] => Nat.le_refl _
  | b :: s => by have := wordN_le s; simp only [wordN, List.length_cons]; split <;> omega
/-- The white space and comments ahead. -/
def lineN : List UInt8 → Nat
  | [] => 0
  | b :: s => if b.toNat = 10 then 0 else lineN s + 1
theorem lineN_le : ∀ s : List UInt8, lineN s ≤ s.length
  | [] => Nat.le_refl _
  | b :: s => by have := lineN_le s; simp only [lineN, List.length_cons]; split <;> omega
def blankB (b : UInt8) : Bool := decide (b.toNat = 32) || decide (b.toNat = 9) || decide (b.toNat = 10) || decide (b.toNat = 13)
/-- .. with 'c': within a comment. -/
def spaceN : Bool → List UInt8 → Nat
  | _, [] => 0
  | true, b :: s => if b.toNat = 10 then (if blankB b then spaceN false s + 1 else 0) else spaceN true s + 1
  | false, b :: s => if blankB b then spaceN false s + 1 else if b.toNat = 35 then spaceN true s + 1 else 0
theorem spaceN_true : ∀ s : List UInt8, spaceN true s = lineN s + spaceN false (s.drop (lineN s))
  | [] => rfl
  | b :: s => by
    simp only [spaceN, lineN]
    by_cases h : b.toNat = 10
    · have hb : blankB b = true := by unfold blankB; simp [h]
      simp [h, hb, spaceN]
    · simp only [h, if_false, List.drop_succ_cons, spaceN_true s]; omega
theorem spaceN_le : ∀ (c : Bool) (s : List UInt8), spaceN c s ≤ s.length
  | c, [] => by cases c <;> exact Nat.le_refl _
  | true, b :: s => by have h1 := spaceN_le true s; have h2 := spaceN_le false s; simp only [spaceN, List.length_cons]; split <;> (try split) <;> omega
  | false, b :: s => by have h1 := spaceN_le true s; have h2 := spaceN_le false s; simp only [spaceN, List.length_cons]; split <;> (try split) <;> omega
end Go.Ab
namespace Go.Ab
set_option maxRecDepth 20000
open Go
/-- What 'first' promises. -/
def FirstR (s : List UInt8) (k : Tk) (e : Int) : Prop :=
  k.at_ = 0 ∧ (e = 0 → ∃ n, 1 ≤ n ∧ n ≤ s.length ∧ k.text = s.take n ∧ (k.kind = 1 → n = wordN s ∧ n ≤ 16 ∧ ∀ b, s[0]? = some b → digitI b.toNat = false)) ∧
  (1 ≤ wordN s → wordN s ≤ 16 → (∀ b, s[0]? = some b → digitI b.toNat = false) → e = 0 ∧ k = ⟨1, s.take (wordN s), 0⟩)
end Go.Ab
namespace Go.Ab
set_option maxRecDepth 20000
open Go
def isNm (s : List UInt8) : Prop := 1 ≤ wordN s ∧ wordN s = s.length ∧ s.length ≤ 16 ∧ ∀ b, s[0]? = some b → digitI b.toNat = false
def headR (s : List UInt8) (ts : List Tk) : Prop := ∀ k rest, ts = k :: rest → ∃ k0, FirstR (s.drop (spaceN false s)) k0 0 ∧ k.kind = k0.kind ∧ k.text = k0.text
def TokRep (lo : Nat) (H : Hp) (lv : AV) (ts : List Tk) : Prop := (ts = [] ∧ lv = .nilS) ∨ ∃ r, lv = .sl r 0 ts.length 3 ∧ H.get r = some (.cells (ts.flatMap Tk.cells) 0 true) ∧ lo < r ∧ r < H.next ∧ ts ≠ []
theorem isNm_space {s : List UInt8} (h : isNm s) : spaceN false s = 0 := by
  obtain ⟨h1, h2, h3, h4⟩ := h
  cases s with
  | nil => rfl
  | cons b s =>
    have hd := h4 b rfl
    simp only [wordN] at h1
    have hw : wordB b = true := by
      cases hb : wordB b with
      | true => rfl
      | false => rw [hb] at h1; simp at h1
    simp only [wordB, hd, Bool.or_false] at hw
    have hbl : blankB b = false := by
      unfold blankB
      simp only [letterI, Bool.or_eq_true, Bool.and_eq_true, decide_eq_true_eq] at hw
      simp
      omega
    have h35 : ¬ b.toNat = 35 := by
      simp only [letterI, Bool.or_eq_true, Bool.and_eq_true, decide_eq_true_eq] at hw
      omega
    simp only [spaceN, hbl, Bool.false_eq_true, if_false, h35]
theorem flat_len : ∀ ts : List Tk, (ts.flatMap Tk.cells).length = ts.length * 3
  | [] => rfl
  | t :: ts => by rw [List.flatMap_cons, List.length_append, flat_len ts, Tk.clen, List.length_cons]; omega
theorem FrB.kill {base r : Nat} {a b : Hp} (h : FrB base a b) (hr : a.next ≤ r) : FrB base a (b.kill r) := ⟨h.next, fun k h1 h2 => by
  rw [Hp.get_kill, if_neg (by omega)]; exact h.get k h1 h2⟩
end Go.Ab
namespace Go.Ab
set_option maxRecDepth 20000
open Go
def nmB (s : List UInt8) : Bool := decide (1 ≤ wordN s) && decide (wordN s = s.length) && decide (s.length ≤ 16) && (match s with | b :: _ => !digitI b.toNat | [] => true)
theorem nmB_iff (s : List UInt8) : nmB s = true ↔ isNm s := by
  unfold nmB isNm
  cases s with
  | nil => simp [wordN]
  | cons b s => simp [and_assoc]
def resB (s : List UInt8) : Bool := decide (s = [97, 114, 114, 97, 121]) || decide (s = [102, 117, 110, 99]) || decide (s = [118, 97, 114]) || decide (s = [114, 101, 116, 117, 114, 110]) || decide (s = [105, 102]) || decide (s = [101, 108, 115, 101]) || decide (s = [119, 104, 105, 108, 101]) || decide (s = [111, 117, 116]) || decide (s = [116, 114, 97, 112])
def nameB (s : List UInt8) : Bool := nmB s && !resB s
/-- A first token that is the whole text is a name. -/
theorem head_nm {s : List UInt8} {k : Tk} {rest : List Tk} (h : headR s (k :: rest)) (hk : k.kind = 1) (ht : k.text = s) : isNm s := by
  obtain ⟨k0, h1, h2, h3⟩ := h k rest rfl
  obtain ⟨n, n1, n2, n3, n4⟩ := h1.2.1 rfl
  obtain ⟨n5, n6, n7⟩ := n4 (by rw [← h2]; exact hk)
  rw [← h3, ht] at n3
  have hl := congrArg List.length n3
  rw [List.length_take, List.length_drop] at hl
  rw [List.length_drop] at n2
  have hs0 : spaceN false s = 0 := by omega
  rw [hs0, List.drop_zero] at n5 n7
  have hn : n = s.length := by omega
  exact ⟨by omega, by omega, by omega, n7⟩
end Go.Ab
namespace Go.Proofs.Ytjkmbpieknaekaa
set_option maxRecDepth 20000
set_option linter.unusedSimpArgs false
set_option linter.unusedVariables false
set_option linter.unusedSectionVars false
set_option linter.defProp false
open Go Go.Ab
namespace tyR3a
def tyF := And.intro @sz3 (And.intro @pt3 (And.intro @bt3 (And.intro @zr3 (And.intro @sz9 (And.intro @pt9 (And.intro @bt9 (And.intro @zr9 (And.intro @ln9 (And.intro @ix9 (And.intro @sz35 (And.intro @pt35 (And.intro @bt35 (And.intro @zr35 (And.intro @ix35l (And.intro @ix35s (And.intro @ln35l (And.intro @ln35s (And.intro @ln35n (And.intro @sz22 (And.intro @pt22 (And.intro @bt22 (And.intro @zr22 (And.intro @ix22l (And.intro @ix22s (And.intro @ln22l (And.intro @ln22s (And.intro @ln22n (And.intro @sz23 (And.intro @pt23 (And.intro @bt23 (And.intro @zr23 (And.intro @ix23l (And.intro @ix23s (And.intro @ln23l (And.intro @ln23s (And.intro @ln23n (And.intro @sz25 (And.intro @pt25 (And.intro @bt25 (And.intro @zr25 (And.intro @fa25_0p (And.intro @fa25_0c (And.intro @fd25_0 (And.intro @fa25_1p (And.intro @fa25_1c (And.intro @fd25_1 (And.intro @sz36 (And.intro @pt36 (And.intro @bt36 (And.intro @zr36 (And.intro @ix36l (And.intro @ix36s (And.intro @ln36l (And.intro @ln36s (And.intro @ln36n (And.intro @sz39 (And.intro @pt39 (And.intro @bt39 (And.intro @zr39 (And.intro @fa39_0p (And.intro @fa39_0c (And.intro @fd39_0 (And.intro @fa39_1p (And.intro @fa39_1c (And.intro @fd39_1 (And.intro @fa39_2p (And.intro @fa39_2c (And.intro @fd39_2 (And.intro @fa39_3p (And.intro @fa39_3c (And.intro @fd39_3 (And.intro @fa39_4p (And.intro @fa39_4c (And.intro @fd39_4 (And.intro @sz41 (And.intro @pt41 (And.intro @bt41 (And.intro @zr41 (And.intro @fa41_0p (And.intro @fa41_0c (And.intro @fd41_0 (And.intro @fa41_1p (And.intro @fa41_1c (And.intro @fd41_1 (And.intro @fa41_2p (And.intro @fa41_2c (And.intro @fd41_2 (And.intro @fa41_3p (And.intro @fa41_3c (And.intro @fd41_3 (And.intro @fa41_4p (And.intro @fa41_4c (And.intro @fd41_4 (And.intro @sz5 (And.intro @pt5 (And.intro @bt5 (And.intro @zr5 (And.intro @sz2 (And.intro @pt2 (And.intro @bt2 (And.intro @zr2 (And.intro @sz37 (And.intro @pt37 (And.intro @bt37 (And.intro @zr37 (And.intro @ix37l (And.intro @ix37s (And.intro @ln37l (And.intro @ln37s (@ln37n))))))))))))))))))))))))))))))))))))))))))))))))))))))))))))))))))))))))))))))))))))))))))))))))))))))))))))))
end tyR3a
open tyR3a
theorem plain0 (f : FuncId) : Plain (cfgN pls []) f := ⟨fun _ => rfl, rfl, rfl⟩
theorem plainN {l : List En} {f : FuncId} (h1 : ∀ args, lookN l f args = none) (h2 : iceN l f = false) : Plain (cfgN pls l) f := ⟨h1, h2, rfl⟩
structure PlainA (cfg : Cfg) (f : FuncId) (args : List AV) : Prop where
  call : cfg.call f args = none
  ice : cfg.ice f = false
  froz : cfg.froz f = false
def hasS (l : List (List UInt8)) (s : List UInt8) : Bool := l.any fun x => decide (x = s)
def isBinB (op : Int) : Bool := decide (4 ≤ op) && decide (op ≤ 18)
def zeroE (x : Ex) : Bool := decide (x.kind = 0) && decide (x.n = 0) && decide (x.name = []) && decide (x.op = 0) && decide (x.kids.length = 0)
/-- The first function of that name. -/
def findF : List Fu → List UInt8 → Int → Int
  | [], _, _ => -1
  | f :: l, s, i => if f.name = s then i else findF l s (i + 1)
def bsE (s : List UInt8) : List AV := [.str s]
theorem bsE_inj (x y : List UInt8) (h : bsE x = bsE y) : x = y := by simpa [bsE] using h
end Go.Proofs.Ytjkmbpieknaekaa
namespace Go.Proofs.Ytjkmbpieknaekaa
set_option maxRecDepth 20000
set_option linter.unusedSimpArgs false
set_option linter.unusedVariables false
set_option linter.unusedSectionVars false
set_option linter.defProp false
open Go Go.Ab
namespace tyR3b
def tyF := And.intro @sz3 (And.intro @pt3 (And.intro @bt3 (And.intro @zr3 (And.intro @sz9 (And.intro @pt9 (And.intro @bt9 (And.intro @zr9 (And.intro @ln9 (And.intro @ix9 (And.intro @sz36 (And.intro @pt36 (And.intro @bt36 (And.intro @zr36 (And.intro @ix36l (And.intro @ix36s (And.intro @ln36l (And.intro @ln36s (And.intro @ln36n (And.intro @sz37 (And.intro @pt37 (And.intro @bt37 (And.intro @zr37 (And.intro @ix37l (And.intro @ix37s (And.intro @ln37l (And.intro @ln37s (And.intro @ln37n (And.intro @sz39 (And.intro @pt39 (And.intro @bt39 (And.intro @zr39 (And.intro @fa39_0p (And.intro @fa39_0c (And.intro @fd39_0 (And.intro @fa39_1p (And.intro @fa39_1c (And.intro @fd39_1 (And.intro @fa39_2p (And.intro @fa39_2c (And.intro @fd39_2 (And.intro @fa39_3p (And.intro @fa39_3c (And.intro @fd39_3 (And.intro @fa39_4p (And.intro @fa39_4c (And.intro @fd39_4 (And.intro @sz46 (And.intro @pt46 (And.intro @bt46 (And.intro @zr46 (And.intro @fa46_0p (And.intro @fa46_0c (And.intro @fd46_0 (And.intro @fa46_1p (And.intro @fa46_1c (And.intro @fd46_1 (And.intro @fa46_2p (And.intro @fa46_2c (And.intro @fd46_2 (And.intro @fa46_3p (And.intro @fa46_3c (And.intro @fd46_3 (And.intro @fa46_4p (And.intro @fa46_4c (And.intro @fd46_4 (And.intro @fa46_5p (And.intro @fa46_5c (And.intro @fd46_5 (And.intro @fa46_6p (And.intro @fa46_6c (And.intro @fd46_6 (And.intro @fa46_7p (And.intro @fa46_7c (And.intro @fd46_7 (And.intro @fa46_8p (And.intro @fa46_8c (And.intro @fd46_8 (And.intro @sz2 (And.intro @pt2 (And.intro @bt2 (@zr2)))))))))))))))))))))))))))))))))))))))))))))))))))))))))))))))))))))))))))))))))
end tyR3b
open tyR3b
mutual
def depE : Ex → Nat
  | .mk _ _ _ _ ks => depEs ks
def depEs : List Ex → Nat
  | [] => 0
  | e :: es => max (1 + depE e) (depEs es)
end
def exE (x : Ex) : List AV := [.agg x.cells]
theorem exE_inj (x y : Ex) (h : exE x = exE y) : x = y := by simp only [exE, List.cons.injEq, AV.agg.injEq, and_true] at h; exact Ex.inj h
mutual
def n1 : St → Nat
  | .mk _ _ _ _ _ _ _ th el => 1 + nS th + nS el
def nS : List St → Nat
  | [] => 0
  | x :: l => n1 x + nS l
end
mutual
def w1 : St → Nat
  | .mk k _ _ _ _ _ _ th el => (if k = 4 then 1 else 0) + wS th + wS el
def wS : List St → Nat
  | [] => 0
  | x :: l => w1 x + wS l
end
mutual
def m1 : St → Nat → Nat
  | .mk _ _ _ _ _ _ _ th el, d => max d (max (mS th (d + 1)) (mS el (d + 1)))
def mS : List St → Nat → Nat
  | [], _ => 0
  | x :: l, d => max (m1 x d) (mS l d)
end
theorem i64_id {z : Int} (h1 : -9223372036854775808 ≤ z) (h2 : z < 9223372036854775808) : IntKind.wrap .i64 z = z := IntWalk.i64_in _ (by omega)
theorem tup3_0 (a b c : AV) : Ab.extract (.tup [a, b, c]) 0 = some a := rfl
theorem tup3_1 (a b c : AV) : Ab.extract (.tup [a, b, c]) 1 = some b := rfl
theorem tup3_2 (a b c : AV) : Ab.extract (.tup [a, b, c]) 2 = some c := rfl
end Go.Proofs.Ytjkmbpieknaekaa
namespace Go.Proofs.Ytjkmbpieknaekaa
set_option maxRecDepth 20000
set_option linter.unusedSimpArgs false
set_option linter.unusedVariables false
set_option linter.unusedSectionVars false
set_option linter.defProp false
open Go Go.Ab
namespace tyR3c
def tyF := And.intro @sz2 (And.intro @pt2 (And.intro @bt2 (And.intro @zr2 (And.intro @sz3 (And.intro @pt3 (And.intro @bt3 (And.intro @zr3 (And.intro @sz9 (And.intro @pt9 (And.intro @bt9 (And.intro @zr9 (And.intro @ln9 (And.intro @ix9 (And.intro @sz22 (And.intro @pt22 (And.intro @bt22 (And.intro @zr22 (And.intro @ix22l (And.intro @ix22s (And.intro @ln22l (And.intro @ln22s (And.intro @ln22n (And.intro @sz23 (And.intro @pt23 (And.intro @bt23 (And.intro @zr23 (And.intro @ix23l (And.intro @ix23s (And.intro @ln23l (And.intro @ln23s (And.intro @ln23n (And.intro @sz25 (And.intro @pt25 (And.intro @bt25 (And.intro @zr25 (And.intro @fa25_0p (And.intro @fa25_0c (And.intro @fd25_0 (And.intro @fa25_1p (And.intro @fa25_1c (And.intro @fd25_1 (And.intro @sz35 (And.intro @pt35 (And.intro @bt35 (And.intro @zr35 (And.intro @ix35l (And.intro @ix35s (And.intro @ln35l (And.intro @ln35s (And.intro @ln35n (And.intro @sz36 (And.intro @pt36 (And.intro @bt36 (And.intro @zr36 (And.intro @ix36l (And.intro @ix36s (And.intro @ln36l (And.intro @ln36s (And.intro @ln36n (And.intro @sz37 (And.intro @pt37 (And.intro @bt37 (And.intro @zr37 (And.intro @ix37l (And.intro @ix37s (And.intro @ln37l (And.intro @ln37s (And.intro @ln37n (And.intro @sz39 (And.intro @pt39 (And.intro @bt39 (And.intro @zr39 (And.intro @fa39_0p (And.intro @fa39_0c (And.intro @fd39_0 (And.intro @fa39_1p (And.intro @fa39_1c (And.intro @fd39_1 (And.intro @fa39_2p (And.intro @fa39_2c (And.intro @fd39_2 (And.intro @fa39_3p (And.intro @fa39_3c (And.intro @fd39_3 (And.intro @fa39_4p (And.intro @fa39_4c (And.intro @fd39_4 (And.intro @sz41 (And.intro @pt41 (And.intro @bt41 (And.intro @zr41 (And.intro @fa41_0p (And.intro @fa41_0c (And.intro @fd41_0 (And.intro @fa41_1p (And.intro @fa41_1c (And.intro @fd41_1 (And.intro @fa41_2p (And.intro @fa41_2c (And.intro @fd41_2 (And.intro @fa41_3p (And.intro @fa41_3c (And.intro @fd41_3 (And.intro @fa41_4p (And.intro @fa41_4c (And.intro @fd41_4 (And.intro @sz44 (And.intro @pt44 (And.intro @bt44 (And.intro @zr44 (And.intro @fa44_0p (And.intro @fa44_0c (And.intro @fd44_0 (And.intro @fa44_1p (And.intro @fa44_1c (And.intro @fd44_1 (And.intro @sz46 (And.intro @pt46 (And.intro @bt46 (And.intro @zr46 (And.intro @fa46_0p (And.intro @fa46_0c (And.intro @fd46_0 (And.intro @fa46_1p (And.intro @fa46_1c (And.intro @fd46_1 (And.intro @fa46_2p (And.intro @fa46_2c (And.intro @fd46_2 (And.intro @fa46_3p (And.intro @fa46_3c (And.intro @fd46_3 (And.intro @fa46_4p (And.intro @fa46_4c (And.intro @fd46_4 (And.intro @fa46_5p (And.intro @fa46_5c (And.intro @fd46_5 (And.intro @fa46_6p (And.intro @fa46_6c (And.intro @fd46_6 (And.intro @fa46_7p (And.intro @fa46_7c (And.intro @fd46_7 (And.intro @fa46_8p (And.intro @fa46_8c (And.intro @fd46_8 (And.intro @tup3_0 (And.intro @tup3_1 (@tup3_2))))))))))))))))))))))))))))))))))))))))))))))))))))))))))))))))))))))))))))))))))))))))))))))))))))))))))))))))))))))))))))))))))))))))))))))))))))))
end tyR3c
open tyR3c
mutual
def deep1 : St → Bool
  | .mk _ _ _ _ a v args th el => decide ((20 : Int) < depE a) || decide ((20 : Int) < depE v) || deepS th || deepS el || args.any fun e => decide ((20 : Int) < depE e)
def deepS : List St → Bool
  | [] => false
  | x :: l => deep1 x || deepS l
end
def prE (p : Pr) : List AV := [.agg p.cells]
theorem prE_inj (x y : Pr) (h : prE x = prE y) : x = y := by simp only [prE, List.cons.injEq, AV.agg.injEq, and_true] at h; exact Pr.inj h
def exFn (f : Fu) : Bool := decide ((6 : Int) < f.params.length) || decide ((8 : Int) < f.locals.length) || decide ((200 : Int) < nS f.body) || decide ((16 : Int) < wS f.body) || decide ((20 : Int) < mS f.body 0) || deepS f.body || decide ((20 : Int) < depE f.value)
def exAr (a : Ar) : Bool := decide (a.len < 1) || decide (16 < a.len)
def exB (p : Pr) : Bool := decide ((4 : Int) < p.arrays.length) || decide ((8 : Int) < p.funcs.length) || p.arrays.any exAr || p.funcs.any exFn
end Go.Proofs.Ytjkmbpieknaekaa
namespace Go.Proofs.Ytjkmbpieknaekaa
set_option maxRecDepth 20000
set_option linter.unusedSimpArgs false
set_option linter.unusedVariables false
set_option linter.unusedSectionVars false
set_option linter.defProp false
open Go Go.Ab
theorem w64s (d : Nat) (h : d < 2 ^ 60) : w64 ((d : Int) + 1) = ((d + 1 : Nat) : Int) := by unfold w64; rw [i64_id (by omega) (by omega)]; omega
mutual
theorem walkE_lim : ∀ (x : Ex) (d : Nat), d ≤ 21 → walkE limE x d = decide (d + depE x ≤ 20)
  | .mk k n s o ks, d, hd => by
    rw [walkE, limE, depE]
    by_cases h : d ≤ 20
    · rw [w64s d (by omega), walkEs_lim ks d h]
      simp only [show decide ((d : Int) ≤ 20) = true by simpa using (by omega : (d : Int) ≤ 20), Bool.true_and]
    · have h1 : decide ((d : Int) ≤ 20) = false := by simp; omega
      rw [h1, Bool.false_and]; symm; simp; omega
theorem walkEs_lim : ∀ (l : List Ex) (d : Nat), d ≤ 20 → walkEs limE l ((d + 1 : Nat) : Int) = decide (d + depEs l ≤ 20)
  | [], d, hd => by rw [walkEs, depEs]; symm; simpa using hd
  | e :: es, d, hd => by
    rw [walkEs, walkE_lim e (d + 1) (by omega), walkEs_lim es d hd, depEs]
    by_cases h1 : d + 1 + depE e ≤ 20 <;> by_cases h2 : d + depEs es ≤ 20
    all_goals simp only [h1, h2, decide_true, decide_false, Bool.and_true, Bool.and_false, Bool.true_and, Bool.false_and]
    all_goals (symm; simp; omega)
end
theorem walkE_lim0 (x : Ex) : walkE limE x 0 = !decide ((20 : Int) < depE x) := by
  have := walkE_lim x 0 (by omega)
  rw [show ((0 : Nat) : Int) = 0 from rfl] at this
  rw [this]
  by_cases h : depE x ≤ 20
  · have : ¬ (20 : Int) < depE x := by omega
    simp [h, this]
  · have : (20 : Int) < depE x := by omega
    simp [h, this]
theorem walkEs_lim0 : ∀ (l : List Ex), walkEs limE l 0 = !(l.any fun e => decide ((20 : Int) < depE e))
  | [] => rfl
  | e :: es => by rw [walkEs, walkE_lim0, walkEs_lim0 es, List.any_cons, Bool.not_or]
mutual
theorem walk1_deep : ∀ (x : St) (d : Int), walk1 (inSt limE) x d () = (!deep1 x, ())
  | .mk k nm to n a v args th el, d => by
    rw [walk1, inSt, deep1]
    simp only [St.at_, St.value, St.args, walkE_lim0, walkEs_lim0]
    cases h1 : decide ((20 : Int) < depE a)
    · cases h2 : decide ((20 : Int) < depE v)
      · cases h3 : args.any fun e => decide ((20 : Int) < depE e)
        · simp only [Bool.not_false, Bool.and_true, Bool.true_and, walkS_deep th]
          cases h4 : deepS th
          · simp only [Bool.not_false, walkS_deep el, Bool.or_false, Bool.false_or]
          · simp
        · simp
      · simp
    · simp
theorem walkS_deep : ∀ (l : List St) (d : Int), walkS (inSt limE) l d () = (!deepS l, ())
  | [], _ => rfl
  | x :: l, d => by
    rw [walkS, walk1_deep x, deepS]
    cases h : deep1 x
    · simp only [Bool.not_false, walkS_deep l, Bool.false_or]
    · simp
end
def whI (k : Int) : Nat := if k = 4 then 1 else 0
theorem limS_nat (x : St) (d n l : Nat) (hn : n < 2 ^ 60) (hl : l < 2 ^ 60) : limS x d ((n : Int), (l : Int)) = (decide ((d : Int) ≤ 20) && decide (((n + 1 : Nat) : Int) ≤ 200) && decide (((l + whI x.kind : Nat) : Int) ≤ 16), (((n + 1 : Nat) : Int), ((l + whI x.kind : Nat) : Int))) := by
  have hw : (if x.kind = 4 then w64 ((l : Int) + 1) else (l : Int)) = ((l + whI x.kind : Nat) : Int) := by
    unfold whI
    split
    · rw [w64s l (by omega)]
    · rfl
  unfold limS
  simp only [w64s n (by omega), hw]
mutual
theorem walk1_lim : ∀ (x : St) (d n l : Nat), d ≤ 21 → n ≤ 200 → l ≤ 16 →
    ((m1 x d ≤ 20 ∧ n + n1 x ≤ 200 ∧ l + w1 x ≤ 16) → walk1 limS x d ((n : Int), (l : Int)) = (true, (((n + n1 x : Nat) : Int), ((l + w1 x : Nat) : Int)))) ∧
    (¬ (m1 x d ≤ 20 ∧ n + n1 x ≤ 200 ∧ l + w1 x ≤ 16) → (walk1 limS x d ((n : Int), (l : Int))).1 = false)
  | .mk k nm to n0 a v args th el, d, n, l, hd, hn, hl => by
    have hlw : whI (St.mk k nm to n0 a v args th el).kind ≤ 1 := by unfold whI; split <;> omega
    have e1 : w1 (.mk k nm to n0 a v args th el) = whI (St.mk k nm to n0 a v args th el).kind + wS th + wS el := by rw [w1]; rfl
    rw [walk1, limS_nat _ _ _ _ (by omega) (by omega), e1]
    obtain ⟨z, hz⟩ : ∃ z, whI (St.mk k nm to n0 a v args th el).kind = z := ⟨_, rfl⟩
    rw [hz] at hlw ⊢
    clear hz e1
    simp only [w64s d (by omega), m1, n1]
    by_cases h0 : d ≤ 20 ∧ n + 1 ≤ 200 ∧ l + z ≤ 16
    · have e0 : (decide ((d : Int) ≤ 20) && decide (((n + 1 : Nat) : Int) ≤ 200) && decide (((l + z : Nat) : Int) ≤ 16)) = true := by
        rw [Bool.and_eq_true, Bool.and_eq_true]; refine ⟨⟨?_, ?_⟩, ?_⟩ <;> apply decide_eq_true <;> omega
      rw [e0]
      simp only []
      have t := walkS_lim th (d + 1) (n + 1) (l + z) (by omega) (by omega) (by omega)
      by_cases h1 : mS th (d + 1) ≤ 20 ∧ n + 1 + nS th ≤ 200 ∧ l + z + wS th ≤ 16
      · rw [t.1 h1]
        simp only []
        have u := walkS_lim el (d + 1) (n + 1 + nS th) (l + z + wS th) (by omega) (by omega) (by omega)
        by_cases h2 : mS el (d + 1) ≤ 20 ∧ n + 1 + nS th + nS el ≤ 200 ∧ l + z + wS th + wS el ≤ 16
        · rw [u.1 h2]
          refine ⟨fun _ => ?_, fun h => (h ⟨by omega, by omega, by omega⟩).elim⟩
          rw [show n + 1 + nS th + nS el = n + (1 + nS th + nS el) by omega, show l + z + wS th + wS el = l + (z + wS th + wS el) by omega]
        · refine ⟨fun h => (h2 ⟨by omega, by omega, by omega⟩).elim, fun _ => u.2 h2⟩
      · refine ⟨fun h => (h1 ⟨by omega, by omega, by omega⟩).elim, fun _ => ?_⟩
        have := t.2 h1
        generalize walkS limS th _ _ = r at this ⊢
        obtain ⟨b, s⟩ := r
        simp only at this
        subst this
        rfl
    · have e0 : (decide ((d : Int) ≤ 20) && decide (((n + 1 : Nat) : Int) ≤ 200) && decide (((l + z : Nat) : Int) ≤ 16)) = false := by
        rw [← Bool.not_eq_true, Bool.and_eq_true, Bool.and_eq_true]
        rintro ⟨⟨a1, a2⟩, a3⟩
        have a1 := of_decide_eq_true a1
        have a2 := of_decide_eq_true a2
        have a3 := of_decide_eq_true a3
        exact h0 ⟨by omega, by omega, by omega⟩
      rw [e0]
      exact ⟨fun h => (h0 ⟨by omega, by omega, by omega⟩).elim, fun _ => rfl⟩
theorem walkS_lim : ∀ (x : List St) (d n l : Nat), d ≤ 21 → n ≤ 200 → l ≤ 16 →
    ((mS x d ≤ 20 ∧ n + nS x ≤ 200 ∧ l + wS x ≤ 16) → walkS limS x d ((n : Int), (l : Int)) = (true, (((n + nS x : Nat) : Int), ((l + wS x : Nat) : Int)))) ∧
    (¬ (mS x d ≤ 20 ∧ n + nS x ≤ 200 ∧ l + wS x ≤ 16) → (walkS limS x d ((n : Int), (l : Int))).1 = false)
  | [], d, n, l, hd, hn, hl => by
    rw [walkS, mS, nS, wS]
    exact ⟨fun _ => rfl, fun h => (h ⟨by omega, by omega, by omega⟩).elim⟩
  | x :: r, d, n, l, hd, hn, hl => by
    rw [walkS, mS, nS, wS]
    have t := walk1_lim x d n l hd hn hl
    by_cases h1 : m1 x d ≤ 20 ∧ n + n1 x ≤ 200 ∧ l + w1 x ≤ 16
    · rw [t.1 h1]
      simp only []
      have u := walkS_lim r d (n + n1 x) (l + w1 x) hd (by omega) (by omega)
      by_cases h2 : mS r d ≤ 20 ∧ n + n1 x + nS r ≤ 200 ∧ l + w1 x + wS r ≤ 16
      · rw [u.1 h2]
        refine ⟨fun _ => ?_, fun h => (h ⟨by omega, by omega, by omega⟩).elim⟩
        rw [show n + n1 x + nS r = n + (n1 x + nS r) by omega, show l + w1 x + wS r = l + (w1 x + wS r) by omega]
      · exact ⟨fun h => (h2 ⟨by omega, by omega, by omega⟩).elim, fun _ => u.2 h2⟩
    · refine ⟨fun h => (h1 ⟨by omega, by omega, by omega⟩).elim, fun _ => ?_⟩
      have := t.2 h1
      generalize walk1 limS x _ _ = r at this ⊢
      obtain ⟨b, s⟩ := r
      simp only at this
      subst this
      rfl
end
theorem walkS_lim0 (x : List St) : (walkS limS x 0 (0, 0)).1 = (!decide ((200 : Int) < nS x) && !decide ((16 : Int) < wS x) && !decide ((20 : Int) < mS x 0)) := by
  have t := walkS_lim x 0 0 0 (by omega) (by omega) (by omega)
  rw [show ((0 : Nat) : Int) = 0 from rfl] at t
  simp only [Nat.zero_add] at t
  by_cases h : mS x 0 ≤ 20 ∧ nS x ≤ 200 ∧ wS x ≤ 16
  · rw [t.1 h]
    have h1 : ¬ (200 : Int) < nS x := by omega
    have h2 : ¬ (16 : Int) < wS x := by omega
    have h3 : ¬ (20 : Int) < mS x 0 := by omega
    simp [h1, h2, h3]
  · rw [t.2 h]
    symm
    rw [← Bool.not_eq_true, Bool.and_eq_true, Bool.and_eq_true]
    rintro ⟨⟨a1, a2⟩, a3⟩
    simp only [Bool.not_eq_true', decide_eq_false_iff_not] at a1 a2 a3
    exact h ⟨by omega, by omega, by omega⟩
theorem limFn_eq (f : Fu) : limFn f = !exFn f := by
  rw [limFn, exFn, walkFn, walkS_lim0, walkE_lim0, walkS_deep]
  have h1 : decide ((f.params.length : Int) ≤ 6) = !decide ((6 : Int) < f.params.length) := by
    by_cases h : (6 : Int) < f.params.length
    · have : ¬ (f.params.length : Int) ≤ 6 := by omega
      simp [h, this]
    · have : (f.params.length : Int) ≤ 6 := by omega
      simp [h, this]
  have h2 : decide ((f.locals.length : Int) ≤ 8) = !decide ((8 : Int) < f.locals.length) := by
    by_cases h : (8 : Int) < f.locals.length
    · have : ¬ (f.locals.length : Int) ≤ 8 := by omega
      simp [h, this]
    · have : (f.locals.length : Int) ≤ 8 := by omega
      simp [h, this]
  rw [h1, h2]
  simp only [Bool.not_or]
  generalize (!decide ((6 : Int) < f.params.length)) = a
  generalize (!decide ((8 : Int) < f.locals.length)) = b
  generalize (!decide ((200 : Int) < nS f.body)) = c
  generalize (!decide ((16 : Int) < wS f.body)) = d
  generalize (!decide ((20 : Int) < mS f.body 0)) = e
  generalize (!deepS f.body) = g
  generalize (!decide ((20 : Int) < depE f.value)) = h
  cases a <;> cases b <;> cases c <;> cases d <;> cases e <;> cases g <;> cases h <;> rfl
theorem all_not_any {α : Type} (l : List α) (p q : α → Bool) (h : ∀ x, p x = !q x) : l.all p = !l.any q := by
  induction l with
  | nil => rfl
  | cons a l ih => rw [List.all_cons, List.any_cons, Bool.not_or, h, ih]
theorem limP_eq (p : Pr) : limP p = !exB p := by
  rw [limP, exB, all_not_any p.funcs limFn exFn limFn_eq, all_not_any p.arrays _ exAr (fun a => by rw [exAr, Bool.not_or])]
  simp only [Bool.not_or]
end Go.Proofs.Ytjkmbpieknaekaa
namespace Go.Proofs.Ytjkmbpieknaekaa
set_option maxRecDepth 20000
set_option linter.unusedSimpArgs false
set_option linter.unusedVariables false
set_option linter.unusedSectionVars false
set_option linter.defProp false
open Go Go.Ab
namespace tyR3d
def tyF := And.intro @sz2 (And.intro @pt2 (And.intro @bt2 (And.intro @zr2 (And.intro @sz3 (And.intro @pt3 (And.intro @bt3 (And.intro @zr3 (And.intro @sz9 (And.intro @pt9 (And.intro @bt9 (And.intro @zr9 (And.intro @ln9 (And.intro @ix9 (And.intro @sz37 (And.intro @pt37 (And.intro @bt37 (And.intro @zr37 (And.intro @ix37l (And.intro @ix37s (And.intro @ln37l (And.intro @ln37s (And.intro @ln37n (And.intro @sz39 (And.intro @pt39 (And.intro @bt39 (And.intro @zr39 (And.intro @fa39_0p (And.intro @fa39_0c (And.intro @fd39_0 (And.intro @fa39_1p (And.intro @fa39_1c (And.intro @fd39_1 (And.intro @fa39_2p (And.intro @fa39_2c (And.intro @fd39_2 (And.intro @fa39_3p (And.intro @fa39_3c (And.intro @fd39_3 (And.intro @fa39_4p (And.intro @fa39_4c (And.intro @fd39_4 (And.intro @sz36 (And.intro @pt36 (And.intro @bt36 (And.intro @zr36 (And.intro @ix36l (And.intro @ix36s (And.intro @ln36l (And.intro @ln36s (And.intro @ln36n (And.intro @sz46 (And.intro @pt46 (And.intro @bt46 (And.intro @zr46 (And.intro @fa46_0p (And.intro @fa46_0c (And.intro @fd46_0 (And.intro @fa46_1p (And.intro @fa46_1c (And.intro @fd46_1 (And.intro @fa46_2p (And.intro @fa46_2c (And.intro @fd46_2 (And.intro @fa46_3p (And.intro @fa46_3c (And.intro @fd46_3 (And.intro @fa46_4p (And.intro @fa46_4c (And.intro @fd46_4 (And.intro @fa46_5p (And.intro @fa46_5c (And.intro @fd46_5 (And.intro @fa46_6p (And.intro @fa46_6c (And.intro @fd46_6 (And.intro @fa46_7p (And.intro @fa46_7c (And.intro @fd46_7 (And.intro @fa46_8p (And.intro @fa46_8c (@fd46_8)))))))))))))))))))))))))))))))))))))))))))))))))))))))))))))))))))))))))))))))))
end tyR3d
open tyR3d
/-- A node, apart from what hangs on it. -/
def wfX (x : Ex) : Bool :=
  if x.kind = 1 then decide ((x.kids.length : Int) = 0) && decide (x.name = []) && decide (x.op = 0)
  else if x.kind = 2 then decide ((x.kids.length : Int) = 0) && decide (x.n = 0) && decide (x.op = 0) && nameB x.name
  else if x.kind = 3 then decide ((x.kids.length : Int) = 1) && decide (x.n = 0) && decide (x.op = 0) && nameB x.name
  else if x.kind = 4 then decide (x.n = 0) && decide (x.name = []) && ((decide ((x.kids.length : Int) = 2) && isBinB x.op) || (decide ((x.kids.length : Int) = 1) && (decide (x.op = 20) || decide (x.op = 21))))
  else if x.kind = 5 then decide ((x.kids.length : Int) = 3) && decide (x.n = 0) && decide (x.name = []) && decide (x.op = 0)
  else false
mutual
def wfE : Ex → Bool
  | .mk k n s o ks => wfEs ks && wfX (.mk k n s o ks)
def wfEs : List Ex → Bool
  | [] => true
  | e :: es => wfE e && wfEs es
end
theorem intE_inj (x y : Int) (h : ([.int .i64 x] : List AV) = [.int .i64 y]) : x = y := by simpa using h
end Go.Proofs.Ytjkmbpieknaekaa
namespace Go.Proofs.Ytjkmbpieknaekaa
set_option maxRecDepth 20000
set_option linter.unusedSimpArgs false
set_option linter.unusedVariables false
set_option linter.unusedSectionVars false
set_option linter.defProp false
open Go Go.Ab
namespace tyR3e
end tyR3e
open tyR3e
def onlyB (x : St) : Bool := decide (x.name = []) && decide (x.to = []) && decide (x.n = 0) && zeroE x.at_ && decide ((x.args.length : Int) = 0)
def flatB (x : St) : Bool := decide ((x.thn.length : Int) = 0) && decide ((x.els.length : Int) = 0)
def wfStK (x : St) : Bool :=
  if x.kind = 1 then flatB x && nameB x.name && decide (x.to = []) && decide (x.n = 0) && zeroE x.at_ && decide ((x.args.length : Int) = 0) && wfE x.value
  else if x.kind = 2 then flatB x && nameB x.name && decide (x.to = []) && decide (x.n = 0) && wfE x.at_ && decide ((x.args.length : Int) = 0) && wfE x.value
  else if x.kind = 3 then onlyB x && wfE x.value
  else if x.kind = 4 then onlyB x && wfE x.value && decide ((x.els.length : Int) = 0)
  else if x.kind = 5 then flatB x && onlyB x && wfE x.value
  else if x.kind = 6 then flatB x && nameB x.name && nameB x.to && decide (x.n = 0) && zeroE x.at_ && zeroE x.value
  else if x.kind = 7 then flatB x && decide (x.name = []) && decide (x.to = []) && decide (0 ≤ x.n) && decide (x.n ≤ 1000000) && zeroE x.at_ && zeroE x.value && decide ((x.args.length : Int) = 0)
  else false
def wfStX (x : St) : Bool := wfEs x.args && wfStK x
end Go.Proofs.Ytjkmbpieknaekaa
namespace Go.Proofs.Ytjkmbpieknaekaa
set_option maxRecDepth 20000
set_option linter.unusedSimpArgs false
set_option linter.unusedVariables false
set_option linter.unusedSectionVars false
set_option linter.defProp false
open Go Go.Ab
/-- v is the row l, in a block of its own from lo on. -/
def StrB (H : Hp) (v : AV) (l : List (List UInt8)) (lo : Nat) : Prop := ∃ r imm, v = .sl r 0 l.length 1 ∧ H.get r = some (.cells (l.map .str) imm true) ∧ imm ≤ l.length ∧ lo ≤ r ∧ r < H.next
def StrN (H : Hp) (v : AV) (l : List (List UInt8)) (lo : Nat) : Prop := (v = .nilS ∧ l = []) ∨ StrB H v l lo
theorem StrB.low {H H' : Hp} {v : AV} {l : List (List UInt8)} {lo : Nat} (h : StrB H v l lo) (hn : H.next ≤ H'.next) (hg : ∀ k, lo ≤ k → k < H.next → H'.get k = H.get k) : StrB H' v l lo := by
  obtain ⟨r, imm, h1, h2, h3, h4, h5⟩ := h
  exact ⟨r, imm, h1, by rw [hg r h4 h5]; exact h2, h3, h4, by omega⟩
/-- The row's own block. -/
def ownS (v : AV) (k : Nat) : Prop := ∃ n, v = .sl k 0 n 1
/-- Nothing but the row's own block was touched; its new block is that one, or new. -/
def OwnFr (v v' : AV) (H H' : Hp) : Prop := (∀ k, k < H.next → ¬ ownS v k → H'.get k = H.get k) ∧ ∀ k, ownS v' k → ownS v k ∨ H.next ≤ k
theorem StrB.lt {H : Hp} {v : AV} {l : List (List UInt8)} {lo : Nat} (h : StrB H v l lo) {k : Nat} (hk : ownS v k) : lo ≤ k ∧ k < H.next := by
  obtain ⟨r, imm, rfl, _, _, h4, h5⟩ := h
  obtain ⟨n, e⟩ := hk
  simp only [AV.sl.injEq] at e
  rw [← e.1]; exact ⟨h4, h5⟩
theorem StrN.lt {H : Hp} {v : AV} {l : List (List UInt8)} {lo : Nat} (h : StrN H v l lo) {k : Nat} (hk : ownS v k) : lo ≤ k ∧ k < H.next := by
  rcases h with ⟨rfl, _⟩ | h
  · obtain ⟨n, e⟩ := hk; simp at e
  · exact h.lt hk
theorem StrB.keep {H H' : Hp} {v : AV} {l : List (List UInt8)} {lo : Nat} (h : StrB H v l lo) (hn : H.next ≤ H'.next) (hg : ∀ k, ownS v k → H'.get k = H.get k) : StrB H' v l lo := by
  obtain ⟨r, imm, rfl, h2, h3, h4, h5⟩ := h
  exact ⟨r, imm, rfl, by rw [hg r ⟨_, rfl⟩]; exact h2, h3, h4, by omega⟩
theorem StrN.keep {H H' : Hp} {v : AV} {l : List (List UInt8)} {lo : Nat} (h : StrN H v l lo) (hn : H.next ≤ H'.next) (hg : ∀ k, ownS v k → H'.get k = H.get k) : StrN H' v l lo := h.imp id fun h => h.keep hn hg
theorem strs_one (l : List (List UInt8)) : (l.map AV.str).all AV.one = true := by simp [AV.one]
theorem src_own {H : Hp} {r imm : Nat} {m : List (List UInt8)} (h : H.get r = some (.cells (m.map .str) imm true)) : srcCells H 1 (.sl r 0 m.length 1) = some (m.length, m.map .str) := by
  have := src_sl (H := H) (r := r) (o := 0) (n := m.length) (z := 1) (s := 1) h (by simp)
  rw [this, List.drop_zero, List.take_of_length_le (by simp)]
theorem app_gen {H : Hp} {v x : AV} {l m : List (List UInt8)} {lo : Nat} (hv : StrN H v l lo) (hlo : lo ≤ H.next) (hx : srcCells H 1 x = some (m.length, m.map .str)) (hm : m ≠ []) (hb : l.length + m.length < 2 ^ 40) :
    ∃ v' H', appendA Try.prog false H 35 35 v x = some (v', H') ∧ StrB H' v' (l ++ m) lo ∧ H'.next = H.next + 1 ∧ (∀ k, k < lo → H'.get k = H.get k) ∧ OwnFr v v' H H' := by
  obtain ⟨n, hn⟩ : ∃ n, m.length = n + 1 := ⟨m.length - 1, by have := List.length_pos_iff.2 hm; omega⟩
  have hmr : maxRoom = 70368744177664 := rfl
  rw [hn] at hx
  rcases hv with ⟨rfl, rfl⟩ | ⟨r, imm, rfl, h2, h3, h4, h5⟩
  · refine ⟨.sl H.next 0 (n + 1) 1, H.alloc (.cells (m.map .str) 0 true), append_nil Try.underlying35 sz9 bt9 zr9 (by kernel_rfl) hx (strs_one m) rfl (by rw [hmr]; omega) (by rw [hmr]; omega), ⟨H.next, 0, by simp [hn], by rw [Hp.get_alloc, if_pos rfl]; rfl, by omega, hlo, Nat.lt_succ_self _⟩, rfl, fun k hk => by rw [Hp.get_alloc, if_neg (by omega)], fun k hk _ => by rw [Hp.get_alloc, if_neg (by omega)], fun k hk => .inr ?_⟩
    obtain ⟨n', e⟩ := hk
    simp only [AV.sl.injEq] at e
    omega
  · have htr : trimA false H 1 (.sl r 0 l.length 1) = H := by
      unfold trimA
      simp only [h2, Nat.zero_add, List.length_map, Nat.mul_one]
      have : Nat.blt l.length l.length = false := by
        cases hb : Nat.blt l.length l.length with
        | false => rfl
        | true => rw [Nat.blt_eq] at hb; omega
      simp [this]
    refine ⟨.sl H.next 0 (l.length + (n + 1)) 1, (H.kill r).alloc (.cells (l.map .str ++ m.map .str) (imm - 0) true), ?_, ⟨H.next, imm, by simp [hn], ?_, by simp; omega, hlo, Nat.lt_succ_self _⟩, rfl, fun k hk => ?_, fun k hk hno => ?_, fun k hk => .inr ?_⟩
    · simp only [appendA, Try.underlying35, sz9, bt9, zr9, show srcType Try.prog 35 = true by kernel_rfl, hx, strs_one, htr, and_self, if_true, List.length_cons, List.length_nil, appendOnto, h2, List.length_map, Nat.zero_add, Nat.mul_one, List.drop_zero]
      rw [if_pos ⟨by rw [hmr]; omega, by rw [hmr]; omega, trivial, trivial, h3⟩]
      simp
    · show ((H.kill r).alloc _).get (H.kill r).next = _
      rw [Hp.get_alloc, if_pos rfl]; simp
    · rw [Hp.get_alloc, if_neg (by simp only [Hp.next_kill]; omega), Hp.get_kill, if_neg (by omega)]
    · rw [Hp.get_alloc, if_neg (by simp only [Hp.next_kill]; omega), Hp.get_kill, if_neg (fun e => hno ⟨_, by rw [e]⟩)]
    · obtain ⟨n', e⟩ := hk
      simp only [AV.sl.injEq] at e
      omega
/-- .. one string. -/
theorem app_one {H : Hp} {v : AV} {l : List (List UInt8)} {lo r imm : Nat} (s : List UInt8) (hv : StrN H v l lo) (hlo : lo ≤ H.next) (hs : H.get r = some (.cells [.str s] imm true)) (hb : l.length < 2 ^ 39) :
    ∃ v' H', appendA Try.prog false H 35 35 v (.sl r 0 1 1) = some (v', H') ∧ StrB H' v' (l ++ [s]) lo ∧ H'.next = H.next + 1 ∧ (∀ k, k < lo → H'.get k = H.get k) ∧ OwnFr v v' H H' :=
  app_gen hv hlo (src_own (m := [s]) hs) (by simp) (by simp; omega)
theorem StrB.len {H H' : Hp} {v : AV} {l : List (List UInt8)} {lo : Nat} (h : StrB H v l lo) : lenAt Try.prog H' 35 v = some (.int .i64 l.length) := by
  obtain ⟨r, imm, rfl, _⟩ := h
  exact lenAt_sl Try.underlying35 _ _ _ _
/-- An element's address, and what is loaded there. -/
theorem StrB.at {H : Hp} {v : AV} {l : List (List UInt8)} {lo : Nat} (h : StrB H v l lo) {i : Nat} (hi : i < l.length) :
    ∃ r, indexAddrA Try.prog 35 v (.int .i64 (i : Int)) = some (.ptr r i) ∧ aload Try.prog H 9 (.ptr r i) = some (.str l[i]) := by
  obtain ⟨r, imm, rfl, h2, _⟩ := h
  refine ⟨r, ?_, ?_⟩
  · rw [index_sl Try.underlying35 sz9 hi]; simp
  · rw [load_one Try.underlying9 rfl h2, List.getElem?_map, List.getElem?_eq_getElem hi]; rfl
theorem StrB.one {H : Hp} {v : AV} {l : List (List UInt8)} {lo : Nat} (h : StrB H v l lo) : AV.one v = true ∧ v.cells = [v] := by
  obtain ⟨r, imm, rfl, _⟩ := h
  exact ⟨rfl, rfl⟩
theorem chunk_one (l : List (List UInt8)) : chunk 1 l.length (l.map .str) = l.map fun s => [AV.str s] := by
  induction l with
  | nil => rfl
  | cons a l ih => simp [chunk, ih]
theorem ice_strs (n : Nat) : ∀ (l : List (List UInt8)) (H : Hp), iceHL (iceH (n + 1)) (l.map .str) H = some (l.map .str, H)
  | [], H => rfl
  | a :: l, H => by
    have := ice_strs n l H
    have e : iceH (n + 1) (.str a) H = some (.str a, H) := rfl
    simp only [List.map_cons, iceHL, e, this]
/-- A row made unchangeable. -/
theorem StrB.ice {H : Hp} {v : AV} {l : List (List UInt8)} {lo : Nat} (h : StrB H v l lo) (n : Nat) :
    ∃ H', iceH (n + 2) v H = some (lstS l, H') ∧ StrB H' v l lo ∧ H'.next = H.next ∧ (∀ k, k < lo → H'.get k = H.get k) ∧ ∀ k, ¬ ownS v k → H'.get k = H.get k := by
  obtain ⟨r, imm, rfl, h2, h3, h4, h5⟩ := h
  refine ⟨H.set r (.cells (l.map .str) (max imm l.length) true), ?_, ⟨r, max imm l.length, rfl, by rw [Hp.get_set, if_pos rfl], by omega, h4, h5⟩, rfl, fun k hk => by rw [Hp.get_set, if_neg (by omega)], fun k hk => by rw [Hp.get_set, if_neg (fun e => hk ⟨_, by rw [e]⟩)]⟩
  have e : iceH (n + 2) (.sl r 0 l.length 1) H = match H.get r with
    | some (.cells cs imm tip) => match Nat.ble (0 + l.length * 1) cs.length && Nat.ble imm cs.length with
      | true => match iceHL (iceH (n + 1)) ((cs.drop 0).take (l.length * 1)) (H.set r (.cells cs (max imm (0 + l.length * 1)) tip)) with
        | some (l', H) => some (.lst (chunk 1 l.length l'), H)
        | none => none
      | false => none
    | _ => none := rfl
  rw [e, h2]
  simp only [List.length_map, Nat.zero_add, Nat.mul_one, List.drop_zero]
  have h6 : Nat.ble l.length l.length = true := by rw [Nat.ble_eq]; omega
  have h7 : Nat.ble imm l.length = true := by rw [Nat.ble_eq]; omega
  rw [h6, h7]
  simp only [Bool.and_self]
  rw [List.take_of_length_le (by simp), ice_strs]
  simp only [chunk_one]
/-- A nil slice for an empty row. -/
theorem Con.args {P : Program} {ρ : Nat → Int} {f : FuncId} {args args' : List AV} {r : AV} (h : Con P ρ f args r) (hv : ∀ (G : Gh) vs, VRs G args' vs → VRs G args vs) : Con P ρ f args' r :=
  ⟨h.1, fun G w vs h1 h2 h3 => h.2 G w vs h1 h2 (hv G vs h3)⟩
end Go.Proofs.Ytjkmbpieknaekaa
namespace Go.Proofs.Ytjkmbpieknaekaa
set_option maxRecDepth 20000
set_option linter.unusedSimpArgs false
set_option linter.unusedVariables false
set_option linter.unusedSectionVars false
set_option linter.defProp false
open Go Go.Ab
namespace tyR3f
def tyF := And.intro @sz2 (And.intro @pt2 (And.intro @bt2 (And.intro @zr2 (And.intro @sz3 (And.intro @pt3 (And.intro @bt3 (And.intro @zr3 (And.intro @sz9 (And.intro @pt9 (And.intro @bt9 (And.intro @zr9 (And.intro @ln9 (And.intro @ix9 (And.intro @sz22 (And.intro @pt22 (And.intro @bt22 (And.intro @zr22 (And.intro @ix22l (And.intro @ix22s (And.intro @ln22l (And.intro @ln22s (And.intro @ln22n (And.intro @sz23 (And.intro @pt23 (And.intro @bt23 (And.intro @zr23 (And.intro @ix23l (And.intro @ix23s (And.intro @ln23l (And.intro @ln23s (And.intro @ln23n (And.intro @sz25 (And.intro @pt25 (And.intro @bt25 (And.intro @zr25 (And.intro @fa25_0p (And.intro @fa25_0c (And.intro @fd25_0 (And.intro @fa25_1p (And.intro @fa25_1c (And.intro @fd25_1 (And.intro @sz35 (And.intro @pt35 (And.intro @bt35 (And.intro @zr35 (And.intro @ix35l (And.intro @ix35s (And.intro @ln35l (And.intro @ln35s (And.intro @ln35n (And.intro @sz36 (And.intro @pt36 (And.intro @bt36 (And.intro @zr36 (And.intro @ix36l (And.intro @ix36s (And.intro @ln36l (And.intro @ln36s (And.intro @ln36n (And.intro @sz37 (And.intro @pt37 (And.intro @bt37 (And.intro @zr37 (And.intro @ix37l (And.intro @ix37s (And.intro @ln37l (And.intro @ln37s (And.intro @ln37n (And.intro @sz39 (And.intro @pt39 (And.intro @bt39 (And.intro @zr39 (And.intro @fa39_0p (And.intro @fa39_0c (And.intro @fd39_0 (And.intro @fa39_1p (And.intro @fa39_1c (And.intro @fd39_1 (And.intro @fa39_2p (And.intro @fa39_2c (And.intro @fd39_2 (And.intro @fa39_3p (And.intro @fa39_3c (And.intro @fd39_3 (And.intro @fa39_4p (And.intro @fa39_4c (And.intro @fd39_4 (And.intro @sz41 (And.intro @pt41 (And.intro @bt41 (And.intro @zr41 (And.intro @fa41_0p (And.intro @fa41_0c (And.intro @fd41_0 (And.intro @fa41_1p (And.intro @fa41_1c (And.intro @fd41_1 (And.intro @fa41_2p (And.intro @fa41_2c (And.intro @fd41_2 (And.intro @fa41_3p (And.intro @fa41_3c (And.intro @fd41_3 (And.intro @fa41_4p (And.intro @fa41_4c (And.intro @fd41_4 (And.intro @sz44 (And.intro @pt44 (And.intro @bt44 (And.intro @zr44 (And.intro @fa44_0p (And.intro @fa44_0c (And.intro @fd44_0 (And.intro @fa44_1p (And.intro @fa44_1c (And.intro @fd44_1 (And.intro @sz46 (And.intro @pt46 (And.intro @bt46 (And.intro @zr46 (And.intro @fa46_0p (And.intro @fa46_0c (And.intro @fd46_0 (And.intro @fa46_1p (And.intro @fa46_1c (And.intro @fd46_1 (And.intro @fa46_2p (And.intro @fa46_2c (And.intro @fd46_2 (And.intro @fa46_3p (And.intro @fa46_3c (And.intro @fd46_3 (And.intro @fa46_4p (And.intro @fa46_4c (And.intro @fd46_4 (And.intro @fa46_5p (And.intro @fa46_5c (And.intro @fd46_5 (And.intro @fa46_6p (And.intro @fa46_6c (And.intro @fd46_6 (And.intro @fa46_7p (And.intro @fa46_7c (And.intro @fd46_7 (And.intro @fa46_8p (And.intro @fa46_8c (@fd46_8)))))))))))))))))))))))))))))))))))))))))))))))))))))))))))))))))))))))))))))))))))))))))))))))))))))))))))))))))))))))))))))))))))))))))))))))))))
end tyR3f
open tyR3f
mutual
def wfSt : St → Bool
  | .mk k nm to n a v args th el => wfStX (.mk k nm to n a v args th el) && wfSs th && wfSs el
def wfSs : List St → Bool
  | [] => true
  | x :: l => wfSt x && wfSs l
end
theorem arrsSz_mem : ∀ {l : List Ar} {a : Ar}, a ∈ l → a.name.length < arrsSz l
  | [], _, h => by simp at h
  | e :: es, x, h => by
    rcases List.mem_cons.1 h with rfl | h
    · simp only [arrsSz]; omega
    · have := arrsSz_mem h; simp only [arrsSz]; omega
def fnNames (f : Fu) : List (List UInt8) := [f.name] ++ f.params ++ f.locals
def wfFn (f : Fu) : Bool := (fnNames f).all nameB && wfSs f.body && wfE f.value
def wfP (p : Pr) : Bool := p.arrays.all (fun a => nameB a.name) && p.funcs.all wfFn
theorem bsS1 (H : Hp) (s : List UInt8) : buildSliceA Try.prog H 35 1 [(0, .str s)] = some (.sl H.next 0 1 1, H.alloc (.cells [.str s] 0 true)) := by kernel_rfl
end Go.Proofs.Ytjkmbpieknaekaa
namespace Go.Proofs.Ytjkmbpieknaekaa
set_option maxRecDepth 20000
set_option linter.unusedSimpArgs false
set_option linter.unusedVariables false
set_option linter.unusedSectionVars false
set_option linter.defProp false
open Go Go.Ab
namespace tyR3g
end tyR3g
open tyR3g
def dupFrom : List (List UInt8) → List (List UInt8) → Bool
  | _, [] => false
  | seen, s :: l => hasS seen s || dupFrom (seen ++ [s]) l
def dupFns (an : List (List UInt8)) : List (List UInt8) → List Fu → Bool
  | _, [] => false
  | seen, f :: fs => hasS seen f.name || dupFrom an (f.params ++ f.locals) || dupFns an (seen ++ [f.name]) fs
def arNames (p : Pr) : List (List UInt8) := p.arrays.map (·.name)
def dupP (p : Pr) : Bool := dupFrom [] (arNames p) || dupFns (arNames p) [] p.funcs
end Go.Proofs.Ytjkmbpieknaekaa
namespace Go.Proofs.Ytjkmbpieknaekaa
set_option maxRecDepth 20000
set_option linter.unusedSimpArgs false
set_option linter.unusedVariables false
set_option linter.unusedSectionVars false
set_option linter.defProp false
open Go Go.Ab
namespace tyR3h
def tyF := And.intro @sz2 (And.intro @pt2 (And.intro @bt2 (And.intro @zr2 (And.intro @sz3 (And.intro @pt3 (And.intro @bt3 (And.intro @zr3 (And.intro @sz9 (And.intro @pt9 (And.intro @bt9 (And.intro @zr9 (And.intro @ln9 (And.intro @ix9 (And.intro @sz25 (And.intro @pt25 (And.intro @bt25 (And.intro @zr25 (And.intro @fa25_0p (And.intro @fa25_0c (And.intro @fd25_0 (And.intro @fa25_1p (And.intro @fa25_1c (And.intro @fd25_1 (And.intro @sz35 (And.intro @pt35 (And.intro @bt35 (And.intro @zr35 (And.intro @ix35l (And.intro @ix35s (And.intro @ln35l (And.intro @ln35s (And.intro @ln35n (And.intro @sz37 (And.intro @pt37 (And.intro @bt37 (And.intro @zr37 (And.intro @ix37l (And.intro @ix37s (And.intro @ln37l (And.intro @ln37s (And.intro @ln37n (And.intro @sz39 (And.intro @pt39 (And.intro @bt39 (And.intro @zr39 (And.intro @fa39_0p (And.intro @fa39_0c (And.intro @fd39_0 (And.intro @fa39_1p (And.intro @fa39_1c (And.intro @fd39_1 (And.intro @fa39_2p (And.intro @fa39_2c (And.intro @fd39_2 (And.intro @fa39_3p (And.intro @fa39_3c (And.intro @fd39_3 (And.intro @fa39_4p (And.intro @fa39_4c (And.intro @fd39_4 (And.intro @sz78 (And.intro @pt78 (And.intro @bt78 (And.intro @zr78 (And.intro @fa78_0p (And.intro @fa78_0c (And.intro @fd78_0 (And.intro @fa78_1p (And.intro @fa78_1c (And.intro @fd78_1 (And.intro @fa78_2p (And.intro @fa78_2c (And.intro @fd78_2 (And.intro @sz22 (And.intro @pt22 (And.intro @bt22 (And.intro @zr22 (And.intro @ix22l (And.intro @ix22s (And.intro @ln22l (And.intro @ln22s (And.intro @ln22n (And.intro @sz23 (And.intro @pt23 (And.intro @bt23 (And.intro @zr23 (And.intro @ix23l (And.intro @ix23s (And.intro @ln23l (And.intro @ln23s (And.intro @ln23n (And.intro @sz36 (And.intro @pt36 (And.intro @bt36 (And.intro @zr36 (And.intro @ix36l (And.intro @ix36s (And.intro @ln36l (And.intro @ln36s (And.intro @ln36n (And.intro @sz46 (And.intro @pt46 (And.intro @bt46 (And.intro @zr46 (And.intro @fa46_0p (And.intro @fa46_0c (And.intro @fd46_0 (And.intro @fa46_1p (And.intro @fa46_1c (And.intro @fd46_1 (And.intro @fa46_2p (And.intro @fa46_2c (And.intro @fd46_2 (And.intro @fa46_3p (And.intro @fa46_3c (And.intro @fd46_3 (And.intro @fa46_4p (And.intro @fa46_4c (And.intro @fd46_4 (And.intro @fa46_5p (And.intro @fa46_5c (And.intro @fd46_5 (And.intro @fa46_6p (And.intro @fa46_6c (And.intro @fd46_6 (And.intro @fa46_7p (And.intro @fa46_7c (And.intro @fd46_7 (And.intro @fa46_8p (And.intro @fa46_8c (@fd46_8)))))))))))))))))))))))))))))))))))))))))))))))))))))))))))))))))))))))))))))))))))))))))))))))))))))))))))))))))))))))))))))))))))
end tyR3h
open tyR3h
structure Sc where
  vars : List (List UInt8)
  arrays : Option (List (List UInt8))
  p : Pr
def Sc.an (x : Sc) : List (List UInt8) := x.arrays.getD []
def orowA : Option (List (List UInt8)) → AV
  | none => .nilS
  | some l => lstS l
def Sc.cells (x : Sc) : List AV := [lstS x.vars, orowA x.arrays, .lst (x.p.arrays.map Ar.cells), .lst (x.p.funcs.map Fu.cells)]
def Sc.ok (x : Sc) : Prop := x.vars.length < 2 ^ 60 ∧ x.an.length < 2 ^ 60 ∧ x.p.sz < 2 ^ 60
theorem Sc.c0 (x : Sc) : x.cells[0]? = some (lstS x.vars) := rfl
theorem Sc.c1 (x : Sc) : x.cells[1]? = some (orowA x.arrays) := rfl
theorem Sc.whole (x : Sc) : aggA 4 x.cells = some (.agg x.cells) := rfl
theorem Sc.part (x : Sc) : aggA 2 (x.cells.drop 2) = some (.agg x.p.cells) := rfl
theorem Sc.clen (x : Sc) : x.cells.length = 4 := rfl
theorem Sc.one (x : Sc) : x.cells.all AV.one = true := by
  obtain ⟨v, a, p⟩ := x
  cases a <;> rfl
theorem orow_pure (a : Option (List (List UInt8))) : PureA (orowA a) := by
  cases a with
  | none => exact .nilS
  | some l => exact strs_pure l
theorem Sc.pure (x : Sc) : PureL x.cells := .cons (strs_pure _) (.cons (orow_pure _) x.p.pure)
theorem orow_inj {a b : Option (List (List UInt8))} (h : orowA a = orowA b) : a = b := by
  cases a <;> cases b <;> simp only [orowA, reduceCtorEq, AV.lst.injEq] at h
  · rfl
  · rw [strs_inj h]
theorem Sc.inj {x y : Sc} (h : x.cells = y.cells) : x = y := by
  obtain ⟨v, a, p⟩ := x
  obtain ⟨v', a', p'⟩ := y
  simp only [Sc.cells, List.cons.injEq, AV.lst.injEq, and_true] at h
  obtain ⟨h1, h2, h3, h4⟩ := h
  rw [strs_inj h1, orow_inj h2, Pr.inj (x := p) (y := p') (by simp [Pr.cells, h3, h4])]
section
variable (vs an : List (List UInt8))
def defX (x : Ex) : Bool := (!decide (x.kind = 2) || hasS vs x.name) && (!decide (x.kind = 3) || hasS an x.name)
mutual
def defE : Ex → Bool
  | .mk k n s o ks => defEs ks && defX vs an (.mk k n s o ks)
def defEs : List Ex → Bool
  | [] => true
  | e :: es => defE e && defEs es
end
end
def defStK (c : Sc) (x : St) : Bool :=
  if x.kind = 1 then hasS c.vars x.name
  else if x.kind = 6 then hasS c.vars x.name && decide (0 ≤ findF c.p.funcs x.to 0)
  else if x.kind = 2 then hasS c.an x.name
  else true
def defStX (c : Sc) (x : St) : Bool := defEs c.vars c.an x.args && defE c.vars c.an x.at_ && defE c.vars c.an x.value && defStK c x
end Go.Proofs.Ytjkmbpieknaekaa
namespace Go.Proofs.Ytjkmbpieknaekaa
set_option maxRecDepth 20000
set_option linter.unusedSimpArgs false
set_option linter.unusedVariables false
set_option linter.unusedSectionVars false
set_option linter.defProp false
open Go Go.Ab
namespace tyR3i
end tyR3i
open tyR3i
def parN (p : Pr) (s : List UInt8) : Nat := ((p.funcs[(findF p.funcs s 0).toNat]?).map fun f => f.params.length).getD 0
def arK (p : Pr) (x : St) : Bool := !(decide (x.kind = 6) && !decide ((x.args.length : Int) = parN p x.to))
section
variable (c : Sc)
mutual
def chk1 (b : Bool) : St → Bool
  | .mk k nm to n a v args th el => (bif b then arK c.p (.mk k nm to n a v args th el) else defStX c (.mk k nm to n a v args th el)) && chkS b th && chkS b el
def chkS (b : Bool) : List St → Bool
  | [] => true
  | x :: l => chk1 b x && chkS b l
end
end
section
variable (p : Pr)
mutual
def cal1 : St → Bool
  | .mk k nm to n a v args th el => (!decide (k = 6) || decide (0 ≤ findF p.funcs to 0)) && calS th && calS el
def calS : List St → Bool
  | [] => true
  | x :: l => cal1 x && calS l
end
end
theorem Sc.c2 (x : Sc) : x.cells[2]? = some (.lst (x.p.arrays.map Ar.cells)) := rfl
theorem Sc.c3 (x : Sc) : x.cells[3]? = some (.lst (x.p.funcs.map Fu.cells)) := rfl
structure Cs where
  c : Sc
  l : List St
  b : Bool
def Cs.ok (x : Cs) : Prop := x.c.ok ∧ stmtsSz x.l < 2 ^ 60 ∧ (x.b = true → calS x.c.p x.l = true)
end Go.Proofs.Ytjkmbpieknaekaa
namespace Go.Proofs.Ytjkmbpieknaekaa
set_option maxRecDepth 20000
set_option linter.unusedSimpArgs false
set_option linter.unusedVariables false
set_option linter.unusedSectionVars false
set_option linter.defProp false
open Go Go.Ab
namespace tyR3j
end tyR3j
open tyR3j
def scOf (p : Pr) (f : Fu) : Sc := ⟨f.params ++ f.locals, some (arNames p), p⟩
def undFn (p : Pr) (f : Fu) : Bool := !(chkS (scOf p f) false f.body && defE (scOf p f).vars (scOf p f).an f.value)
def badFn (p : Pr) (f : Fu) : Bool := !chkS (scOf p f) true f.body
def refCheck (p : Pr) : Int := if exB p = true then 6 else if wfP p = false then 2 else if dupP p = true then 4 else if p.funcs.any (undFn p) = true then 3 else if p.funcs.any (badFn p) = true then 5 else 0
end Go.Proofs.Ytjkmbpieknaekaa
namespace Go.Ab
set_option maxRecDepth 20000
set_option linter.unusedVariables false
open Go
abbrev Nm := List UInt8
structure MS where
  fuel : Int
  fin : Int
  code : Int
  cells : List (Nm × List Int)
  out : List Int
def lkV : List (Nm × Int) → Nm → Int
  | [], _ => 0
  | p :: l, nm => if nm = p.1 then p.2 else lkV l nm
def setV : List (Nm × Int) → Nm → Int → List (Nm × Int)
  | [], nm, x => [(nm, x)]
  | p :: l, nm, x => if nm = p.1 then (nm, x) :: l else p :: setV l nm x
def lkC : List (Nm × List Int) → Nm → List Int
  | [], _ => []
  | p :: l, nm => if nm = p.1 then p.2 else lkC l nm
def setC : List (Nm × List Int) → Nm → Nat → Int → List (Nm × List Int)
  | [], _, _, _ => []
  | p :: l, nm, i, x => if nm = p.1 then (p.1, p.2.set i x) :: l else p :: setC l nm i x
section
variable (p : Pr) (fi : List (Nm × Int))
end
/-- The entries of a map of numbers. -/
def vEs (vs : List (Nm × Int)) : List (AV × AV) := vs.map fun p => (.str p.1, .int .i64 p.2)
/-- A row of numbers. -/
def ints (l : List Int) : List AV := l.map fun n => .int .i64 n
def cEs : List (Nm × List Int) → List Nat → List (AV × AV)
  | p :: l, r :: rs => (.str p.1, .sl r 0 p.2.length 1) :: cEs l rs
  | _, _ => []
theorem find_vEs (nm : Nm) : ∀ (vs : List (Nm × Int)) (i : Nat), (findA .string (.str nm) (vEs vs) i = some none ∧ lkV vs nm = 0 ∧ ∀ x, vEs (setV vs nm x) = vEs vs ++ [(.str nm, .int .i64 x)]) ∨
    ∃ j, j < vs.length ∧ findA .string (.str nm) (vEs vs) i = some (some (i + j, .int .i64 (lkV vs nm))) ∧ ∀ x, vEs (setV vs nm x) = (vEs vs).set j (.str nm, .int .i64 x)
  | [], i => .inl ⟨rfl, rfl, fun _ => rfl⟩
  | p :: l, i => by
    by_cases h : nm = p.1
    · refine .inr ⟨0, by simp, ?_, fun x => ?_⟩
      · simp [vEs, findA, keyA, lkV, h]
      · simp [vEs, setV, h]
    · have hf : findA .string (.str nm) (vEs (p :: l)) i = findA .string (.str nm) (vEs l) (i + 1) := by
        show findA .string (.str nm) ((.str p.1, .int .i64 p.2) :: vEs l) i = _
        have : (nm == p.1) = false := by simpa using h
        simp [findA, keyA, this]
      have hl : lkV (p :: l) nm = lkV l nm := by simp [lkV, h]
      have hs : ∀ x, vEs (setV (p :: l) nm x) = (.str p.1, .int .i64 p.2) :: vEs (setV l nm x) := fun x => by simp [setV, h, vEs]
      rw [hf, hl]
      rcases find_vEs nm l (i + 1) with ⟨h1, h2, h3⟩ | ⟨j, hj, h1, h3⟩
      · refine .inl ⟨h1, h2, fun x => ?_⟩
        rw [hs, h3]; simp [vEs]
      · refine .inr ⟨j + 1, by simp; omega, ?_, fun x => ?_⟩
        · rw [h1, show i + 1 + j = i + (j + 1) by omega]
        · rw [hs, h3]; simp [vEs]
theorem find_cEs (nm : Nm) : ∀ (cs : List (Nm × List Int)) (rs : List Nat) (i : Nat), rs.length = cs.length → (findA .string (.str nm) (cEs cs rs) i = some none ∧ lkC cs nm = [] ∧ ∀ k x, setC cs nm k x = cs) ∨
    ∃ j r nm', rs[j]? = some r ∧ cs[j]? = some (nm', lkC cs nm) ∧ findA .string (.str nm) (cEs cs rs) i = some (some (i + j, .sl r 0 (lkC cs nm).length 1)) ∧ ∀ k x, setC cs nm k x = cs.set j (nm', (lkC cs nm).set k x)
  | [], [], i, _ => .inl ⟨rfl, rfl, fun _ _ => rfl⟩
  | [], _ :: _, i, h => by simp at h
  | _ :: _, [], i, h => by simp at h
  | p :: l, r :: rs, i, hlen => by
    by_cases h : nm = p.1
    · refine .inr ⟨0, r, p.1, rfl, ?_, ?_, fun k x => ?_⟩
      · simp [lkC, h]
      · simp [cEs, findA, keyA, lkC, h]
      · simp [setC, lkC, h]
    · have hf : findA .string (.str nm) (cEs (p :: l) (r :: rs)) i = findA .string (.str nm) (cEs l rs) (i + 1) := by
        show findA .string (.str nm) ((.str p.1, .sl r 0 p.2.length 1) :: cEs l rs) i = _
        have : (nm == p.1) = false := by simpa using h
        simp [findA, keyA, this]
      have hl : lkC (p :: l) nm = lkC l nm := by simp [lkC, h]
      have hs : ∀ k x, setC (p :: l) nm k x = p :: setC l nm k x := fun k x => by simp [setC, h]
      rw [hf, hl]
      rcases find_cEs nm l rs (i + 1) (by simpa using hlen) with ⟨h1, h2, h3⟩ | ⟨j, r', nm', hj, hc, h1, h3⟩
      · exact .inl ⟨h1, h2, fun k x => by rw [hs, h3]⟩
      · refine .inr ⟨j + 1, r', nm', by simpa using hj, by simpa using hc, ?_, fun k x => ?_⟩
        · rw [h1, show i + 1 + j = i + (j + 1) by omega]
        · rw [hs, h3]; simp
end Go.Ab
namespace Go.Ab
set_option maxRecDepth 20000
set_option linter.unusedVariables false
open Go
/-- The numbers of the machine's blocks. -/
structure Mx where
  p : Pr
  rm : Nat
  rc : Nat
  rf : Nat
  rs : List Nat
  fi : List (Nm × Int)
def Mx.own (X : Mx) (r : Nat) : Prop := r = X.rm ∨ r ∈ X.rs
def mc (X : Mx) (s : MS) (ov : AV) : List AV := [.lst (X.p.arrays.map Ar.cells), .lst (X.p.funcs.map Fu.cells), .map X.rc, .map X.rf, .int .i64 s.fuel, .int .i64 s.fin, .int .i64 s.code, ov]
def OutR (X : Mx) (H : Hp) (ov : AV) (out : List Int) : Prop :=
  (ov = .nilS ∧ out = []) ∨ ∃ ro, ov = .sl ro 0 out.length 1 ∧ H.get ro = some (.cells (ints out) 0 true) ∧ ro < H.next ∧ ¬ X.own ro ∧ ro ≠ X.rc ∧ ro ≠ X.rf
structure RepM (X : Mx) (H : Hp) (s : MS) (ov : AV) : Prop where
  m : H.get X.rm = some (.cells (mc X s ov) 0 true)
  c : H.get X.rc = some (.map (cEs s.cells X.rs))
  f : H.get X.rf = some (.map (vEs X.fi))
  len : X.rs.length = s.cells.length
  cell : ∀ (j r : Nat) (nm : Nm) (l : List Int), X.rs[j]? = some r → s.cells[j]? = some (nm, l) → H.get r = some (.cells (ints l) 0 true)
  out : OutR X H ov s.out
  lm : X.rm < H.next
  lc : X.rc < H.next
  lf : X.rf < H.next
  ls : ∀ r ∈ X.rs, r < H.next
  mc' : X.rm ≠ X.rc
  mf : X.rm ≠ X.rf
  ms : X.rm ∉ X.rs
  cf : X.rc ≠ X.rf
  cs : X.rc ∉ X.rs
  fs : X.rf ∉ X.rs
  nd : X.rs.Nodup
/-- What an expression leaves alone. -/
structure FrE (X : Mx) (H H' : Hp) : Prop where
  next : H.next ≤ H'.next
  get : ∀ r, r < H.next → r ≠ X.rm → H'.get r = H.get r
theorem FrE.refl (X : Mx) (H : Hp) : FrE X H H := ⟨Nat.le_refl _, fun _ _ _ => rfl⟩
theorem FrE.trans {X : Mx} {a b c : Hp} (h : FrE X a b) (k : FrE X b c) : FrE X a c := ⟨Nat.le_trans h.next k.next, fun r h1 h2 => (k.get r (Nat.lt_of_lt_of_le h1 h.next) h2).trans (h.get r h1 h2)⟩
theorem FrE.alloc {X : Mx} {a b : Hp} (h : FrE X a b) (x : HB) : FrE X a (b.alloc x) := ⟨Nat.le_trans h.next (Nat.le_succ _), fun r h1 h2 => by
  have := h.next
  rw [Hp.get_alloc, if_neg (by omega)]; exact h.get r h1 h2⟩
theorem FrE.set {X : Mx} {a b : Hp} (h : FrE X a b) {r : Nat} (hr : r = X.rm ∨ a.next ≤ r) (x : HB) : FrE X a (b.set r x) := ⟨h.next, fun k h1 h2 => by
  rw [Hp.get_set, if_neg (by omega)]; exact h.get k h1 h2⟩
/-- What a store leaves alone. -/
structure FrA (X : Mx) (H H' : Hp) : Prop where
  next : H.next ≤ H'.next
  get : ∀ r, r < H.next → ¬ X.own r → H'.get r = H.get r
theorem FrE.toA {X : Mx} {H H' : Hp} (h : FrE X H H') : FrA X H H' := ⟨h.next, fun r h1 h2 => h.get r h1 fun e => h2 (.inl e)⟩
theorem FrA.refl (X : Mx) (H : Hp) : FrA X H H := ⟨Nat.le_refl _, fun _ _ _ => rfl⟩
theorem FrA.trans {X : Mx} {a b c : Hp} (h : FrA X a b) (k : FrA X b c) : FrA X a c := ⟨Nat.le_trans h.next k.next, fun r h1 h2 => (k.get r (Nat.lt_of_lt_of_le h1 h.next) h2).trans (h.get r h1 h2)⟩
theorem OutR.mono {X : Mx} {H H' : Hp} {ov : AV} {out : List Int} (h : OutR X H ov out) (hn : H.next ≤ H'.next) (hg : ∀ r, r < H.next → r ≠ X.rm → H'.get r = H.get r) : OutR X H' ov out := by
  rcases h with h | ⟨ro, h1, h2, h3, h4, h5, h6⟩
  · exact .inl h
  · exact .inr ⟨ro, h1, by rw [hg ro h3 (fun e => h4 (.inl e))]; exact h2, Nat.lt_of_lt_of_le h3 hn, h4, h5, h6⟩
theorem RepM.upd {X : Mx} {H H' : Hp} {s s' : MS} {ov : AV} (h : RepM X H s ov) (fr : FrE X H H') (hm : H'.get X.rm = some (.cells (mc X s' ov) 0 true)) (hc : s'.cells = s.cells) (ho : s'.out = s.out) : RepM X H' s' ov where
  m := hm
  c := by rw [fr.get _ h.lc h.mc'.symm, hc]; exact h.c
  f := by rw [fr.get _ h.lf h.mf.symm]; exact h.f
  len := by rw [hc]; exact h.len
  cell j r nm l h1 h2 := by
    have hr := List.mem_of_getElem? h1
    rw [fr.get _ (h.ls r hr) (fun e => h.ms (e ▸ hr))]
    exact h.cell j r nm l h1 (hc ▸ h2)
  out := by rw [ho]; exact h.out.mono fr.next fr.get
  lm := Nat.lt_of_lt_of_le h.lm fr.next
  lc := Nat.lt_of_lt_of_le h.lc fr.next
  lf := Nat.lt_of_lt_of_le h.lf fr.next
  ls r hr := Nat.lt_of_lt_of_le (h.ls r hr) fr.next
  mc' := h.mc'
  mf := h.mf
  ms := h.ms
  cf := h.cf
  cs := h.cs
  fs := h.fs
  nd := h.nd
theorem RepM.same {X : Mx} {H H' : Hp} {s : MS} {ov : AV} (h : RepM X H s ov) (hn : H.next ≤ H'.next) (hg : ∀ r, r < H.next → H'.get r = H.get r) : RepM X H' s ov :=
  h.upd ⟨hn, fun r h1 _ => hg r h1⟩ (by rw [hg _ h.lm]; exact h.m) rfl rfl
theorem RepM.alloc {X : Mx} {H : Hp} {s : MS} {ov : AV} (h : RepM X H s ov) (b : HB) : RepM X (H.alloc b) s ov :=
  h.same (Nat.le_succ _) fun r hr => by rw [Hp.get_alloc, if_neg (by omega)]
/-- What a look-up of an array gives. -/
def CellV (X : Mx) (s : MS) (nm : Nm) (lv : AV) : Prop :=
  (lv = .nilS ∧ lkC s.cells nm = [] ∧ ∀ k x, setC s.cells nm k x = s.cells) ∨ ∃ j r nm', X.rs[j]? = some r ∧ s.cells[j]? = some (nm', lkC s.cells nm) ∧ lv = .sl r 0 (lkC s.cells nm).length 1 ∧ ∀ k x, setC s.cells nm k x = s.cells.set j (nm', (lkC s.cells nm).set k x)
theorem lookup_map {P : Program} {H : Hp} {t kt e r : Nat} {es : List (AV × AV)} {nm : Nm} {z : AV} (ht : P.underlying t = some (.map kt e)) (hk : keyKind P kt = some .string) (hz : zeroV P e = some z) (hg : H.get r = some (.map es)) :
    (findA .string (.str nm) es 0 = some none → lookupA P H t (.map r) (.str nm) false = some z) ∧ ∀ i v, findA .string (.str nm) es 0 = some (some (i, v)) → lookupA P H t (.map r) (.str nm) false = some v := by
  refine ⟨fun h => ?_, fun i v h => ?_⟩ <;> simp only [lookupA, ht, hk, hz, entriesA, hg, h, okOr]
theorem update_map {P : Program} {H : Hp} {t kt e r : Nat} {es : List (AV × AV)} {nm : Nm} {x : AV} (ht : P.underlying t = some (.map kt e)) (hk : keyKind P kt = some .string) (hg : H.get r = some (.map es)) :
    (findA .string (.str nm) es 0 = some none → mapUpdateA P H t (.map r) (.str nm) x = some (H.set r (.map (es ++ [(.str nm, x)])))) ∧ ∀ i v, findA .string (.str nm) es 0 = some (some (i, v)) → mapUpdateA P H t (.map r) (.str nm) x = some (H.set r (.map (es.set i (.str nm, x)))) := by
  refine ⟨fun h => ?_, fun i v h => ?_⟩ <;> simp only [mapUpdateA, ht, hk, hg, h]
theorem RepM.look {P : Program} {X : Mx} {H : Hp} {s : MS} {ov : AV} (h : RepM X H s ov) {t kt e : Nat} (ht : P.underlying t = some (.map kt e)) (hk : keyKind P kt = some .string) (hz : zeroV P e = some .nilS) (nm : Nm) :
    ∃ lv, lookupA P H t (.map X.rc) (.str nm) false = some lv ∧ CellV X s nm lv := by
  obtain ⟨l1, l2⟩ := lookup_map (nm := nm) ht hk hz h.c
  rcases find_cEs nm s.cells X.rs 0 h.len with ⟨h1, h2, h3⟩ | ⟨j, r, nm', h1, h2, h3, h4⟩
  · exact ⟨_, l1 h1, .inl ⟨rfl, h2, h3⟩⟩
  · exact ⟨_, l2 _ _ h3, .inr ⟨j, r, nm', h1, h2, rfl, h4⟩⟩
theorem upd_vEs {P : Program} {H : Hp} {t kt e r : Nat} (ht : P.underlying t = some (.map kt e)) (hk : keyKind P kt = some .string) {vs : List (Nm × Int)} (hg : H.get r = some (.map (vEs vs))) (nm : Nm) (x : Int) :
    mapUpdateA P H t (.map r) (.str nm) (.int .i64 x) = some (H.set r (.map (vEs (setV vs nm x)))) := by
  obtain ⟨l1, l2⟩ := update_map (nm := nm) (x := .int .i64 x) ht hk hg
  rcases find_vEs nm vs 0 with ⟨h1, h2, h3⟩ | ⟨j, hj, h1, h3⟩
  · rw [l1 h1, h3]
  · rw [l2 _ _ h1, h3, Nat.zero_add]
theorem CellV.len {P : Program} {X : Mx} {s : MS} {nm : Nm} {lv : AV} (h : CellV X s nm lv) {H : Hp} {t e : TypeId} (ht : P.underlying t = some (.slice e)) : lenAt P H t lv = some (.int .i64 (lkC s.cells nm).length) := by
  rcases h with ⟨rfl, h2, _⟩ | ⟨j, r, nm', _, _, rfl, _⟩
  · rw [h2]; exact lenAt_nil ht
  · exact lenAt_sl ht _ _ _ _
end Go.Ab
namespace Go.Ab
set_option maxRecDepth 20000
set_option linter.unusedVariables false
set_option linter.unusedSectionVars false
open Go
def outB (ov : AV) (r : Nat) : Prop := ∃ n, ov = .sl r 0 n 1
structure FrS (X : Mx) (ex : Nat → Prop) (ov : AV) (H : Hp) (ov' : AV) (H' : Hp) : Prop where
  next : H.next ≤ H'.next
  get : ∀ r, r < H.next → ¬ X.own r → ¬ outB ov r → ¬ ex r → H'.get r = H.get r
  out : ∀ r, outB ov' r → outB ov r ∨ H.next ≤ r
theorem FrS.trans {X : Mx} {ex : Nat → Prop} {oa ob oc : AV} {a b c : Hp} (h : FrS X ex oa a ob b) (k : FrS X ex ob b oc c) : FrS X ex oa a oc c where
  next := Nat.le_trans h.next k.next
  get r h1 h2 h3 h4 := by
    rw [k.get r (Nat.lt_of_lt_of_le h1 h.next) h2 (fun e => ?_) h4]
    · exact h.get r h1 h2 h3 h4
    · rcases h.out r e with e | e
      · exact h3 e
      · omega
  out r h1 := by
    rcases k.out r h1 with e | e
    · exact h.out r e
    · exact .inr (Nat.le_trans h.next e)
theorem FrA.toS {X : Mx} {H H' : Hp} (h : FrA X H H') (ex : Nat → Prop) (ov : AV) : FrS X ex ov H ov H' := ⟨h.next, fun r h1 h2 _ _ => h.get r h1 h2, fun r h => .inl h⟩
theorem FrE.toS {X : Mx} {H H' : Hp} (h : FrE X H H') (ex : Nat → Prop) (ov : AV) : FrS X ex ov H ov H' := h.toA.toS ex ov
theorem FrS.refl (X : Mx) (ex : Nat → Prop) (ov : AV) (H : Hp) : FrS X ex ov H ov H := (FrE.refl X H).toS ex ov
theorem FrS.weak {X : Mx} {ex ex' : Nat → Prop} {oa ob : AV} {a b : Hp} (h : FrS X ex oa a ob b) (hx : ∀ r, r < a.next → ex r → ex' r) : FrS X ex' oa a ob b := ⟨h.next, fun r h1 h2 h3 h4 => h.get r h1 h2 h3 fun e => h4 (hx r h1 e), h.out⟩
theorem RepM.own_lt {X : Mx} {H : Hp} {s : MS} {ov : AV} (h : RepM X H s ov) {r : Nat} (hr : X.own r) : r < H.next := by
  rcases hr with rfl | hr
  · exact h.lm
  · exact h.ls r hr
theorem RepM.out_lt {X : Mx} {H : Hp} {s : MS} {ov : AV} (h : RepM X H s ov) {r : Nat} (hr : outB ov r) : r < H.next := by
  obtain ⟨n, rfl⟩ := hr
  rcases h.out with ⟨h1, _⟩ | ⟨ro, h1, h2, h3, _⟩
  · simp at h1
  · simp only [AV.sl.injEq] at h1
    omega
theorem RepM.other {X : Mx} {H H' : Hp} {s : MS} {ov : AV} (h : RepM X H s ov) (hn : H.next ≤ H'.next) (hg : ∀ r, r < H.next → (X.own r ∨ r = X.rc ∨ r = X.rf ∨ outB ov r) → H'.get r = H.get r) : RepM X H' s ov where
  m := by rw [hg _ h.lm (.inl (.inl rfl))]; exact h.m
  c := by rw [hg _ h.lc (.inr (.inl rfl))]; exact h.c
  f := by rw [hg _ h.lf (.inr (.inr (.inl rfl)))]; exact h.f
  len := h.len
  cell j r nm l h1 h2 := by
    have hr := List.mem_of_getElem? h1
    rw [hg _ (h.ls r hr) (.inl (.inr hr))]
    exact h.cell j r nm l h1 h2
  out := by
    rcases h.out with h1 | ⟨ro, h1, h2, h3, h4, h5, h6⟩
    · exact .inl h1
    · exact .inr ⟨ro, h1, by rw [hg ro h3 (.inr (.inr (.inr ⟨_, h1⟩)))]; exact h2, Nat.lt_of_lt_of_le h3 hn, h4, h5, h6⟩
  lm := Nat.lt_of_lt_of_le h.lm hn
  lc := Nat.lt_of_lt_of_le h.lc hn
  lf := Nat.lt_of_lt_of_le h.lf hn
  ls r hr := Nat.lt_of_lt_of_le (h.ls r hr) hn
  mc' := h.mc'
  mf := h.mf
  ms := h.ms
  cf := h.cf
  cs := h.cs
  fs := h.fs
  nd := h.nd
/-- The variables of a call. -/
structure VarOk (X : Mx) (H : Hp) (rv : Nat) (vs : List (Nm × Int)) (ov : AV) : Prop where
  get : H.get rv = some (.map (vEs vs))
  lt : rv < H.next
  no : ¬ X.own rv
  nc : rv ≠ X.rc
  nf : rv ≠ X.rf
  nb : ¬ outB ov rv
theorem VarOk.nm {X : Mx} {H : Hp} {rv : Nat} {vs : List (Nm × Int)} {ov : AV} (h : VarOk X H rv vs ov) : rv ≠ X.rm := fun e => h.no (.inl e)
theorem RepM.setV {X : Mx} {H : Hp} {s : MS} {ov : AV} {rv : Nat} {vs : List (Nm × Int)} (h : RepM X H s ov) (hv : VarOk X H rv vs ov) (vs' : List (Nm × Int)) :
    RepM X (H.set rv (.map (vEs vs'))) s ov ∧ VarOk X (H.set rv (.map (vEs vs'))) rv vs' ov ∧ FrS X (· = rv) ov H ov (H.set rv (.map (vEs vs'))) := by
  have hne : ∀ r, r ≠ rv → (H.set rv (.map (vEs vs'))).get r = H.get r := fun r hr => by rw [Hp.get_set, if_neg hr]
  refine ⟨h.other (Nat.le_refl _) fun r hr ho => hne r fun e => ?_, ⟨by rw [Hp.get_set, if_pos rfl], hv.lt, hv.no, hv.nc, hv.nf, hv.nb⟩, ⟨Nat.le_refl _, fun r h1 h2 h3 h4 => hne r h4, fun r h1 => .inl h1⟩⟩
  subst e
  rcases ho with ho | ho | ho | ho
  · exact hv.no ho
  · exact hv.nc ho
  · exact hv.nf ho
  · exact hv.nb ho
/-- A block that a call keeps. -/
theorem FrS.keep {X : Mx} {ex : Nat → Prop} {H0 H H' : Hp} {s : MS} {ov ov' : AV} (f : FrS X ex ov H ov' H') (h : RepM X H0 s ov) {r : Nat} (h1 : H0.next ≤ r) (h2 : r < H.next) (h3 : ¬ ex r) : H'.get r = H.get r :=
  f.get r h2 (fun e => by have := h.own_lt e; omega) (fun e => by have := h.out_lt e; omega) h3
/-- A list of numbers in a slice of its own. -/
def IntsR (H : Hp) (v : AV) (l : List Int) : Prop := (v = .nilS ∧ l = []) ∨ ∃ r, v = .sl r 0 l.length 1 ∧ H.get r = some (.cells (ints l) 0 true)
theorem OutR.ints {X : Mx} {H : Hp} {ov : AV} {out : List Int} (h : OutR X H ov out) : IntsR H ov out := by
  rcases h with h | ⟨ro, h1, h2, _⟩
  · exact .inl h
  · exact .inr ⟨ro, h1, h2⟩
/-- A list of numbers, however it lies. -/
def slB (v : AV) (r : Nat) : Prop := ∃ o n z, v = .sl r o n z
def ArgsV (H : Hp) (v : AV) (l : List Int) : Prop :=
  (v = .nilS ∧ l = []) ∨ (v = .lst (l.map fun n => [.int .i64 n])) ∨ ∃ r o cs imm tip, v = .sl r o l.length 1 ∧ H.get r = some (.cells cs imm tip) ∧ ∀ i, i < l.length → cs[o + i]? = some (.int .i64 (l.getD i 0))
theorem ArgsV.at {P : Program} {H : Hp} {v : AV} {l : List Int} (h : ArgsV H v l) {t e : TypeId} {k : IntKind} (ht : P.underlying t = some (.slice e)) (he : P.underlying e = some (.int k)) (hs : sizeA P e = some 1) {i : Nat} (hi : i < l.length) :
    ∃ a, indexAddrA P t v (.int .i64 (i : Int)) = some a ∧ ∀ H' : Hp, (∀ r, slB v r → H'.get r = H.get r) → aload P H' e a = some (.int .i64 (l.getD i 0)) := by
  rcases h with ⟨_, rfl⟩ | rfl | ⟨r, o, cs, imm, tip, rfl, h2, h3⟩
  · simp at hi
  · refine ⟨_, index_lst ht hs (i := i) (row := [.int .i64 (l.getD i 0)]) ?_ rfl, fun H' _ => load_icy he rfl _⟩
    rw [List.getElem?_map, List.getElem?_eq_getElem hi, Option.map_some, List.getD_eq_getElem?_getD, List.getElem?_eq_getElem hi, Option.getD_some]
  · refine ⟨_, index_sl ht hs hi, fun H' hg => ?_⟩
    rw [load_one he rfl (by rw [hg r ⟨_, _, _, rfl⟩]; exact h2), Nat.mul_one]
    exact h3 i hi
theorem ArgsV.mono {H H' : Hp} {v : AV} {l : List Int} (h : ArgsV H v l) (hg : ∀ r, slB v r → H'.get r = H.get r) : ArgsV H' v l := by
  rcases h with h | h | ⟨r, o, cs, imm, tip, h1, h2, h3⟩
  · exact .inl h
  · exact .inr (.inl h)
  · exact .inr (.inr ⟨r, o, cs, imm, tip, h1, by rw [hg r ⟨_, _, _, h1⟩]; exact h2, h3⟩)
theorem ArgsV.len {P : Program} {H H' : Hp} {v : AV} {l : List Int} (h : ArgsV H v l) {t e : TypeId} (ht : P.underlying t = some (.slice e)) : lenAt P H' t v = some (.int .i64 l.length) := by
  rcases h with ⟨rfl, rfl⟩ | rfl | ⟨r, o, cs, imm, tip, rfl, _, _⟩
  · exact lenAt_nil ht
  · rw [lenAt_lst ht]; simp
  · exact lenAt_sl ht _ _ _ _
end Go.Ab
namespace Go.Ab
set_option maxRecDepth 20000
set_option linter.unusedVariables false
open Go
def hasV : List (Nm × Int) → Nm → Bool
  | [], _ => false
  | p :: l, nm => if nm = p.1 then true else hasV l nm
structure Oc where
  kind : Int
  code : Int
  out : List Int
  value : Int
theorem find_has (nm : Nm) : ∀ (vs : List (Nm × Int)) (i : Nat), (hasV vs nm = false → findA .string (.str nm) (vEs vs) i = some none ∧ lkV vs nm = 0) ∧ (hasV vs nm = true → ∃ j, findA .string (.str nm) (vEs vs) i = some (some (j, .int .i64 (lkV vs nm))))
  | [], i => ⟨fun _ => ⟨rfl, rfl⟩, fun h => by simp [hasV] at h⟩
  | p :: l, i => by
    by_cases h : nm = p.1
    · refine ⟨fun h2 => by simp [hasV, h] at h2, fun _ => ⟨i, ?_⟩⟩
      simp [vEs, findA, keyA, lkV, h]
    · have hf : findA .string (.str nm) (vEs (p :: l)) i = findA .string (.str nm) (vEs l) (i + 1) := by
        show findA .string (.str nm) ((.str p.1, .int .i64 p.2) :: vEs l) i = _
        have : (nm == p.1) = false := by simpa using h
        simp [findA, keyA, this]
      have hl : lkV (p :: l) nm = lkV l nm := by simp [lkV, h]
      have hh : hasV (p :: l) nm = hasV l nm := by simp [hasV, h]
      rw [hf, hl, hh]
      exact find_has nm l (i + 1)
theorem look_ok {P : Program} {H : Hp} {t kt e r : Nat} (ht : P.underlying t = some (.map kt e)) (hk : keyKind P kt = some .string) (hz : zeroV P e = some (.int .i64 0)) {vs : List (Nm × Int)} (hg : H.get r = some (.map (vEs vs))) (nm : Nm) :
    lookupA P H t (.map r) (.str nm) true = some (.tup [.int .i64 (lkV vs nm), .bool (hasV vs nm)]) := by
  obtain ⟨h1, h2⟩ := find_has nm vs 0
  cases hh : hasV vs nm with
  | false =>
    obtain ⟨g1, g2⟩ := h1 hh
    simp only [lookupA, ht, hk, hz, entriesA, hg, g1, okOr, g2]
  | true =>
    obtain ⟨j, g1⟩ := h2 hh
    simp only [lookupA, ht, hk, entriesA, hg, g1, okOr]
end Go.Ab
namespace Go.Proofs.Ytjkmbpieknaekaa
set_option maxRecDepth 20000
set_option linter.unusedSimpArgs false
set_option linter.unusedVariables false
set_option linter.unusedSectionVars false
set_option linter.defProp false
open Go Go.Ab
def fnNms (p : Pr) : List (List UInt8) := p.funcs.map (·.name)
def dupB (p : Pr) : Bool := dupFrom [] (arNames p) || dupFrom [] (fnNms p) || p.funcs.any fun f => dupFrom [] (arNames p ++ (f.params ++ f.locals))
theorem dupFrom_append : ∀ (a b seen : List (List UInt8)), dupFrom seen (a ++ b) = (dupFrom seen a || dupFrom (seen ++ a) b)
  | [], b, seen => by simp [dupFrom]
  | x :: a, b, seen => by rw [List.cons_append, dupFrom, dupFrom, dupFrom_append a b, List.append_assoc, List.singleton_append, Bool.or_assoc]
theorem dupFns_eq (an : List (List UInt8)) : ∀ (fs : List Fu) (seen : List (List UInt8)), dupFns an seen fs = (dupFrom seen (fs.map (·.name)) || fs.any fun f => dupFrom an (f.params ++ f.locals))
  | [], seen => rfl
  | f :: fs, seen => by
    rw [dupFns, List.map_cons, dupFrom, List.any_cons, dupFns_eq an fs]
    cases hasS seen f.name <;> cases dupFrom an (f.params ++ f.locals) <;> cases dupFrom (seen ++ [f.name]) (fs.map (·.name)) <;> rfl
theorem dupB_eq (p : Pr) : dupB p = dupP p := by
  rw [dupB, dupP, dupFns_eq]
  cases h : dupFrom [] (arNames p)
  · have e : (fun f : Fu => dupFrom [] (arNames p ++ (f.params ++ f.locals))) = fun f => dupFrom (arNames p) (f.params ++ f.locals) := by
      funext f; rw [dupFrom_append, h]; rfl
    rw [e]; rfl
  · rfl
def fnPar : List Fu → List (Nm × Int) → List (Nm × Int)
  | [], m => m
  | f :: l, m => fnPar l (setV m f.name f.params.length)
theorem lk_set (s a : Nm) (x : Int) : ∀ m : List (Nm × Int), lkV (setV m a x) s = if s = a then x else lkV m s
  | [] => by simp [setV, lkV]
  | q :: l => by
    by_cases h : a = q.1
    · simp only [setV, h, if_true, lkV]
      split <;> rfl
    · simp only [setV, h, if_false, lkV, lk_set s a x l]
      by_cases h2 : s = q.1
      · rw [if_pos h2, if_pos h2, if_neg (fun e => h (by rw [← e, h2]))]
      · rw [if_neg h2, if_neg h2]
theorem has_set (s a : Nm) (x : Int) : ∀ m : List (Nm × Int), hasV (setV m a x) s = (decide (s = a) || hasV m s)
  | [] => by
    by_cases h : s = a <;> simp [setV, hasV, h]
  | q :: l => by
    by_cases h : a = q.1
    · by_cases h2 : s = q.1 <;> simp [setV, hasV, h, h2]
    · have e := has_set s a x l
      by_cases h2 : s = q.1
      · simp [setV, hasV, h, h2]
      · simp [setV, hasV, h, h2, e]
theorem hasS_append (a b : List (List UInt8)) (s : List UInt8) : hasS (a ++ b) s = (hasS a s || hasS b s) := by unfold hasS; rw [List.any_append]
theorem hasS_one (a s : List UInt8) : hasS [a] s = decide (s = a) := by
  unfold hasS; simp only [List.any_cons, List.any_nil, Bool.or_false]
  by_cases h : s = a
  · simp [h]
  · have : ¬ a = s := fun e => h e.symm
    simp [h, this]
theorem fnPar_has (s : Nm) : ∀ (l : List Fu) (m : List (Nm × Int)), hasV (fnPar l m) s = (hasV m s || hasS (l.map (·.name)) s)
  | [], m => by simp [fnPar, hasS]
  | f :: l, m => by
    rw [fnPar, fnPar_has s l, has_set, List.map_cons, show f.name :: l.map (·.name) = [f.name] ++ l.map (·.name) from rfl, hasS_append, hasS_one]
    cases decide (s = f.name) <;> cases hasV m s <;> simp
theorem fnPar_not (s : Nm) : ∀ (l : List Fu) (m : List (Nm × Int)), hasS (l.map (·.name)) s = false → lkV (fnPar l m) s = lkV m s
  | [], m, _ => rfl
  | f :: l, m, h => by
    rw [List.map_cons, show f.name :: l.map (·.name) = [f.name] ++ l.map (·.name) from rfl, hasS_append, hasS_one, Bool.or_eq_false_iff, decide_eq_false_iff_not] at h
    rw [fnPar, fnPar_not s l _ h.2, lk_set, if_neg h.1]
theorem dupFrom_not : ∀ (l seen : List (List UInt8)), dupFrom seen l = false → ∀ s, hasS seen s = true → hasS l s = false
  | [], _, _, _, _ => rfl
  | a :: l, seen, h, s, hs => by
    rw [dupFrom, Bool.or_eq_false_iff] at h
    rw [show a :: l = [a] ++ l from rfl, hasS_append, hasS_one, dupFrom_not l _ h.2 s (by rw [hasS_append, hs]; rfl), Bool.or_false, decide_eq_false_iff_not]
    intro e; rw [← e] at h; rw [hs] at h; simp at h
theorem findF_none : ∀ (l : List Fu) (s : List UInt8) (i : Int), 0 ≤ i → (hasS (l.map (·.name)) s = decide (0 ≤ findF l s i))
  | [], s, i, _ => by simp [hasS, findF]
  | f :: l, s, i, hi => by
    rw [List.map_cons, show f.name :: l.map (·.name) = [f.name] ++ l.map (·.name) from rfl, hasS_append, hasS_one, findF]
    by_cases h : f.name = s
    · rw [if_pos h, decide_eq_true h.symm, Bool.true_or]; simpa using hi
    · rw [if_neg h, decide_eq_false (fun e => h e.symm), Bool.false_or, findF_none l s (i + 1) (by omega)]
theorem parN_find (p : Pr) (s : Nm) : ∀ (l : List Fu) (seen : List (List UInt8)) (m : List (Nm × Int)) (i : Nat), p.funcs.drop i = l → dupFrom seen (l.map (·.name)) = false → 0 ≤ findF l s i →
    ∃ f, p.funcs[(findF l s i).toNat]? = some f ∧ lkV (fnPar l m) s = f.params.length
  | [], _, _, i, _, _, h => by simp [findF] at h
  | f :: l, seen, m, i, hd, hn, h => by
    have hlt : i < p.funcs.length := by
      have := congrArg List.length hd; simp at this; omega
    rw [List.drop_eq_getElem_cons hlt, List.cons.injEq] at hd
    rw [List.map_cons, dupFrom, Bool.or_eq_false_iff] at hn
    rw [findF] at h ⊢
    by_cases e : f.name = s
    · rw [if_pos e]
      refine ⟨f, ?_, ?_⟩
      · rw [Int.toNat_natCast, List.getElem?_eq_getElem hlt, hd.1]
      · have h3 : hasS (l.map (·.name)) s = false := dupFrom_not _ _ hn.2 s (by rw [hasS_append, hasS_one, decide_eq_true e.symm, Bool.or_true])
        rw [fnPar, fnPar_not s l _ h3, lk_set, if_pos e.symm]
    · rw [if_neg e] at h ⊢
      exact parN_find p s l (seen ++ [f.name]) _ (i + 1) hd.2 hn.2 h
theorem hasV_fn (p : Pr) (s : Nm) : hasV (fnPar p.funcs []) s = decide (0 ≤ findF p.funcs s 0) := by
  rw [fnPar_has, findF_none _ _ 0 (by omega)]; rfl
theorem lkV_fn {p : Pr} (hd : dupFrom [] (fnNms p) = false) {s : Nm} (h : 0 ≤ findF p.funcs s 0) : lkV (fnPar p.funcs []) s = parN p s := by
  obtain ⟨f, h1, h2⟩ := parN_find p s p.funcs [] [] 0 rfl hd h
  have h1' : p.funcs[(findF p.funcs s 0).toNat]? = some f := h1
  rw [h2, parN, h1']; rfl
/-- The visitor of statements in 'resolve'; w: a call with a wrong number of arguments was seen. -/
def rsS (fm : List (Nm × Int)) (vs an : List (List UInt8)) (x : St) (_ : Int) (w : Bool) : Bool × Bool :=
  if x.kind = 1 then (hasS vs x.name, w)
  else if x.kind = 2 then (hasS an x.name, w)
  else if x.kind = 6 then (hasV fm x.to && hasS vs x.name, w || (hasV fm x.to && !decide (lkV fm x.to = (x.args.length : Int))))
  else (true, w)
def resFns (fm : List (Nm × Int)) (an : List (List UInt8)) : List Fu → Bool → Int
  | [], w => if w = true then 5 else 0
  | f :: fs, w => if walkFn (fun x _ => defX (f.params ++ f.locals) an x) f = true ∧ (walkS (rsS fm (f.params ++ f.locals) an) f.body 0 w).1 = true then resFns fm an fs (walkS (rsS fm (f.params ++ f.locals) an) f.body 0 w).2 else 3
def resP (p : Pr) : Int := resFns (fnPar p.funcs []) (arNames p) p.funcs false
def proCheck (p : Pr) : Int := if limP p = false then 6 else if wfP p = false then 2 else if dupB p = true then 4 else resP p
mutual
theorem walkE_def (vs an : List (List UInt8)) : ∀ (x : Ex) (d : Int), walkE (fun x _ => defX vs an x) x d = defE vs an x
  | .mk k n s o ks, d => by rw [walkE, defE, walkEs_def vs an ks, Bool.and_comm]
theorem walkEs_def (vs an : List (List UInt8)) : ∀ (l : List Ex) (d : Int), walkEs (fun x _ => defX vs an x) l d = defEs vs an l
  | [], _ => rfl
  | x :: l, d => by rw [walkEs, defEs, walkE_def vs an x, walkEs_def vs an l]
end
section
variable (c : Sc)
mutual
def exOk1 : St → Bool
  | .mk _ _ _ _ a v args th el => defE c.vars c.an a && defE c.vars c.an v && defEs c.vars c.an args && exOkS th && exOkS el
def exOkS : List St → Bool
  | [] => true
  | x :: l => exOk1 x && exOkS l
end
mutual
def nmOk1 : St → Bool
  | .mk k nm to n a v args th el => defStK c (.mk k nm to n a v args th el) && nmOkS th && nmOkS el
def nmOkS : List St → Bool
  | [] => true
  | x :: l => nmOk1 x && nmOkS l
end
mutual
theorem walk1_e : ∀ (x : St) (d : Int), walk1 (inSt fun x _ => defX c.vars c.an x) x d () = (exOk1 c x, ())
  | .mk k nm to n a v args th el, d => by
    rw [walk1, inSt, exOk1]
    simp only [St.at_, St.value, St.args, walkE_def, walkEs_def]
    cases h : defE c.vars c.an a && defE c.vars c.an v && defEs c.vars c.an args
    · simp
    · simp only [walkS_e th, Bool.true_and]
      cases h2 : exOkS c th
      · simp
      · simp only [walkS_e el, Bool.true_and]
theorem walkS_e : ∀ (l : List St) (d : Int), walkS (inSt fun x _ => defX c.vars c.an x) l d () = (exOkS c l, ())
  | [], _ => rfl
  | x :: l, d => by
    rw [walkS, walk1_e x, exOkS]
    cases h : exOk1 c x
    · simp
    · simp only [walkS_e l, Bool.true_and]
end
mutual
theorem chk1_ek : ∀ x : St, chk1 c false x = (exOk1 c x && nmOk1 c x)
  | .mk k nm to n a v args th el => by
    rw [chk1, exOk1, nmOk1, chkS_ek th, chkS_ek el, cond_false, defStX]
    simp only [St.at_, St.value, St.args]
    cases defE c.vars c.an a <;> cases defE c.vars c.an v <;> cases defEs c.vars c.an args <;> cases defStK c (.mk k nm to n a v args th el) <;> cases exOkS c th <;> cases nmOkS c th <;> cases exOkS c el <;> cases nmOkS c el <;> rfl
theorem chkS_ek : ∀ l : List St, chkS c false l = (exOkS c l && nmOkS c l)
  | [] => rfl
  | x :: l => by
    rw [chkS, exOkS, nmOkS, chk1_ek x, chkS_ek l]
    cases exOk1 c x <;> cases nmOk1 c x <;> cases exOkS c l <;> cases nmOkS c l <;> rfl
end
end
theorem rsS_k {p : Pr} (hd : dupFrom [] (fnNms p) = false) (c : Sc) (hc : c.p = p) (x : St) (d : Int) (w : Bool) :
    (defStK c x = true → rsS (fnPar p.funcs []) c.vars c.an x d w = (true, w || !arK p x)) ∧ (defStK c x = false → (rsS (fnPar p.funcs []) c.vars c.an x d w).1 = false) := by
  unfold rsS defStK arK
  rw [hc]
  by_cases h1 : x.kind = 1
  · have h6 : ¬ x.kind = 6 := by omega
    simp only [h1, if_true, Int.reduceEq, decide_false, Bool.false_and, Bool.not_false, Bool.not_true, Bool.or_false]
    exact ⟨fun h => by rw [h], fun h => h⟩
  · by_cases h6 : x.kind = 6
    · simp only [h6, Int.reduceEq, if_false, if_true, decide_true, Bool.true_and, Bool.not_not, hasV_fn]
      cases h : decide (0 ≤ findF p.funcs x.to 0)
      · simp
      · rw [lkV_fn hd (of_decide_eq_true h), Bool.and_true, Bool.true_and, Bool.true_and]
        refine ⟨fun h => ?_, fun h => h⟩
        rw [h]
        have e : decide ((parN p x.to : Int) = (x.args.length : Int)) = decide ((x.args.length : Int) = (parN p x.to : Int)) := by
          by_cases q : (parN p x.to : Int) = (x.args.length : Int)
          · rw [decide_eq_true q, decide_eq_true q.symm]
          · rw [decide_eq_false q, decide_eq_false (fun e => q e.symm)]
        rw [e]
    · by_cases h2 : x.kind = 2
      · simp only [h2, Int.reduceEq, if_false, if_true, decide_false, Bool.false_and, Bool.not_false, Bool.not_true, Bool.or_false]
        exact ⟨fun h => by rw [h], fun h => h⟩
      · simp only [h1, h2, h6, if_false, decide_false, Bool.false_and, Bool.not_false, Bool.not_true, Bool.or_false]
        exact ⟨fun _ => by simp, fun h => by simp at h⟩
section
variable {p : Pr} (hd : dupFrom [] (fnNms p) = false) (c : Sc) (hc : c.p = p)
include hd hc
mutual
theorem walk1_k : ∀ (x : St) (d : Int) (w : Bool), (nmOk1 c x = true → walk1 (rsS (fnPar p.funcs []) c.vars c.an) x d w = (true, w || !chk1 c true x)) ∧ (nmOk1 c x = false → (walk1 (rsS (fnPar p.funcs []) c.vars c.an) x d w).1 = false)
  | .mk k nm to n a v args th el, d, w => by
    have h0 := rsS_k hd c hc (.mk k nm to n a v args th el) d w
    rw [walk1, nmOk1, chk1, cond_true, hc]
    cases e0 : defStK c (.mk k nm to n a v args th el)
    · have := h0.2 e0
      generalize rsS _ _ _ _ _ _ = r at this ⊢
      obtain ⟨b, s⟩ := r
      simp only at this
      subst this
      simp
    · rw [h0.1 e0]
      simp only [Bool.true_and]
      have h1 := walkS_k th (w64 (d + 1)) (w || !arK p (.mk k nm to n a v args th el))
      cases e1 : nmOkS c th
      · have := h1.2 e1
        generalize walkS _ th _ _ = r at this ⊢
        obtain ⟨b, s⟩ := r
        simp only at this
        subst this
        simp
      · rw [h1.1 e1]
        simp only [Bool.true_and]
        have h2 := walkS_k el (w64 (d + 1)) ((w || !arK p (.mk k nm to n a v args th el)) || !chkS c true th)
        cases e2 : nmOkS c el
        · exact ⟨fun h => by simp at h, fun _ => h2.2 e2⟩
        · refine ⟨fun _ => ?_, fun h => by simp at h⟩
          rw [h2.1 e2]
          congr 1
          cases w <;> cases arK p (.mk k nm to n a v args th el) <;> cases chkS c true th <;> cases chkS c true el <;> rfl
theorem walkS_k : ∀ (l : List St) (d : Int) (w : Bool), (nmOkS c l = true → walkS (rsS (fnPar p.funcs []) c.vars c.an) l d w = (true, w || !chkS c true l)) ∧ (nmOkS c l = false → (walkS (rsS (fnPar p.funcs []) c.vars c.an) l d w).1 = false)
  | [], d, w => by
    rw [walkS, nmOkS, chkS]
    exact ⟨fun _ => by simp, fun h => by simp at h⟩
  | x :: l, d, w => by
    have h0 := walk1_k x d w
    rw [walkS, nmOkS, chkS]
    cases e0 : nmOk1 c x
    · have := h0.2 e0
      generalize walk1 _ x _ _ = r at this ⊢
      obtain ⟨b, s⟩ := r
      simp only at this
      subst this
      simp
    · rw [h0.1 e0]
      simp only [Bool.true_and]
      have h2 := walkS_k l d (w || !chk1 c true x)
      cases e2 : nmOkS c l
      · exact ⟨fun h => by simp at h, fun _ => h2.2 e2⟩
      · refine ⟨fun _ => ?_, fun h => by simp at h⟩
        rw [h2.1 e2]
        congr 1
        cases w <;> cases chk1 c true x <;> cases chkS c true l <;> rfl
end
end
theorem resFns_eq {p : Pr} (hd : dupFrom [] (fnNms p) = false) : ∀ (l : List Fu) (w : Bool), resFns (fnPar p.funcs []) (arNames p) l w = if l.any (undFn p) = true then 3 else if (w || l.any (badFn p)) = true then 5 else 0
  | [], w => by simp [resFns]
  | f :: fs, w => by
    have hk := walkS_k hd (scOf p f) rfl f.body 0 w
    have hv : (scOf p f).vars = f.params ++ f.locals := rfl
    have ha : (scOf p f).an = arNames p := rfl
    rw [hv, ha] at hk
    have he : walkFn (fun x _ => defX (f.params ++ f.locals) (arNames p) x) f = (defE (f.params ++ f.locals) (arNames p) f.value && exOkS (scOf p f) f.body) := by
      rw [walkFn, walkE_def]
      have := walkS_e (scOf p f) f.body 0
      rw [hv, ha] at this
      rw [this]
    have hu : undFn p f = !(walkFn (fun x _ => defX (f.params ++ f.locals) (arNames p) x) f && nmOkS (scOf p f) f.body) := by
      rw [undFn, he, chkS_ek, hv, ha]
      cases defE (f.params ++ f.locals) (arNames p) f.value <;> cases exOkS (scOf p f) f.body <;> cases nmOkS (scOf p f) f.body <;> rfl
    rw [resFns, List.any_cons, List.any_cons, hu]
    cases h1 : walkFn (fun x _ => defX (f.params ++ f.locals) (arNames p) x) f
    · simp
    · cases h2 : nmOkS (scOf p f) f.body
      · simp [hk.2 h2]
      · rw [hk.1 h2]
        simp only [and_self, if_true, Bool.and_self, Bool.not_true, Bool.false_or]
        rw [resFns_eq hd fs]
        congr 2
        rw [badFn]
        cases w <;> simp
theorem proCheck_eq (p : Pr) : proCheck p = refCheck p := by
  unfold proCheck refCheck
  rw [limP_eq, dupB_eq]
  cases h1 : exB p
  · simp only [Bool.not_false, Bool.true_eq_false, Bool.false_eq_true, if_false]
    cases h2 : wfP p
    · rfl
    · simp only [Bool.true_eq_false, if_false]
      cases h3 : dupP p
      · simp only [Bool.false_eq_true, if_false]
        have hd : dupFrom [] (fnNms p) = false := by
          rw [← dupB_eq, dupB, Bool.or_eq_false_iff, Bool.or_eq_false_iff] at h3
          exact h3.1.2
        rw [resP, resFns_eq hd]
        simp
      · rfl
  · rfl
end Go.Proofs.Ytjkmbpieknaekaa
namespace Go.Ab
set_option maxRecDepth 20000
open Go
def wkN : Nat → AV → AV
  | 0, v => v
  | n + 1, v => match v with
    | .nilS => .lst []
    | .lst xs => .lst (xs.map fun row => row.map (wkN n))
    | .agg cs => .agg (cs.map (wkN n))
    | .tup cs => .tup (cs.map (wkN n))
    | v => v
theorem VR.wk {G : Gh} : ∀ (n : Nat) {v : AV} {x : Value}, VR G v x → VR G (wkN n v) x
  | 0, _, _, h => h
  | n + 1, v, x, h => by
    cases h with
    | nilS => exact .lst0 _ _
    | lst vs hz hF hv hc =>
      rename_i xs b o cap z
      have := VR.lst (G := G) (xs := xs.map fun row => row.map (wkN n)) (b := b) (o := o) (cap := cap) (z := z) vs ?_ ?_ ?_ ?_
      · rw [List.length_map] at this; exact this
      · intro i row hr
        rw [List.getElem?_map] at hr
        cases hx : xs[i]? with
        | none => rw [hx] at hr; simp at hr
        | some r0 => rw [hx] at hr; simp only [Option.map_some, Option.some.injEq] at hr; rw [← hr, List.length_map]; exact hz i r0 hx
      · intro i j hi hj; rw [List.length_map] at hi; exact hF i j hi hj
      · intro i j row c hr hc2
        rw [List.getElem?_map] at hr
        cases hx : xs[i]? with
        | none => rw [hx] at hr; simp at hr
        | some r0 =>
          rw [hx] at hr; simp only [Option.map_some, Option.some.injEq] at hr
          rw [← hr, List.getElem?_map] at hc2
          cases hy : r0[j]? with
          | none => rw [hy] at hc2; simp at hc2
          | some c0 => rw [hy] at hc2; simp only [Option.map_some, Option.some.injEq] at hc2; rw [← hc2]; exact VR.wk n (hv i j r0 c0 hx hy)
      · rw [List.length_map]; exact hc
    | lst0 a cap => exact .lst0 a cap
    | agg hl hv =>
      refine .agg (by rw [List.length_map]; exact hl) fun i c v hc hv2 => ?_
      rw [List.getElem?_map] at hc
      rename_i cs vs
      cases hy : cs[i]? with
      | none => rw [hy] at hc; simp at hc
      | some c0 => rw [hy] at hc; simp only [Option.map_some, Option.some.injEq] at hc; rw [← hc]; exact VR.wk n (hv i c0 v hy hv2)
    | tup hl hv =>
      refine .tup (by rw [List.length_map]; exact hl) fun i c v hc hv2 => ?_
      rw [List.getElem?_map] at hc
      rename_i cs vs
      cases hy : cs[i]? with
      | none => rw [hy] at hc; simp at hc
      | some c0 => rw [hy] at hc; simp only [Option.map_some, Option.some.injEq] at hc; rw [← hc]; exact VR.wk n (hv i c0 v hy hv2)
    | int k m => exact .int k m
    | sx k e => exact .sx k e
    | bool b => exact .bool b
    | str s l h => exact .str s l h
    | nilP => exact .nilP
    | nilM => exact .nilM
    | nilF => exact .nilF
    | ptr h => exact .ptr h
    | iptr vs hF hv => exact .iptr vs hF hv
    | sl h hl hc => exact .sl h hl hc
    | map h => exact .map h
    | clo hl hv => exact .clo hl hv
theorem Con.wk {P : Program} {ρ : Nat → Int} {f : FuncId} {args : List AV} {r : AV} (n : Nat) (h : Con P ρ f args r) : Con P ρ f args (wkN n r) :=
  ⟨h.1, fun G w vs h1 h2 h3 => (h.2 G w vs h1 h2 h3).mono fun _ _ ⟨v, F1, h4, h5, h6⟩ => ⟨v, F1, h4, h5.wk n, h6⟩⟩
theorem Con.wk' {P : Program} {ρ : Nat → Int} {f : FuncId} {args : List AV} {r r' : AV} (n : Nat) (h : Con P ρ f args r) (e : wkN n r = r') : Con P ρ f args r' := e ▸ h.wk n
end Go.Ab
namespace Go.Ab
set_option maxRecDepth 20000
open Go
variable {P : Program} {cfg : Cfg} {f N : Nat}
theorem Wp.fresh {c : SC} {E : Env} {H : Hp} {Q : AX → Env → Hp → Prop} (cs : List Nat) (h : ∀ E' : Env, (∀ k ∈ cs, E'.at k = E.at k) → Wp P cfg f N c E' H Q) : Wp P cfg f N c E H Q := h E fun _ _ => rfl
end Go.Ab
namespace Go.Ab
set_option maxRecDepth 20000
set_option linter.unusedVariables false
set_option linter.unusedSectionVars false
open Go
def All2 {α β : Type} (p : α → β → Prop) : List α → List β → Prop
  | [], [] => True
  | a :: l, b :: m => p a b ∧ All2 p l m
  | _, _ => False
theorem All2.len {α β : Type} {p : α → β → Prop} : ∀ {l : List α} {m : List β}, All2 p l m → l.length = m.length
  | [], [], _ => rfl
  | _ :: _, _ :: _, h => by simp only [List.length_cons, All2.len h.2]
theorem All2.mono {α β : Type} {p q : α → β → Prop} (h : ∀ a b, p a b → q a b) : ∀ {l : List α} {m : List β}, All2 p l m → All2 q l m
  | [], [], _ => trivial
  | _ :: _, _ :: _, k => ⟨h _ _ k.1, All2.mono h k.2⟩
theorem All2.append {α β : Type} {p : α → β → Prop} : ∀ {l : List α} {m : List β} {l' : List α} {m' : List β}, All2 p l m → All2 p l' m' → All2 p (l ++ l') (m ++ m')
  | [], [], _, _, _, h => h
  | _ :: _, _ :: _, _, _, h, k => ⟨h.1, All2.append h.2 k⟩
theorem All2.refl {α : Type} {p : α → α → Prop} : ∀ {l : List α}, (∀ a ∈ l, p a a) → All2 p l l
  | [], _ => trivial
  | a :: l, h => ⟨h a List.mem_cons_self, All2.refl fun b hb => h b (List.mem_cons_of_mem _ hb)⟩
theorem All2.get {α β : Type} {p : α → β → Prop} : ∀ {l : List α} {m : List β}, All2 p l m → ∀ {i : Nat} {a : α} {b : β}, l[i]? = some a → m[i]? = some b → p a b
  | [], [], _, i, _, _, h, _ => by simp at h
  | a :: l, b :: m, h, 0, _, _, h1, h2 => by
    simp only [List.getElem?_cons_zero, Option.some.injEq] at h1 h2
    subst h1; subst h2; exact h.1
  | a :: l, b :: m, h, i + 1, _, _, h1, h2 => All2.get h.2 (by simpa using h1) (by simpa using h2)
theorem All2.set {α β : Type} {p : α → β → Prop} : ∀ {l : List α} {m : List β}, All2 p l m → ∀ {i : Nat} {a : α} {b : β}, p a b → All2 p (l.set i a) (m.set i b)
  | [], [], _, i, _, _, _ => by simp [All2]
  | _ :: _, _ :: _, h, 0, _, _, k => ⟨k, h.2⟩
  | _ :: _, _ :: _, h, i + 1, _, _, k => ⟨h.1, All2.set h.2 k⟩
theorem All2.take {α β : Type} {p : α → β → Prop} : ∀ {l : List α} {m : List β}, All2 p l m → ∀ i, All2 p (l.take i) (m.take i)
  | [], [], _, i => by simp [All2]
  | _ :: _, _ :: _, h, 0 => by simp [All2]
  | _ :: _, _ :: _, h, i + 1 => ⟨h.1, All2.take h.2 i⟩
theorem All2.drop {α β : Type} {p : α → β → Prop} : ∀ {l : List α} {m : List β}, All2 p l m → ∀ i, All2 p (l.drop i) (m.drop i)
  | [], [], _, i => by simp [All2]
  | _ :: _, _ :: _, h, 0 => h
  | _ :: _, _ :: _, h, i + 1 => All2.drop h.2 i
/-- A value that is its own reading. -/
def flatA (v : AV) : Prop := PureA v ∧ match v with
  | .sl _ _ _ _ | .agg _ => False
  | _ => True
def Ic (S : Nat → Prop) : Nat → Hp → AV → AV → Prop
  | 0, _, _, _ => False
  | n + 1, H, v, u => match v with
    | .sl r off len z => S r ∧ r < H.next ∧ ∃ cs imm tip l, H.get r = some (.cells cs imm tip) ∧ imm ≤ cs.length ∧ off + len * z ≤ cs.length ∧ All2 (Ic S n H) ((cs.drop off).take (len * z)) l ∧ u = .lst (chunk z len l)
    | .agg cs => ∃ ds, All2 (Ic S n H) cs ds ∧ u = .agg ds
    | v => PureA v ∧ u = v
theorem Ic.flat {S : Nat → Prop} {n : Nat} {H : Hp} {v : AV} (h : flatA v) : Ic S (n + 1) H v v := by
  cases v <;> first | exact h.2.elim | exact ⟨h.1, rfl⟩
theorem Ic.up {S : Nat → Prop} {H : Hp} : ∀ {n m : Nat} {v u : AV}, Ic S n H v u → n ≤ m → Ic S m H v u
  | 0, _, _, _, h, _ => h.elim
  | n + 1, 0, _, _, _, hm => by omega
  | n + 1, m + 1, v, u, h, hm => by
    cases v with
    | sl r off len z =>
      obtain ⟨h1, h0, cs, imm, tip, l, h2, h3, h4, h5, h6⟩ := h
      exact ⟨h1, h0, cs, imm, tip, l, h2, h3, h4, h5.mono fun a b k => Ic.up k (by omega), h6⟩
    | agg cs =>
      obtain ⟨ds, h1, h2⟩ := h
      exact ⟨ds, h1.mono fun a b k => Ic.up k (by omega), h2⟩
    | _ => exact h
/-- Two blocks that differ in what can't be changed alone. -/
def SameB (a b : Option HB) : Prop := a = b ∨ ∃ cs i j tip, a = some (.cells cs i tip) ∧ b = some (.cells cs j tip) ∧ (i ≤ cs.length → j ≤ cs.length)
theorem SameB.refl (a : Option HB) : SameB a a := .inl rfl
theorem SameB.trans {a b c : Option HB} (h : SameB a b) (k : SameB b c) : SameB a c := by
  rcases h with rfl | ⟨cs, i, j, tip, rfl, rfl, h⟩
  · exact k
  · rcases k with rfl | ⟨cs', i', j', tip', e, rfl, k⟩
    · exact .inr ⟨cs, i, j, tip, rfl, rfl, h⟩
    · simp only [Option.some.injEq, HB.cells.injEq] at e
      obtain ⟨rfl, rfl, rfl⟩ := e
      exact .inr ⟨cs, i, j', tip, rfl, rfl, fun q => k (h q)⟩
theorem Ic.frame2 {S S' : Nat → Prop} {H H' : Hp} (hS : ∀ k, k < H.next → S k → S' k) (hn : H.next ≤ H'.next) (hf : ∀ k, S k → k < H.next → SameB (H.get k) (H'.get k)) : ∀ {n : Nat} {v u : AV}, Ic S n H v u → Ic S' n H' v u
  | 0, _, _, h => h.elim
  | n + 1, v, u, h => by
    cases v with
    | sl r off len z =>
      obtain ⟨h1, h0, cs, imm, tip, l, h2, h3, h4, h5, h6⟩ := h
      have h5' := h5.mono fun a b k => Ic.frame2 hS hn hf k
      rcases hf r h1 h0 with e | ⟨cs', i, j, tip', e1, e2, e3⟩
      · exact ⟨hS r h0 h1, by omega, cs, imm, tip, l, by rw [← e]; exact h2, h3, h4, h5', h6⟩
      · rw [h2] at e1
        simp only [Option.some.injEq, HB.cells.injEq] at e1
        obtain ⟨rfl, rfl, rfl⟩ := e1
        exact ⟨hS r h0 h1, by omega, cs, j, tip, l, e2, e3 h3, h4, h5', h6⟩
    | agg cs =>
      obtain ⟨ds, h1, h2⟩ := h
      exact ⟨ds, h1.mono fun a b k => Ic.frame2 hS hn hf k, h2⟩
    | _ => exact h
theorem Ic.frame {S S' : Nat → Prop} (hS : ∀ k, S k → S' k) {H H' : Hp} (hn : H.next ≤ H'.next) (hf : ∀ k, S k → k < H.next → SameB (H.get k) (H'.get k)) {n : Nat} {v u : AV} (h : Ic S n H v u) : Ic S' n H' v u := h.frame2 (fun k _ q => hS k q) hn hf
theorem Ic.keep {S : Nat → Prop} {H H' : Hp} (hn : H.next ≤ H'.next) (hf : ∀ k, S k → k < H.next → H'.get k = H.get k) {n : Nat} {v u : AV} (h : Ic S n H v u) : Ic S n H' v u := h.frame (fun _ k => k) hn fun k h1 h2 => .inl (hf k h1 h2).symm
/-- The heaps are the same, but for what can't be changed in blocks of S. -/
structure Icy (S : Nat → Prop) (H H' : Hp) : Prop where
  next : H'.next = H.next
  out : ∀ k, ¬ S k → H'.get k = H.get k
  same : ∀ k, SameB (H.get k) (H'.get k)
theorem Icy.refl (S : Nat → Prop) (H : Hp) : Icy S H H := ⟨rfl, fun _ _ => rfl, fun _ => .inl rfl⟩
theorem Icy.trans {S : Nat → Prop} {a b c : Hp} (h : Icy S a b) (k : Icy S b c) : Icy S a c := ⟨k.next.trans h.next, fun r hr => (k.out r hr).trans (h.out r hr), fun r => (h.same r).trans (k.same r)⟩
theorem Icy.ic {S S' : Nat → Prop} {H H' : Hp} (h : Icy S H H') {n : Nat} {v u : AV} (k : Ic S' n H v u) : Ic S' n H' v u := k.frame (fun _ q => q) (Nat.le_of_eq h.next.symm) fun r _ _ => h.same r
theorem iceHL_all {S : Nat → Prop} {n : Nat} (ih : ∀ {v u : AV} {H : Hp}, Ic S n H v u → ∃ H', iceH n v H = some (u, H') ∧ Icy S H H') : ∀ {l m : List AV} {H : Hp}, All2 (Ic S n H) l m → ∃ H', iceHL (iceH n) l H = some (m, H') ∧ Icy S H H'
  | [], [], H, _ => ⟨H, rfl, Icy.refl S H⟩
  | a :: l, b :: m, H, h => by
    obtain ⟨H1, h1, h2⟩ := ih h.1
    obtain ⟨H2, h3, h4⟩ := iceHL_all ih (l := l) (m := m) (H := H1) (h.2.mono fun a b k => h2.ic k)
    exact ⟨H2, by simp only [iceHL, h1, h3], h2.trans h4⟩
theorem Ic.ice {S : Nat → Prop} : ∀ {n : Nat} {v u : AV} {H : Hp}, Ic S n H v u → ∃ H', iceH n v H = some (u, H') ∧ Icy S H H'
  | 0, _, _, _, h => h.elim
  | n + 1, v, u, H, h => by
    cases v with
    | sl r off len z =>
      obtain ⟨h1, h0, cs, imm, tip, l, h2, h3, h4, h5, rfl⟩ := h
      have hset : Icy S H (H.set r (.cells cs (max imm (off + len * z)) tip)) := by
        refine ⟨rfl, fun k hk => by rw [Hp.get_set, if_neg (fun e => hk (by rw [e]; exact h1))], fun k => ?_⟩
        rw [Hp.get_set]
        split
        · rename_i e; subst e; exact .inr ⟨cs, imm, max imm (off + len * z), tip, h2, rfl, fun _ => by omega⟩
        · exact .inl rfl
      obtain ⟨H', h6, h7⟩ := iceHL_all (fun k => Ic.ice k) (h5.mono fun a b k => hset.ic k)
      refine ⟨H', ?_, hset.trans h7⟩
      have e : iceH (n + 1) (.sl r off len z) H = match H.get r with
        | some (.cells cs imm tip) => match Nat.ble (off + len * z) cs.length && Nat.ble imm cs.length with
          | true => match iceHL (iceH n) ((cs.drop off).take (len * z)) (H.set r (.cells cs (max imm (off + len * z)) tip)) with
            | some (l', H) => some (.lst (chunk z len l'), H)
            | none => none
          | false => none
        | _ => none := rfl
      rw [e, h2]
      have e1 : Nat.ble (off + len * z) cs.length = true := by rw [Nat.ble_eq]; exact h4
      have e2 : Nat.ble imm cs.length = true := by rw [Nat.ble_eq]; exact h3
      simp only [e1, e2, Bool.and_self, h6]
    | agg cs =>
      obtain ⟨ds, h1, rfl⟩ := h
      obtain ⟨H', h2, h3⟩ := iceHL_all (fun k => Ic.ice k) h1
      refine ⟨H', ?_, h3⟩
      have e : iceH (n + 1) (.agg cs) H = match iceHL (iceH n) cs H with
        | some (ds, H) => some (.agg ds, H)
        | none => none := rfl
      rw [e, h2]
    | ptr r o =>
      obtain ⟨k, hk⟩ := h.1
      exact absurd (hk (k + 1) (by omega) H) (by simp [iceV])
    | map r =>
      obtain ⟨k, hk⟩ := h.1
      exact absurd (hk (k + 1) (by omega) H) (by simp [iceV])
    | _ => exact ⟨H, by rw [show u = _ from h.2]; rfl, Icy.refl S H⟩
theorem Ic.iceL {S : Nat → Prop} {n : Nat} {l m : List AV} {H : Hp} (h : All2 (Ic S n H) l m) : ∃ H', iceHL (iceH n) l H = some (m, H') ∧ Icy S H H' := iceHL_all (fun k => Ic.ice k) h
theorem iceL_all {S : Nat → Prop} {n : Nat} {H : Hp} (ih : ∀ {v u : AV}, Ic S n H v u → ∃ m0, ∀ m, m0 ≤ m → iceV H m v = some u) : ∀ {l k : List AV}, All2 (Ic S n H) l k → ∃ m0, ∀ m, m0 ≤ m → iceL (iceV H m) l = some k
  | [], [], _ => ⟨0, fun _ _ => rfl⟩
  | a :: l, b :: k, h => by
    obtain ⟨m1, h1⟩ := ih h.1
    obtain ⟨m2, h2⟩ := iceL_all ih (l := l) (k := k) h.2
    exact ⟨max m1 m2, fun m hm => by simp only [iceL, h1 m (by omega), h2 m (by omega)]⟩
/-- .. read without being made unchangeable. -/
theorem Ic.iceV {S : Nat → Prop} {H : Hp} : ∀ {n : Nat} {v u : AV}, Ic S n H v u → ∃ m0, ∀ m, m0 ≤ m → iceV H m v = some u
  | 0, _, _, h => h.elim
  | n + 1, v, u, h => by
    cases v with
    | sl r off len z =>
      obtain ⟨h1, h0, cs, imm, tip, l, h2, h3, h4, h5, rfl⟩ := h
      obtain ⟨m0, hm0⟩ := iceL_all (fun k => Ic.iceV k) h5
      refine ⟨m0 + 1, fun m hm => ?_⟩
      obtain ⟨m, rfl⟩ : ∃ k, m = k + 1 := ⟨m - 1, by omega⟩
      have e : Ab.iceV H (m + 1) (.sl r off len z) = match H.get r with
        | some (.cells cs _ _) => match Ab.iceL (Ab.iceV H m) ((cs.drop off).take (len * z)) with
          | some l' => if l'.length = len * z then some (.lst (chunk z len l')) else none
          | none => none
        | _ => none := rfl
      have hl : l.length = len * z := by rw [← h5.len, List.length_take, List.length_drop]; omega
      rw [e, h2]
      simp only [hm0 m (by omega), hl, if_true]
    | agg cs =>
      obtain ⟨ds, h1, rfl⟩ := h
      obtain ⟨m0, hm0⟩ := iceL_all (fun k => Ic.iceV k) h1
      refine ⟨m0 + 1, fun m hm => ?_⟩
      obtain ⟨m, rfl⟩ : ∃ k, m = k + 1 := ⟨m - 1, by omega⟩
      have e : Ab.iceV H (m + 1) (.agg cs) = match Ab.iceL (Ab.iceV H m) cs with
        | some ds => some (.agg ds)
        | none => none := rfl
      rw [e, hm0 m (by omega)]
    | _ =>
      obtain ⟨k, hk⟩ := h.1
      exact ⟨k, fun m hm => by rw [hk m hm H, h.2]⟩
/-- Rows of z cells. -/
theorem chunk_rows (z : Nat) : ∀ (rows : List (List AV)), (∀ r ∈ rows, r.length = z) → chunk z rows.length rows.flatten = rows
  | [], _ => rfl
  | r :: rows, h => by
    have h1 := h r List.mem_cons_self
    rw [List.flatten_cons, List.length_cons]
    show (r ++ rows.flatten).take z :: chunk z rows.length ((r ++ rows.flatten).drop z) = _
    rw [List.take_append_of_le_length (by omega), List.take_of_length_le (by omega), List.drop_append_of_le_length (by omega), List.drop_of_length_le (by omega), List.nil_append, chunk_rows z rows fun q hq => h q (List.mem_cons_of_mem _ hq)]
theorem rows_len {z : Nat} : ∀ {rows : List (List AV)}, (∀ r ∈ rows, r.length = z) → rows.flatten.length = rows.length * z
  | [], _ => by simp
  | r :: rows, h => by
    rw [List.flatten_cons, List.length_append, h r List.mem_cons_self, rows_len fun q hq => h q (List.mem_cons_of_mem _ hq), List.length_cons, Nat.succ_mul]; omega
theorem All2.flat {p : AV → AV → Prop} : ∀ {a b : List (List AV)}, All2 (All2 p) a b → All2 p a.flatten b.flatten
  | [], [], _ => trivial
  | _ :: _, _ :: _, h => by rw [List.flatten_cons, List.flatten_cons]; exact h.1.append (All2.flat h.2)
theorem All2.rowlen {p : AV → AV → Prop} {z : Nat} : ∀ {a b : List (List AV)}, All2 (All2 p) a b → (∀ r ∈ a, r.length = z) → ∀ r ∈ b, r.length = z
  | [], [], _, _, r, hr => by simp at hr
  | x :: a, y :: b, h, hz, r, hr => by
    rcases List.mem_cons.1 hr with rfl | hr
    · rw [← h.1.len]; exact hz x List.mem_cons_self
    · exact All2.rowlen h.2 (fun q hq => hz q (List.mem_cons_of_mem _ hq)) r hr
theorem Ic.rows {S : Nat → Prop} {n : Nat} {H : Hp} {r z imm : Nat} {tip : Bool} {a b : List (List AV)} (hS : S r) (hr : r < H.next) (hg : H.get r = some (.cells a.flatten imm tip)) (hi : imm ≤ a.flatten.length) (hz : ∀ x ∈ a, x.length = z) (h : All2 (All2 (Ic S n H)) a b) : Ic S (n + 1) H (.sl r 0 a.length z) (.lst b) := by
  have hl := rows_len hz
  refine ⟨hS, hr, a.flatten, imm, tip, b.flatten, hg, hi, by omega, ?_, ?_⟩
  · rw [List.drop_zero, List.take_of_length_le (by omega)]; exact h.flat
  · rw [h.len, chunk_rows z b (h.rowlen hz)]
/-- An argument that is nil read asx one without elements. -/
theorem VRs.wk {G : Gh} (n : Nat) : ∀ {args : List AV} {vs : List Value}, VRs G args vs → VRs G (args.map (wkN n)) vs
  | [], vs, h => h
  | a :: l, [], h => by have := h.1; simp at this
  | a :: l, v :: vs, h => by
    obtain ⟨h1, h2⟩ := h.of_cons
    exact VRs.cons (h1.wk n) (VRs.wk n h2)
theorem Con.wkA {P : Program} {ρ : Nat → Int} {f : FuncId} {args : List AV} {r : AV} (n : Nat) (h : Con P ρ f (args.map (wkN n)) r) : Con P ρ f args r := ⟨h.1, fun G w vs h1 h2 h3 => h.2 G w vs h1 h2 (h3.wk n)⟩
/-- What is known of f, with nil for rows without elements. -/
def enW (e : En) : En := ⟨e.f, e.ice, fun args => e.sp (args.map (wkN 60))⟩
theorem enW_ok {P : Program} {ρ : Nat → Int} {e : En} (h : EnOk P ρ e) : EnOk P ρ (enW e) := fun args r hr => (h _ r hr).wkA 60
end Go.Ab
