/- Parts: TrapsA. -/
import Derived.Test.YtjkmbpieknaekaaIC3B
set_option linter.unusedSimpArgs false
set_option linter.unusedVariables false
set_option linter.unusedSectionVars false
set_option linter.defProp false
namespace Go.Proofs.Ytjkmbpieknaekaa.tr
set_option maxRecDepth 20000
set_option linter.unusedVariables false
set_option linter.unusedSimpArgs false
set_option linter.unusedSectionVars false
set_option linter.defProp false
open Go Go.Ab
def vp : AV := (.tup [(.agg [.nilS, (.sl 186 0 1 9)]), (.agg [(.int .i64 0), (.int .i64 0)])])
def nx : Nat := 187
def rs : List Nat := [186, 13, 16, 162, 47, 160, 86, 94, 151]
def b186 : List AV := [(.str [102]), (.sl 13 0 2 1), (.sl 16 0 1 1), (.sl 162 0 1 17), (.int .i64 1), (.int .i64 5), (.str []), (.int .i64 0), .nilS]
def b13 : List AV := [(.str [110]), (.str [109])]
def b16 : List AV := [(.str [105])]
def b162 : List AV := [(.int .i64 4), (.str []), (.str []), (.int .i64 0), (.int .i64 0), (.int .i64 0), (.str []), (.int .i64 0), .nilS, (.int .i64 4), (.int .i64 0), (.str []), (.int .i64 17), (.sl 47 0 2 5), .nilS, (.sl 160 0 3 17), .nilS]
def b47 : List AV := [(.int .i64 2), (.int .i64 0), (.str [105]), (.int .i64 0), .nilS, (.int .i64 2), (.int .i64 0), (.str [110]), (.int .i64 0), .nilS]
def b160 : List AV := [(.int .i64 3), (.str []), (.str []), (.int .i64 0), (.int .i64 0), (.int .i64 0), (.str []), (.int .i64 0), .nilS, (.int .i64 4), (.int .i64 0), (.str []), (.int .i64 15), (.sl 86 0 2 5), .nilS, (.sl 94 0 1 17), .nilS, (.int .i64 5), (.str []), (.str []), (.int .i64 0), (.int .i64 0), (.int .i64 0), (.str []), (.int .i64 0), .nilS, (.int .i64 2), (.int .i64 0), (.str [105]), (.int .i64 0), .nilS, .nilS, .nilS, .nilS, (.int .i64 1), (.str [105]), (.str []), (.int .i64 0), (.int .i64 0), (.int .i64 0), (.str []), (.int .i64 0), .nilS, (.int .i64 4), (.int .i64 0), (.str []), (.int .i64 4), (.sl 151 0 2 5), .nilS, .nilS, .nilS]
def b86 : List AV := [(.int .i64 2), (.int .i64 0), (.str [105]), (.int .i64 0), .nilS, (.int .i64 2), (.int .i64 0), (.str [109]), (.int .i64 0), .nilS]
def b94 : List AV := [(.int .i64 7), (.str []), (.str []), (.int .i64 0), (.int .i64 0), (.int .i64 0), (.str []), (.int .i64 0), .nilS, (.int .i64 0), (.int .i64 0), (.str []), (.int .i64 0), .nilS, .nilS, .nilS, .nilS]
def b151 : List AV := [(.int .i64 2), (.int .i64 0), (.str [105]), (.int .i64 0), .nilS, (.int .i64 1), (.int .i64 1), (.str []), (.int .i64 0), .nilS]
def b94c (c : Int) : List AV := [(.int .i64 7), (.str []), (.str []), (.int .i64 c), (.int .i64 0), (.int .i64 0), (.str []), (.int .i64 0), .nilS, (.int .i64 0), (.int .i64 0), (.str []), (.int .i64 0), .nilS, .nilS, .nilS, .nilS]
def bl (c : Int) : List (Nat × List AV) := [(186, b186), (13, b13), (16, b16), (162, b162), (47, b47), (160, b160), (86, b86), (94, b94c c), (151, b151)]
noncomputable def enScan : En := enK 42 knSTraps.list
noncomputable abbrev levT : List En := lev6 [enPick, enScan]
theorem levT_ok (ρ : Nat → Int) : EnsOk Try.prog ρ levT := lev6_ok ρ ⟨enPick_ok ρ, enK_ok _ (knSTraps.ok ρ), trivial⟩
set_option maxRecDepth 100000 in
theorem parse_left : leftB rs (ev Try.prog (cfgN pls levT) 100000 (.call 24 knSTraps.a0 H0)) = some (vp, nx, [some (.cells b186 0 true), some (.cells b13 0 true), some (.cells b16 0 true), some (.cells b162 0 true), some (.cells b47 0 true), some (.cells b160 0 true), some (.cells b86 0 true), some (.cells b94 0 true), some (.cells b151 0 true)]) := by kernel_rfl
def vE (s : Nm) : Ex := .mk 2 0 s 0 []
def trapS (c : Int) : St := .mk 7 [] [] c zE zE [] [] []
def fT (c : Int) : Fu := ⟨[102], [[110], [109]], [[105]], [.mk 4 [] [] 0 zE (.mk 4 0 [] 17 [vE [105], vE [110]]) [] [.mk 3 [] [] 0 zE (.mk 4 0 [] 15 [vE [105], vE [109]]) [] [trapS c] [], .mk 5 [] [] 0 zE (vE [105]) [] [] [], .mk 1 [105] [] 0 zE (.mk 4 0 [] 4 [vE [105], .mk 1 1 [] 0 []]) [] [] []] []], .mk 1 5 [] 0 []⟩
def pc (c : Int) : Pr := ⟨[], [fT c]⟩
theorem read (c : Int) : rdB (bl c) 20 (.agg [.nilS, .sl 186 0 1 9]) = some (.agg (pc c).cells) := by kernel_rfl
theorem trap_wf {c : Int} (h0 : 0 ≤ c) (h1 : c ≤ 1000000) : wfStX (trapS c) = true := by
  simp [wfStX, wfStK, trapS, St.kind, St.n, St.name, St.to, St.args, St.at_, St.value, h0, h1]
  exact ⟨by kernel_rfl, by kernel_rfl, by kernel_rfl⟩
theorem pc_wf {c : Int} (h0 : 0 ≤ c) (h1 : c ≤ 1000000) : wfP (pc c) = true := by
  have h := trap_wf h0 h1
  simp only [pc, fT, wfP, wfFn, List.all_cons, List.all_nil, wfSs, wfSt_eq, St.thn, St.els, h]
  show (_ : Bool) = true
  kernel_rfl
theorem pc_valid {c : Int} (h0 : 0 ≤ c) (h1 : c ≤ 1000000) : Valid (pc c) := ⟨by kernel_rfl, pc_wf h0 h1, by kernel_rfl, by kernel_rfl, by kernel_rfl⟩
theorem pc_fix (c : Int) : fixOf (pc c) = [([102], 0)] := by kernel_rfl
theorem pc_run {c : Int} (h0 : 0 ≤ c) (h1 : c ≤ 1000000) (k m : Int) : RunA.ok ⟨pc c, [102], [k, m], 20⟩ where
  v := pc_valid h0 h1
  sz := by show (pc c).sz < 2 ^ 36; rw [show (pc c).sz = (pc 0).sz from by kernel_rfl]; decide +kernel
  f0 := by show (0 : Int) ≤ 20; decide
  f1 := by show (20 : Int) ≤ 1000; decide
  has := by show hasV (fixOf (pc c)) _ = true; rw [pc_fix]; rfl
  k0 := by show 0 ≤ lkV (fixOf (pc c)) _; rw [pc_fix]; show (0 : Int) ≤ lkV [([102], 0)] [102]; decide
  fn := by
    refine ⟨fT c, ?_, rfl⟩
    show (pc c).funcs[(lkV (fixOf (pc c)) _).toNat]? = _
    rw [pc_fix]; rfl
  al := by simp
def nums (n : Nat) : List Int := (List.range n).map fun (i : Nat) => (i : Int)
noncomputable def resT (k m : Nat) (c : Int) : Int × MS := bsel (Nat.blt m k) (0, ⟨20 - (m + 1), 2, w64 (16 + c), [], nums m⟩) (5, ⟨20 - k, 0, 0, [], nums k⟩)
set_option maxRecDepth 100000 in
theorem all_runs (c : Int) : ((List.range 9).map fun (k : Nat) => (List.range 12).map fun (m : Nat) => callM (pc c) [([102], 0)] 40 0 [(k : Int), (m : Int)] (startM (pc c) 20)) = ((List.range 9).map fun (k : Nat) => (List.range 12).map fun (m : Nat) => some (resT k m c)) := by kernel_rfl
theorem runT {k m c : Int} (hk : 0 ≤ k ∧ k < 9) (hm : 0 ≤ m ∧ m < 12) (h0 : 0 ≤ c) (h1 : c ≤ 1000000) : runG ⟨pc c, [102], [k, m], 20⟩ = if m < k then ⟨2, 16 + c, nums m.toNat, 0⟩ else ⟨1, 0, nums k.toNat, 5⟩ := by
  obtain ⟨k, rfl⟩ := Int.eq_ofNat_of_zero_le hk.1
  obtain ⟨m, rfl⟩ := Int.eq_ofNat_of_zero_le hm.1
  have h := List.map_inj_left.1 (all_runs c) k (List.mem_range.2 (by omega))
  have h := List.map_inj_left.1 h m (List.mem_range.2 (by omega))
  rw [runG_eq (pc_run h0 h1 k m) (n := 40) (r := resT k m c) (by show callM (pc c) (fixOf (pc c)) 40 (lkV (fixOf (pc c)) [102]) _ _ = _; rw [pc_fix]; exact h)]
  by_cases hlt : m < k
  · have hb : Nat.blt m k = true := by rw [Nat.blt_eq]; exact hlt
    have hw : w64 (16 + c) = 16 + c := i64_id (by omega) (by omega)
    rw [if_pos (by omega), resT, hb, hw]; rfl
  · have hb : Nat.blt m k = false := by cases e : Nat.blt m k with
      | false => rfl
      | true => rw [Nat.blt_eq] at e; omega
    rw [if_neg (by omega), resT, hb]; rfl
end Go.Proofs.Ytjkmbpieknaekaa.tr
