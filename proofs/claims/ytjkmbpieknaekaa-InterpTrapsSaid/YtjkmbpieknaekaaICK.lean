/- Parts: GOk, Std, W6a, W6b, W6c, Sem6b, W6d, W6e. -/
import Derived.Test.YtjkmbpieknaekaaICJ
set_option linter.unusedSimpArgs false
set_option linter.unusedVariables false
set_option linter.unusedSectionVars false
set_option linter.defProp false
namespace Go.Proofs.Ytjkmbpieknaekaa
set_option maxRecDepth 20000
set_option linter.unusedSimpArgs false
set_option linter.unusedVariables false
set_option linter.unusedSectionVars false
set_option linter.defProp false
open Go Go.Ab
def anG : List (List UInt8) := [[97], [98]]
theorem nms_in (f : Int) {m : Int} (h : 0 ≤ m) : (nmsG f).getD (m.tmod (nmsG f).length).toNat [] ∈ nmsG f := by
  have hl : ((nmsG f).length : Int) ≠ 0 := by unfold nmsG; split <;> simp
  have := (getD_tmod (nmsG f) hl h []).2
  exact List.mem_of_getElem? this
theorem nms_ok (f : Int) {s : List UInt8} (h : s ∈ nmsG f) : nameB s = true ∧ hasS (nmsG f) s = true := by
  unfold nmsG at h ⊢
  split at h <;> simp only [List.mem_cons, List.not_mem_nil, or_false] at h
  · rename_i e
    rw [if_pos e]
    rcases h with rfl | rfl | rfl | rfl <;> exact ⟨by kernel_rfl, by kernel_rfl⟩
  · rename_i e
    rw [if_neg e]
    rcases h with rfl | rfl <;> exact ⟨by kernel_rfl, by kernel_rfl⟩
theorem arr_ok (m : Int) : nameB (arrG m) = true ∧ hasS anG (arrG m) = true := by
  unfold arrG
  split <;> exact ⟨by kernel_rfl, by kernel_rfl⟩
theorem fg_ok (m : Int) : nameB (fgG m) = true := by
  unfold fgG
  split <;> kernel_rfl
/-- An expression that is well-formed, uses what is defined, and is not deep. -/
structure ExOk (f : Int) (k : Nat) (x : Ex) : Prop where
  wf : wfE x = true
  df : defE (nmsG f) anG x = true
  dp : depE x ≤ k
theorem exprG_ok (f : Int) : ∀ (k deep : Nat) (L : List Int), 5 ≤ deep + k → deep ≤ 4 → ExOk f k (exprG f k deep L).1
  | 0, deep, L, h1, h2 => by omega
  | k + 1, deep, L, h1, h2 => by
    have ih : deep ≤ 3 → ∀ L, ExOk f k (exprG f k (deep + 1) L).1 := fun hd L => exprG_ok f k (deep + 1) L (by omega) (by omega)
    have hq := pickG_range (n := (nextG L).1) (m := 16) (by omega) (by omega)
    have hm := pickG_range (n := w64 ((nextG L).1.tdiv 16)) (m := 1000) (by omega) (by omega)
    simp only [exprG]
    generalize pickG (nextG L).1 16 = q at hq ⊢
    generalize pickG (w64 ((nextG L).1.tdiv 16)) 1000 = m at hm ⊢
    split
    · split
      · obtain ⟨n1, n2⟩ := nms_ok f (nms_in f hm.1)
        generalize (nmsG f).getD (m.tmod (nmsG f).length).toNat [] = nm at n1 n2 ⊢
        refine ⟨?_, ?_, by simp [depE, depEs]⟩
        · simp [wfE, wfEs, wfX, Ex.kind, Ex.kids, Ex.n, Ex.op, Ex.name, n1]
        · simp [defE, defEs, defX, Ex.kind, Ex.name, n2]
      · exact ⟨by simp [wfE, wfEs, wfX, Ex.kind, Ex.kids, Ex.n, Ex.op, Ex.name], by simp [defE, defEs, defX, Ex.kind, Ex.name], by simp [depE, depEs]⟩
    · rename_i hn
      have hd : deep ≤ 3 := by omega
      have ih := ih hd
      obtain ⟨a1, a2⟩ := arr_ok m
      split
      · have i1 := ih (nextG L).2
        refine ⟨?_, ?_, ?_⟩
        · simp [wfE, wfEs, wfX, Ex.kind, Ex.kids, Ex.n, Ex.op, Ex.name, a1, i1.wf]
        · simp [defE, defEs, defX, Ex.kind, Ex.name, a2, i1.df]
        · have := i1.dp; simp only [depE, depEs]; omega
      · split
        · have i1 := ih (nextG L).2
          have i2 := ih (exprG f k (deep + 1) (nextG L).2).2
          have i3 := ih (exprG f k (deep + 1) (exprG f k (deep + 1) (nextG L).2).2).2
          refine ⟨?_, ?_, ?_⟩
          · simp [wfE, wfEs, wfX, Ex.kind, Ex.kids, Ex.n, Ex.op, Ex.name, i1.wf, i2.wf, i3.wf]
          · simp [defE, defEs, defX, Ex.kind, Ex.name, i1.df, i2.df, i3.df]
          · have := i1.dp; have := i2.dp; have := i3.dp; simp only [depE, depEs]; omega
        · split
          · have i1 := ih (nextG L).2
            have ho : op2G m = 20 ∨ op2G m = 21 := by unfold op2G; split <;> simp
            refine ⟨?_, ?_, ?_⟩
            · rcases ho with ho | ho <;> simp [wfE, wfEs, wfX, Ex.kind, Ex.kids, Ex.n, Ex.op, Ex.name, i1.wf, ho]
            · simp [defE, defEs, defX, Ex.kind, Ex.name, i1.df]
            · have := i1.dp; simp only [depE, depEs]; omega
          · have i1 := ih (nextG L).2
            have i2 := ih (exprG f k (deep + 1) (nextG L).2).2
            have t1 := Int.tmod_nonneg 15 hm.1
            have t2 := Int.tmod_lt_of_pos m (show (0 : Int) < 15 by omega)
            have ho : isBinB (w64 (4 + m.tmod 15)) = true := by
              unfold w64; rw [i64_id (by omega) (by omega)]
              simp only [isBinB, Bool.and_eq_true, decide_eq_true_eq]; omega
            refine ⟨?_, ?_, ?_⟩
            · simp [wfE, wfEs, wfX, Ex.kind, Ex.kids, Ex.n, Ex.op, Ex.name, i1.wf, i2.wf, ho]
            · simp [defE, defEs, defX, Ex.kind, Ex.name, i1.df, i2.df]
            · have := i1.dp; have := i2.dp; simp only [depE, depEs]; omega
theorem argsG_ok (f : Int) : ∀ (n : Nat) (L : List Int), wfEs (argsG f n L).1 = true ∧ defEs (nmsG f) anG (argsG f n L).1 = true ∧ ((argsG f n L).1.any fun e => decide ((20 : Int) < depE e)) = false ∧ (argsG f n L).1.length = n
  | 0, _ => ⟨rfl, rfl, rfl, rfl⟩
  | n + 1, L => by
    obtain ⟨h1, h2, h3, h4⟩ := argsG_ok f n (exprG f 3 2 L).2
    have h := exprG_ok f 3 2 L (by omega) (by omega)
    have hd : ¬ (20 : Int) < depE (exprG f 3 2 L).1 := by have := h.dp; omega
    refine ⟨?_, ?_, ?_, ?_⟩
    · rw [argsG, wfEs, h.wf, h1]; rfl
    · rw [argsG, defEs, h.df, h2]; rfl
    · rw [argsG, List.any_cons, h3, decide_eq_false hd]; rfl
    · rw [argsG, List.length_cons, h4]
/-- A scope in which a generated function lies. -/
structure ScG (f : Int) (c : Sc) : Prop where
  vars : c.vars = nmsG f
  an : c.an = anG
  to : ∀ m : Int, 0 ≤ m → 0 ≤ findF c.p.funcs (fgG m) 0 ∧ ((2 - m.tmod 2).toNat = parN c.p (fgG m))
structure StOk (c : Sc) (k : Nat) (s : Sd) (x : St) (t : Sd) : Prop where
  wf : wfSt x = true
  df : chk1 c false x = true
  ar : chk1 c true x = true
  dp : deep1 x = false
  n : n1 x + t.1.length ≤ s.1.length
  w : (w1 x : Int) + s.2 = t.2
  wb : t.2 ≤ 10
  m : ∀ d, m1 x d ≤ d + k
structure StsOk (c : Sc) (k : Nat) (s : Sd) (l : List St) (t : Sd) : Prop where
  wf : wfSs l = true
  df : chkS c false l = true
  ar : chkS c true l = true
  dp : deepS l = false
  n : nS l + t.1.length ≤ s.1.length
  w : (wS l : Int) + s.2 = t.2
  wb : t.2 ≤ 10
  m : ∀ d, mS l d ≤ d + k
theorem stsG_ok {c : Sc} {k : Nat} {step : Sd → St × Sd} (h : ∀ s : Sd, s.1 ≠ [] → 0 ≤ s.2 → s.2 ≤ 10 → StOk c k s (step s).1 (step s).2) : ∀ (n : Nat) (s : Sd), 0 ≤ s.2 → s.2 ≤ 10 → StsOk c k s (stsG step n s).1 (stsG step n s).2
  | 0, s, h0, h1 => ⟨rfl, rfl, rfl, rfl, by simp [stsG, nS], by simp [stsG, wS], h1, fun d => by simp [stsG, mS]⟩
  | n + 1, s, h0, h1 => by
    rw [stsG]
    by_cases hs : s.1 = []
    · rw [if_pos hs]
      exact ⟨rfl, rfl, rfl, rfl, by simp [nS], by simp [wS], h1, fun d => by simp [mS]⟩
    · rw [if_neg hs]
      have a := h s hs h0 h1
      have aw := a.w
      have b := stsG_ok h n (step s).2 (by omega) a.wb
      have bw := b.w
      have an := a.n
      have bn := b.n
      refine ⟨?_, ?_, ?_, ?_, ?_, ?_, b.wb, fun d => ?_⟩
      · simp only [wfSs, a.wf, b.wf]; rfl
      · simp only [chkS, a.df, b.df]; rfl
      · simp only [chkS, a.ar, b.ar]; rfl
      · simp only [deepS, a.dp, b.dp]; rfl
      · simp only [nS]; omega
      · simp only [wS]; omega
      · have := a.m d; have := b.m d
        simp only [mS]; omega
theorem zE_ok (f : Int) : zeroE zE = true ∧ defE (nmsG f) anG zE = true ∧ depE zE = 0 := ⟨by simp [zeroE, zE, Ex.kind, Ex.n, Ex.op, Ex.name, Ex.kids], by simp [zE, defE, defEs, defX, Ex.kind], by simp [zE, depE, depEs]⟩
theorem stmtT_ok {f : Int} {c : Sc} (hc : ScG f c) {k : Nat} {sub : Int → Sd → List St × Sd} {s : Sd} {L1 : List Int} {q m : Int} (hL : L1.length < s.1.length) (hm : 0 ≤ m) (hm1 : m < 1000) (h0 : 0 ≤ s.2) (h1 : s.2 ≤ 10) (hq : 10 ≤ q → s.2 < 10) (hq0 : 0 ≤ q)
    (hs : 8 ≤ q → q < 12 → 1 ≤ k ∧ ∀ (most : Int) (s : Sd), 0 ≤ s.2 → s.2 ≤ 10 → StsOk c (k - 1) s (sub most s).1 (sub most s).2) : StOk c k s (stmtT sub f L1 s.2 q m).1 (stmtT sub f L1 s.2 q m).2 := by
  obtain ⟨z1, z2, z3⟩ := zE_ok f
  obtain ⟨n1', n2'⟩ := nms_ok f (nms_in f hm)
  obtain ⟨a1, a2⟩ := arr_ok m
  have g1 := fg_ok m
  obtain ⟨g2, g3⟩ := hc.to m hm
  have e50 := exprG_ok f 5 0 L1 (by omega) (by omega)
  have e32 := exprG_ok f 3 2 L1 (by omega) (by omega)
  have e41 := exprG_ok f 4 1 L1 (by omega) (by omega)
  have e43 := exprG_ok f 4 1 (exprG f 3 2 L1).2 (by omega) (by omega)
  have l50 := exprG_len f 5 0 L1
  have l32 := exprG_len f 3 2 L1
  have l41 := exprG_len f 4 1 L1
  have l43 := exprG_len f 4 1 (exprG f 3 2 L1).2
  obtain ⟨r1, r2, r3, r4⟩ := argsG_ok f (2 - m.tmod 2).toNat L1
  have lar := argsG_len f (2 - m.tmod 2).toNat L1
  have d50 : ¬ (20 : Int) < depE (exprG f 5 0 L1).1 := by have := e50.dp; omega
  have d32 : ¬ (20 : Int) < depE (exprG f 3 2 L1).1 := by have := e32.dp; omega
  have d41 : ¬ (20 : Int) < depE (exprG f 4 1 L1).1 := by have := e41.dp; omega
  have d43 : ¬ (20 : Int) < depE (exprG f 4 1 (exprG f 3 2 L1).2).1 := by have := e43.dp; omega
  rw [stmtT]
  generalize (nmsG f).getD (m.tmod (nmsG f).length).toNat [] = nm at n1' n2' ⊢
  have hv := hc.vars
  have ha := hc.an
  by_cases c1 : q < 6
  · rw [if_pos c1]
    refine ⟨?_, ?_, ?_, ?_, ?_, ?_, h1, fun d => ?_⟩
    · simp [wfSt, wfSs, wfStX, wfEs, wfStK, flatB, St.kind, St.thn, St.els, St.name, St.to, St.n, St.at_, St.value, St.args, n1', z1, e50.wf]
    · simp [chk1, chkS, defStX, defEs, defStK, St.kind, St.name, St.at_, St.value, St.args, hv, ha, n2', z2, e50.df]
    · simp [chk1, chkS, arK, St.kind]
    · simp [deep1, deepS, z3, d50]
    · simp only [n1, nS]; omega
    · simp [w1, wS]
    · simp [m1, mS]
  rw [if_neg c1]
  by_cases c2 : q < 8
  · rw [if_pos c2]
    refine ⟨?_, ?_, ?_, ?_, ?_, ?_, h1, fun d => ?_⟩
    · simp [wfSt, wfSs, wfStX, wfEs, wfStK, flatB, St.kind, St.thn, St.els, St.name, St.to, St.n, St.at_, St.value, St.args, a1, e32.wf, e43.wf]
    · simp [chk1, chkS, defStX, defEs, defStK, St.kind, St.name, St.at_, St.value, St.args, hv, ha, a2, e32.df, e43.df]
    · simp [chk1, chkS, arK, St.kind]
    · simp [deep1, deepS, d32, d43]
    · simp only [n1, nS]; omega
    · simp [w1, wS]
    · simp [m1, mS]
  rw [if_neg c2]
  by_cases c3 : q < 10
  · rw [if_pos c3]
    obtain ⟨hk, hsub⟩ := hs (by omega) (by omega)
    have sa := hsub 3 ((exprG f 4 1 L1).2, s.2) h0 h1
    have saw := sa.w
    have san := sa.n
    have sb := hsub 2 (sub 3 ((exprG f 4 1 L1).2, s.2)).2 (by simp only at saw; omega) sa.wb
    have sbw := sb.w
    have sbn := sb.n
    refine ⟨?_, ?_, ?_, ?_, ?_, ?_, sb.wb, fun d => ?_⟩
    · simp [wfSt, wfStX, wfEs, wfStK, onlyB, St.kind, St.thn, St.els, St.name, St.to, St.n, St.at_, St.value, St.args, z1, e41.wf, sa.wf, sb.wf]
    · simp [chk1, defStX, defEs, defStK, St.kind, St.name, St.at_, St.value, St.args, hv, ha, z2, e41.df, sa.df, sb.df]
    · simp [chk1, arK, St.kind, sa.ar, sb.ar]
    · simp [deep1, z3, d41, sa.dp, sb.dp]
    · simp only [n1]; simp only at san; omega
    · simp only [w1]; simp only at saw; rw [if_neg (by omega)]; omega
    · have := sa.m (d + 1); have := sb.m (d + 1)
      simp only [m1]; omega
  rw [if_neg c3]
  by_cases c4 : q < 12
  · rw [if_pos c4]
    obtain ⟨hk, hsub⟩ := hs (by omega) (by omega)
    have hlt := hq (by omega)
    have hw : w64 (s.2 + 1) = s.2 + 1 := by unfold w64; rw [i64_id (by omega) (by omega)]
    rw [hw]
    have sa := hsub 3 ((exprG f 4 1 L1).2, s.2 + 1) (by simp only; omega) (by simp only; omega)
    have saw := sa.w
    have san := sa.n
    refine ⟨?_, ?_, ?_, ?_, ?_, ?_, sa.wb, fun d => ?_⟩
    · simp [wfSt, wfSs, wfStX, wfEs, wfStK, onlyB, St.kind, St.thn, St.els, St.name, St.to, St.n, St.at_, St.value, St.args, z1, e41.wf, sa.wf]
    · simp [chk1, chkS, defStX, defEs, defStK, St.kind, St.name, St.at_, St.value, St.args, hv, ha, z2, e41.df, sa.df]
    · simp [chk1, chkS, arK, St.kind, sa.ar]
    · simp [deep1, deepS, z3, d41, sa.dp]
    · simp only [n1, nS]; simp only at san; omega
    · simp only [w1, wS]; simp only at saw; simp only [if_true]; omega
    · have := sa.m (d + 1)
      simp only [m1, mS]; omega
  rw [if_neg c4]
  by_cases c5 : q < 14
  · rw [if_pos c5]
    refine ⟨?_, ?_, ?_, ?_, ?_, ?_, h1, fun d => ?_⟩
    · simp [wfSt, wfSs, wfStX, wfEs, wfStK, flatB, onlyB, St.kind, St.thn, St.els, St.name, St.to, St.n, St.at_, St.value, St.args, z1, e41.wf]
    · simp [chk1, chkS, defStX, defEs, defStK, St.kind, St.name, St.at_, St.value, St.args, hv, ha, z2, e41.df]
    · simp [chk1, chkS, arK, St.kind]
    · simp [deep1, deepS, z3, d41]
    · simp only [n1, nS]; omega
    · simp [w1, wS]
    · simp [m1, mS]
  rw [if_neg c5]
  by_cases c6 : q < 15
  · rw [if_pos c6]
    refine ⟨?_, ?_, ?_, ?_, ?_, ?_, h1, fun d => ?_⟩
    · simp [wfSt, wfSs, wfStX, wfStK, flatB, St.kind, St.thn, St.els, St.name, St.to, St.n, St.at_, St.value, St.args, n1', z1, g1, r1]
    · simp [chk1, chkS, defStX, defStK, St.kind, St.name, St.to, St.at_, St.value, St.args, hv, ha, z2, n2', g2, r2]
    · have : (((argsG f (2 - m.tmod 2).toNat L1).1.length : Nat) : Int) = parN c.p (fgG m) := by rw [r4, g3]
      simp [chk1, chkS, arK, St.kind, St.args, St.to, this]
    · simp only [deep1, deepS, z3, r3]; decide
    · simp only [n1, nS]; omega
    · simp [w1, wS]
    · simp [m1, mS]
  rw [if_neg c6]
  refine ⟨?_, ?_, ?_, ?_, ?_, ?_, h1, fun d => ?_⟩
  · have e : m ≤ 1000000 := by omega
    simp [wfSt, wfSs, wfStX, wfEs, wfStK, flatB, St.kind, St.thn, St.els, St.name, St.to, St.n, St.at_, St.value, St.args, z1, hm, e]
  · simp [chk1, chkS, defStX, defEs, defStK, St.kind, St.name, St.at_, St.value, St.args, hv, ha, z2]
  · simp [chk1, chkS, arK, St.kind]
  · simp [deep1, deepS, z3]
  · simp only [n1, nS]; omega
  · simp [w1, wS]
  · simp [m1, mS]
theorem nextG_lt {L : List Int} (h : L ≠ []) : (nextG L).2.length < L.length := by
  cases L with
  | nil => exact absurd rfl h
  | cons a l => simp [nextG]
theorem StsOk.more {c : Sc} {k : Nat} {s s' : Sd} {l : List St} {t : Sd} (h : StsOk c k s' l t) (h1 : s'.1.length ≤ s.1.length) (h2 : s'.2 = s.2) : StsOk c k s l t := ⟨h.wf, h.df, h.ar, h.dp, Nat.le_trans h.n h1, h2 ▸ h.w, h.wb, h.m⟩
theorem stmtG_ok {f : Int} {c : Sc} (hc : ScG f c) : ∀ (k deep : Nat), 4 ≤ deep + k → deep ≤ 3 → ∀ s : Sd, s.1 ≠ [] → 0 ≤ s.2 → s.2 ≤ 10 → StOk c (k - 1) s (stmtG f k deep s).1 (stmtG f k deep s).2
  | 0, deep, h1, h2 => by omega
  | k + 1, deep, h1, h2 => fun s hs h0 h10 => by
    have hm := pickG_range (n := w64 ((nextG s.1).1.tdiv 16)) (m := 1000) (by omega) (by omega)
    have hq := pickG_range (n := (nextG s.1).1) (m := 16) (by omega) (by omega)
    rw [stmtG, stmtB]
    refine stmtT_ok hc (nextG_lt hs) hm.1 hm.2 h0 h10 ?_ ?_ ?_
    · unfold kindG; split <;> omega
    · unfold kindG; split <;> omega
    · intro a b
      have hd : deep ≤ 2 := by
        unfold kindG at a b
        split at a <;> omega
      have e : k + 1 - 1 - 1 = k - 1 := by omega
      rw [e]
      refine ⟨by omega, fun most s g0 g1 => StsOk.more (stsG_ok (fun s hs h0 h1 => ?_) _ ((nextG s.1).2, s.2) g0 g1) (nextG_len _) rfl⟩
      exact stmtG_ok hc k (deep + 1) (by omega) (by omega) s hs h0 h1
theorem stmtsG_ok {f : Int} {c : Sc} (hc : ScG f c) {k deep : Nat} (h1 : 4 ≤ deep + k) (h2 : deep ≤ 3) (most : Int) {s : Sd} (h3 : 0 ≤ s.2) (h4 : s.2 ≤ 10) : StsOk c (k - 1) s (stmtsG f k deep most s).1 (stmtsG f k deep most s).2 :=
  StsOk.more (stsG_ok (fun s hs h0 h1' => stmtG_ok hc k deep h1 h2 s hs h0 h1') _ ((nextG s.1).2, s.2) h3 h4) (nextG_len _) rfl
theorem findG (L : List Int) : findF [genF L, genGf L] [102] 0 = 0 ∧ findF [genF L, genGf L] [103] 0 = 1 := ⟨rfl, rfl⟩
theorem scG (f : Int) (l : List Int) {F : Fu} (h : F.params ++ F.locals = nmsG f) : ScG f (scOf (genP l) F) := by
  refine ⟨h, rfl, fun m hm => ?_⟩
  have h1 := Int.tmod_nonneg 2 hm
  have h2 := Int.tmod_lt_of_pos m (show (0 : Int) < 2 by omega)
  show 0 ≤ findF [genF (l.take 60), genGf (l.take 60)] (fgG m) 0 ∧ _
  unfold fgG
  by_cases e : m.tmod 2 = 0
  · rw [if_pos e, e]; exact ⟨by rw [(findG _).1]; omega, rfl⟩
  · rw [if_neg e, show m.tmod 2 = 1 by omega]; exact ⟨by rw [(findG _).2]; omega, rfl⟩
theorem genP_ok (l : List Int) : refCheck (genP l) = 0 := by
  have hl : (l.take 60).length ≤ 60 := by simp; omega
  have c0 : ScG 0 (scOf (genP l) (genF (l.take 60))) := scG 0 l rfl
  have c1 : ScG 1 (scOf (genP l) (genGf (l.take 60))) := scG 1 l rfl
  obtain ⟨L, hL⟩ : ∃ L, l.take 60 = L := ⟨_, rfl⟩
  rw [hL] at hl c0 c1
  have b1 : StsOk (scOf (genP l) (genF L)) 3 ((nextG L).2, 0) (genB1 L).1 (genB1 L).2 := stmtsG_ok c0 (k := 4) (deep := 0) (by omega) (by omega) 5 (s := ((nextG L).2, 0)) (by simp) (by simp)
  have v1 : ExOk 0 4 (genV1 L).1 := exprG_ok 0 4 1 _ (by omega) (by omega)
  have b1w := b1.w
  have b2 : StsOk (scOf (genP l) (genGf L)) 2 ((genV1 L).2, (genB1 L).2.2) (genB2 L).1 (genB2 L).2 := stmtsG_ok c1 (k := 3) (deep := 1) (by omega) (by omega) 3 (s := ((genV1 L).2, (genB1 L).2.2)) (by simp only at b1w ⊢; omega) b1.wb
  have v2 : ExOk 1 4 (genV2 L).1 := exprG_ok 1 4 1 _ (by omega) (by omega)
  have b1n := b1.n
  have b2n := b2.n
  have b2w := b2.w
  have b1b := b1.wb
  have b2b := b2.wb
  simp only at b1n b2n b1w b2w
  have n0 := nextG_len L
  have n1 : (genV1 L).2.length ≤ (genB1 L).2.1.length := exprG_len 0 4 1 _
  have p1 := pickG_range (n := (nextG L).1) (m := 4) (by omega) (by omega)
  have p2 := pickG_range (n := w64 ((nextG L).1.tdiv 4)) (m := 4) (by omega) (by omega)
  have hp : genP l = ⟨genAr L, [genF L, genGf L]⟩ := by rw [genP, hL]
  have m1 := b1.m 0
  have m2 := b2.m 0
  have d1 := v1.dp
  have d2 := v2.dp
  have hex : exB (genP l) = false := by
    rw [hp]
    simp only [exB, genAr, List.any_cons, List.any_nil, exAr, exFn, genF, genGf, List.length_cons, List.length_nil, b1.dp, b2.dp, Bool.or_false, Bool.or_eq_false_iff, decide_eq_false_iff_not]
    refine ⟨⟨⟨decide_eq_false (by omega), ?_⟩, ?_⟩, ?_⟩ <;> omega
  have hwf : wfP (genP l) = true := by
    rw [hp]
    have q : ∀ s ∈ ([[102], [103], [120], [121], [105], [106], [110], [97], [98]] : List (List UInt8)), nameB s = true := by
      intro s hs
      simp only [List.mem_cons, List.not_mem_nil, or_false] at hs
      rcases hs with rfl | rfl | rfl | rfl | rfl | rfl | rfl | rfl | rfl <;> kernel_rfl
    simp only [wfP, genAr, List.all_cons, List.all_nil, wfFn, fnNames, genF, genGf, List.cons_append, List.nil_append, b1.wf, b2.wf, v1.wf, v2.wf, Bool.and_true, Bool.and_eq_true]
    simp [q]
  have hdu : dupP (genP l) = false := by rw [hp]; kernel_rfl
  have hun : (genP l).funcs.any (undFn (genP l)) = false := by
    have e : (genP l).funcs = [genF L, genGf L] := by rw [hp]
    rw [e]
    have w1 : defE (scOf (genP l) (genF L)).vars (scOf (genP l) (genF L)).an (genF L).value = true := by rw [c0.vars, c0.an]; exact v1.df
    have w2 : defE (scOf (genP l) (genGf L)).vars (scOf (genP l) (genGf L)).an (genGf L).value = true := by rw [c1.vars, c1.an]; exact v2.df
    have x1 : chkS (scOf (genP l) (genF L)) false (genF L).body = true := b1.df
    have x2 : chkS (scOf (genP l) (genGf L)) false (genGf L).body = true := b2.df
    simp only [List.any_cons, List.any_nil, undFn, w1, w2, x1, x2]; rfl
  have hba : (genP l).funcs.any (badFn (genP l)) = false := by
    have e : (genP l).funcs = [genF L, genGf L] := by rw [hp]
    rw [e]
    have x1 : chkS (scOf (genP l) (genF L)) true (genF L).body = true := b1.ar
    have x2 : chkS (scOf (genP l) (genGf L)) true (genGf L).body = true := b2.ar
    simp only [List.any_cons, List.any_nil, badFn, x1, x2]; rfl
  rw [refCheck, hex, hwf, hdu, hun, hba]; rfl
end Go.Proofs.Ytjkmbpieknaekaa
namespace Go.Proofs.Ytjkmbpieknaekaa
set_option maxRecDepth 20000
set_option linter.unusedVariables false
open Go Go.Ab
/-- The functions that may be known at some arguments. -/
def kn (f : FuncId) : Bool := f == 24 || f == 23 || f == 16 || f == 14
structure Std (cfg : Cfg) : Prop where
  plain : ∀ f, kn f = false → Plain cfg f
  keep : ∀ f, cfg.keep f = false
  plan : cfg.plan = planK pls
end Go.Proofs.Ytjkmbpieknaekaa
namespace Go.Proofs.Ytjkmbpieknaekaa
set_option maxRecDepth 20000
set_option linter.unusedSimpArgs false
set_option linter.unusedVariables false
set_option linter.unusedSectionVars false
set_option linter.defProp false
set_option maxRecDepth 20000
open Go Go.Ab
namespace tyW6a
def tyF := And.intro @tq2 (And.intro @tq3 (And.intro @tq127 (And.intro @tq134 (And.intro @cv2_127 (And.intro @cv2_134 (And.intro @cv127_2 (And.intro @bin_quo (@un_xor))))))))
end tyW6a
open tyW6a
noncomputable def code86 : { c : SC // slim 4 (Try.f86.body.getD .skip) = c } := by
  refine ⟨?_, ?_⟩
  rotate_left
  · simp only [Try.f86, Option.getD_some, slim, slimR, slimL, slimD, slimG, Nat.blt, Nat.ble]
    rfl
noncomputable def code49 : { c : SC // slim 15 (Try.f49.body.getD .skip) = c } := by
  refine ⟨?_, ?_⟩
  rotate_left
  · simp only [Try.f49, Option.getD_some, slim, slimR, slimL, slimD, slimG, Nat.blt, Nat.ble]
    rfl
noncomputable def code99 : { c : SC // slim 14 (Try.f99.body.getD .skip) = c } := by
  refine ⟨?_, ?_⟩
  rotate_left
  · simp only [Try.f99, Option.getD_some, slim, slimR, slimL, slimD, slimG, Nat.blt, Nat.ble]
    rfl
noncomputable def code50 : { c : SC // slim 61 (Try.f50.body.getD .skip) = c } := by
  refine ⟨?_, ?_⟩
  rotate_left
  · simp only [Try.f50, Option.getD_some, slim, slimR, slimL, slimD, slimG, Nat.blt, Nat.ble]
    rfl
noncomputable def code25 : { c : SC // slim 58 (Try.f25.body.getD .skip) = c } := by
  refine ⟨?_, ?_⟩
  rotate_left
  · simp only [Try.f25, Option.getD_some, slim, slimR, slimL, slimD, slimG, Nat.blt, Nat.ble]
    rfl
theorem truth_wp {cfg : Cfg} (hS : Std cfg) (b : Bool) (H : Hp) : WpCall Try.prog cfg 86 [.bool b] H fun v H' => v = .int .i64 (truI b) ∧ H' = H := by
  cases b <;>
  · refine WpCall.slim (M := 4) (rs := [.tmp 2]) ((hS.plain _ rfl).call _) (hS.plain _ rfl).ice (hS.plain _ rfl).froz Try.func86 rfl rfl code86.2 rfl ?_; dsimp only [code86, envOf, Nat.reduceAdd]
    repeat' (first
       | (apply Rx.nl ?_; clear hK K) | apply Rx.o ?_ | (apply Rx.cd (fun hb hbp => ?_) (fun hb hbp => ?_) <;> try (cases hb; done)) | apply Wp.seq ?_ | (apply Wp.ops' fun K hK => ?_) | apply Rx.sk ?_ | apply Rx.rt ?_)
    all_goals (refine ⟨eI, _, eR, ?_⟩; try simp only [oneOr])
    simp [truI]
theorem quotient_wp {cfg : Cfg} (hS : Std cfg) (a b : Int) (H : Hp) : WpCall Try.prog cfg 49 [.int .i64 a, .int .i64 b] H fun v H' => v = .int .i64 (quoI a b) ∧ H' = H := by
  refine WpCall.slim (M := 15) (rs := [.tmp 4]) ((hS.plain _ rfl).call _) (hS.plain _ rfl).ice (hS.plain _ rfl).froz Try.func49 rfl rfl code49.2 rfl ?_; dsimp only [code49, envOf, Nat.reduceAdd]
  repeat' (first
     | (apply Rx.nl ?_; clear hK K) | apply Rx.o ?_ | (apply Rx.cd (fun hb hbp => ?_) (fun hb hbp => ?_) <;> try (cases hb; done)) | apply Wp.seq ?_ | (apply Wp.ops' fun K hK => ?_) | apply Wp.block ?_ | apply Rx.sk ?_ | apply Rx.rt ?_)
  · all_goals (refine ⟨eI, _, eR, ?_⟩; try simp only [oneOr])
    simp_all [quoI]
  · all_goals (refine ⟨eI, _, eR, ?_⟩; try simp only [oneOr])
    simp_all [quoI]
  · have hb0 : b ≠ 0 := by assumption
    repeat' (first
       | (apply Rx.nl ?_; clear hK K) | apply Rx.o ?_ | (apply Rx.cd (fun hb hbp => ?_) (fun hb hbp => ?_) <;> try (cases hb; done)) | apply Wp.seq ?_ | (apply Wp.ops' fun K hK => ?_) | apply Wp.block ?_ | apply Rx.sk ?_ | apply Rx.rt ?_)
    all_goals (refine ⟨eI, _, eR, ?_⟩; try simp only [oneOr])
    simp_all [quoI]
theorem unary_wp {cfg : Cfg} (hS : Std cfg) (op a : Int) (H : Hp) : WpCall Try.prog cfg 99 [.int .i64 op, .int .i64 a] H fun v H' => v = .int .i64 (unI op a) ∧ H' = H := by
  refine WpCall.slim (M := 14) (rs := [.tmp 4]) ((hS.plain _ rfl).call _) (hS.plain _ rfl).ice (hS.plain _ rfl).froz Try.func99 rfl rfl code99.2 rfl ?_; dsimp only [code99, envOf, Nat.reduceAdd]
  repeat' (first
     | (apply Rx.nl ?_; clear hK K) | apply Rx.o ?_ | (apply Rx.cd (fun hb hbp => ?_) (fun hb hbp => ?_) <;> try (cases hb; done)) | apply Wp.seq ?_ | (apply Wp.ops' fun K hK => ?_) | apply Wp.block ?_ | apply Rx.sk ?_ | apply Rx.rt ?_)
  all_goals (refine ⟨eI, _, eR, ?_⟩; try simp only [oneOr])
  all_goals simp_all [unI]
set_option maxHeartbeats 4000000 in
theorem cmp_wp {cfg : Cfg} (hS : Std cfg) (op a b : Int) (H : Hp) : WpCall Try.prog cfg 50 [.int .i64 op, .int .i64 a, .int .i64 b] H fun v H' => v = .int .i64 (cmpI op a b) ∧ H' = H := by
  have hby := byI_nonneg b
  have hs1 : binA Try.prog cfg.dec .shl 2 (.int .i64 a) (.int .u64 (byI b)) = _ := bin_shl hby
  have hs2 : binA Try.prog cfg.dec .shr 2 (.int .i64 a) (.int .u64 (byI b)) = _ := bin_shr hby
  have hs3 : binA Try.prog cfg.dec .shr 127 (.int .u64 (IntKind.wrap .u64 a)) (.int .u64 (byI b)) = _ := bin_shr hby
  unfold byI at hs1 hs2 hs3
  refine WpCall.slim (M := 61) (rs := [.tmp 6]) ((hS.plain _ rfl).call _) (hS.plain _ rfl).ice (hS.plain _ rfl).froz Try.func50 rfl rfl code50.2 rfl ?_; dsimp only [code50, envOf, Nat.reduceAdd]
  repeat' (first
     | (apply Rx.nl ?_; clear hK K) | apply Rx.o ?_ | (apply Rx.call ?_; first | refine Rx.k (truth_wp hS _ _) ?_) | (apply Rx.cd (fun hb hbp => ?_) (fun hb hbp => ?_) <;> try (cases hb; done)) | apply Wp.seq ?_ | (apply Wp.ops' fun K hK => ?_) | apply Wp.block ?_ | apply Rx.sk ?_ | apply Rx.rt ?_)
  all_goals (refine ⟨eI, _, eR, ?_⟩; try simp only [oneOr])
  all_goals simp_all [cmpI, byI]
set_option maxHeartbeats 4000000 in
theorem binary_wp {cfg : Cfg} (hS : Std cfg) (op a b : Int) (H : Hp) : WpCall Try.prog cfg 25 [.int .i64 op, .int .i64 a, .int .i64 b] H fun v H' => v = .int .i64 (binI op a b) ∧ H' = H := by
  refine WpCall.slim (M := 58) (rs := [.tmp 6]) ((hS.plain _ rfl).call _) (hS.plain _ rfl).ice (hS.plain _ rfl).froz Try.func25 rfl rfl code25.2 rfl ?_; dsimp only [code25, envOf, Nat.reduceAdd]
  repeat' (first
     | (apply Rx.nl ?_; clear hK K) | apply Rx.o ?_ | (apply Rx.call ?_; first | refine Rx.k (quotient_wp hS _ _ _) ?_ | refine Rx.k (cmp_wp hS _ _ _ _) ?_) | (apply Rx.cd (fun hb hbp => ?_) (fun hb hbp => ?_) <;> try (cases hb; done)) | apply Wp.seq ?_ | (apply Wp.ops' fun K hK => ?_) | apply Wp.block ?_ | apply Rx.sk ?_ | apply Rx.rt ?_)
  all_goals (refine ⟨eI, _, eR, ?_⟩; try simp only [oneOr])
  all_goals simp_all [binI]
end Go.Proofs.Ytjkmbpieknaekaa
namespace Go.Proofs.Ytjkmbpieknaekaa
set_option maxRecDepth 20000
set_option linter.unusedSimpArgs false
set_option linter.unusedVariables false
set_option linter.unusedSectionVars false
set_option linter.defProp false
set_option maxRecDepth 20000
open Go Go.Ab
namespace tyW6b
def tyF := And.intro @tq3 (And.intro @tq25 (And.intro @tq52 (And.intro @tq83 (And.intro @tq84 (And.intro @tq86 (And.intro @tq2 (And.intro @ints_len (@take_set))))))))
end tyW6b
open tyW6b
noncomputable def code98 : { c : SC // slim 16 (Try.f98.body.getD .skip) = c } := by
  refine ⟨?_, ?_⟩
  rotate_left
  · simp only [Try.f98, Option.getD_some, slim, slimR, slimL, slimD, slimG, Nat.blt, Nat.ble]
    rfl
noncomputable def code110 : { c : SC // slim 22 (Try.f110.body.getD .skip) = c } := by
  refine ⟨?_, ?_⟩
  rotate_left
  · simp only [Try.f110, Option.getD_some, slim, slimR, slimL, slimD, slimG, Nat.blt, Nat.ble]
    rfl
noncomputable def code109 : { c : SC // slim 27 (Try.f109.body.getD .skip) = c } := by
  refine ⟨?_, ?_⟩
  rotate_left
  · simp only [Try.f109, Option.getD_some, slim, slimR, slimL, slimD, slimG, Nat.blt, Nat.ble]
    rfl
theorem trap_wp {cfg : Cfg} (hS : Std cfg) (X : Mx) (s : MS) (ov : AV) (c : Int) (H : Hp) (hR : RepM X H s ov) :
    WpCall Try.prog cfg 98 [.ptr X.rm 0, .int .i64 c] H fun v H' => RepM X H' (trapM c s) ov ∧ FrE X H H' := by
  have hm := hR.m
  unfold mc at hm
  by_cases h0 : s.fin = 0
  · refine WpCall.slim (M := 16) (rs := []) ((hS.plain _ rfl).call _) (hS.plain _ rfl).ice (hS.plain _ rfl).froz Try.func98 rfl rfl code98.2 rfl ?_; dsimp only [code98, envOf, Nat.reduceAdd]
    repeat' (first
       | (apply Rx.nl ?_; clear hK K) | apply Ry.o ?_ | apply Ry.on ?_ | (apply Ry.cd (fun hb hbp => ?_) (fun hb hbp => ?_) <;> try (cases hb; done)) | apply Wp.seq ?_ | (apply Wp.ops' fun K hK => ?_) | apply Rx.sk ?_)
    all_goals (refine ⟨eI, _, eR, ?_⟩; try simp only [oneOr])
    have fr : ∀ a b, FrE X H ((H.set X.rm a).set X.rm b) := fun a b => ((FrE.refl _ _).set (.inl rfl) _).set (.inl rfl) _
    refine ⟨hR.upd (fr _ _) ?_ ?_ ?_, fr _ _⟩
    · simp only [Hp.get_set, if_true, mc, trapM, h0]
    · simp only [trapM, h0, if_true]
    · simp only [trapM, h0, if_true]
  · refine WpCall.slim (M := 16) (rs := []) ((hS.plain _ rfl).call _) (hS.plain _ rfl).ice (hS.plain _ rfl).froz Try.func98 rfl rfl code98.2 rfl ?_; dsimp only [code98, envOf, Nat.reduceAdd]
    repeat' (first
       | (apply Rx.nl ?_; clear hK K) | apply Ry.o ?_ | apply Ry.on ?_ | (apply Ry.cd (fun hb hbp => ?_) (fun hb hbp => ?_) <;> try (cases hb; done)) | apply Wp.seq ?_ | (apply Wp.ops' fun K hK => ?_) | apply Rx.sk ?_)
    all_goals (refine ⟨eI, _, eR, ?_⟩; try simp only [oneOr])
    rw [trapM, if_neg h0]
    exact ⟨hR, FrE.refl _ _⟩
theorem tick_wp {cfg : Cfg} (hS : Std cfg) (X : Mx) (s : MS) (ov : AV) (H : Hp) (hR : RepM X H s ov) :
    WpCall Try.prog cfg 110 [.ptr X.rm 0] H fun v H' => RepM X H' (tickM s) ov ∧ FrE X H H' := by
  have hm := hR.m
  unfold mc at hm
  by_cases h0 : s.fin = 0
  · by_cases h1 : s.fuel = 0
    · refine WpCall.slim (M := 22) (rs := []) ((hS.plain _ rfl).call _) (hS.plain _ rfl).ice (hS.plain _ rfl).froz Try.func110 rfl rfl code110.2 rfl ?_; dsimp only [code110, envOf, Nat.reduceAdd]
      repeat' (first
         | (apply Rx.nl ?_; clear hK K) | apply Ry.o ?_ | apply Ry.on ?_ | (apply Ry.cd (fun hb hbp => ?_) (fun hb hbp => ?_) <;> try (cases hb; done)) | apply Wp.seq ?_ | (apply Wp.ops' fun K hK => ?_) | apply Rx.sk ?_ | apply Rx.rt ?_)
      all_goals (refine ⟨eI, _, eR, ?_⟩; try simp only [oneOr])
      have fr : ∀ a, FrE X H (H.set X.rm a) := fun a => (FrE.refl _ _).set (.inl rfl) _
      refine ⟨hR.upd (fr _) ?_ ?_ ?_, fr _⟩ <;> simp [tickM, h0, h1, mc, Hp.get_set]
    · refine WpCall.slim (M := 22) (rs := []) ((hS.plain _ rfl).call _) (hS.plain _ rfl).ice (hS.plain _ rfl).froz Try.func110 rfl rfl code110.2 rfl ?_; dsimp only [code110, envOf, Nat.reduceAdd]
      repeat' (first
         | (apply Rx.nl ?_; clear hK K) | apply Ry.o ?_ | apply Ry.on ?_ | (apply Ry.cd (fun hb hbp => ?_) (fun hb hbp => ?_) <;> try (cases hb; done)) | apply Wp.seq ?_ | (apply Wp.ops' fun K hK => ?_) | apply Rx.sk ?_ | apply Rx.rt ?_)
      all_goals (refine ⟨eI, _, eR, ?_⟩; try simp only [oneOr])
      have fr : ∀ a, FrE X H (H.set X.rm a) := fun a => (FrE.refl _ _).set (.inl rfl) _
      refine ⟨hR.upd (fr _) ?_ ?_ ?_, fr _⟩ <;> simp [tickM, h0, h1, mc, Hp.get_set]
  · refine WpCall.slim (M := 22) (rs := []) ((hS.plain _ rfl).call _) (hS.plain _ rfl).ice (hS.plain _ rfl).froz Try.func110 rfl rfl code110.2 rfl ?_; dsimp only [code110, envOf, Nat.reduceAdd]
    repeat' (first
       | (apply Rx.nl ?_; clear hK K) | apply Ry.o ?_ | apply Ry.on ?_ | (apply Ry.cd (fun hb hbp => ?_) (fun hb hbp => ?_) <;> try (cases hb; done)) | apply Wp.seq ?_ | (apply Wp.ops' fun K hK => ?_) | apply Rx.sk ?_ | apply Rx.rt ?_)
    all_goals (refine ⟨eI, _, eR, ?_⟩; try simp only [oneOr])
    rw [tickM, if_pos h0]
    exact ⟨hR, FrE.refl _ _⟩
theorem store_wp {cfg : Cfg} (hS : Std cfg) (X : Mx) (s : MS) (ov : AV) (nm : Nm) (lv : AV) (a x : Int) (H : Hp) (hR : RepM X H s ov) (hL : CellV X s nm lv) :
    WpCall Try.prog cfg 109 [.ptr X.rm 0, lv, .int .i64 a, .int .i64 x] H fun v H' => RepM X H' (storeM nm a x s) ov ∧ FrA X H H' := by
  have hlen : lenAt Try.prog H 52 lv = _ := hL.len Try.underlying52
  by_cases hbad : a < 0 ∨ ((lkC s.cells nm).length : Int) ≤ a
  · rw [storeM_bad hbad]
    have hbad2 : ¬ a < 0 → ((lkC s.cells nm).length : Int) ≤ a := fun h => by omega
    refine WpCall.slim (M := 27) (rs := []) ((hS.plain _ rfl).call _) (hS.plain _ rfl).ice (hS.plain _ rfl).froz Try.func109 rfl rfl code109.2 rfl ?_; dsimp only [code109, envOf, Nat.reduceAdd]
    repeat' (first
       | (apply Rx.nl ?_; clear hK K) | apply Rx.o ?_ | apply Rx.on ?_ | apply Rx.gu ?_ | (apply Rx.gd (fun hg hgp => ?_) (fun hg hgp => ?_) <;> try (cases hg; done)) | (apply Rx.cd (fun hb hbp => ?_) (fun hb hbp => ?_) <;> try (cases hb; done)) | apply Wp.seq ?_ | (apply Wp.ops' fun K hK => ?_) | apply Rx.sk ?_)
    · refine WpL.call rfl eVk eAk ?_; simp only [List.cons_append, List.nil_append, List.append_nil]
      refine WpCall.mono ?_ (trap_wp hS X s ov 2 H hR)
      rintro v H2 ⟨hR2, hf2⟩
      dsimp only [setO]
      have hm2 := hR2.m
      unfold mc at hm2
      have hfin := trapM_fin 2 s
      repeat' (first
         | (apply Rx.nl ?_; clear hK K) | apply Ry.o ?_ | apply Ry.on ?_ | apply Ry.gu ?_ | (apply Ry.gd (fun hg hgp => ?_) (fun hg hgp => ?_) <;> try (cases hg; done)) | (apply Ry.cd (fun hb hbp => ?_) (fun hb hbp => ?_) <;> try (cases hb; done)) | apply Wp.seq ?_ | (apply Wp.ops' fun K hK => ?_) | apply Rx.sk ?_)
      all_goals (refine ⟨eI, _, eR, ?_⟩; try simp only [oneOr])
      exact ⟨hR2, hf2.toA⟩
    · refine WpL.call rfl eVk eAk ?_; simp only [List.cons_append, List.nil_append, List.append_nil]
      refine WpCall.mono ?_ (trap_wp hS X s ov 2 H hR)
      rintro v H2 ⟨hR2, hf2⟩
      dsimp only [setO]
      have hm2 := hR2.m
      unfold mc at hm2
      have hfin := trapM_fin 2 s
      repeat' (first
         | (apply Rx.nl ?_; clear hK K) | apply Ry.o ?_ | apply Ry.on ?_ | apply Ry.gu ?_ | (apply Ry.gd (fun hg hgp => ?_) (fun hg hgp => ?_) <;> try (cases hg; done)) | (apply Ry.cd (fun hb hbp => ?_) (fun hb hbp => ?_) <;> try (cases hb; done)) | apply Wp.seq ?_ | (apply Wp.ops' fun K hK => ?_) | apply Rx.sk ?_)
      all_goals (refine ⟨eI, _, eR, ?_⟩; try simp only [oneOr])
      exact ⟨hR2, hf2.toA⟩
  · have ha0 : 0 ≤ a := by omega
    have hal : a < (lkC s.cells nm).length := by omega
    rw [storeM_ok ha0 hal]
    have h1 : ¬ a < 0 := by omega
    have h2 : ¬ ((lkC s.cells nm).length : Int) ≤ a := by omega
    have hm := hR.m
    unfold mc at hm
    by_cases h0 : s.fin = 0
    · rcases hL with ⟨rfl, h4, _⟩ | ⟨j, r, nm', hr, hc, rfl, hset⟩
      · rw [h4] at hal; simp at hal; omega
      · have hg := hR.cell j r nm' _ hr hc
        have hlt : a.toNat < (lkC s.cells nm).length := by omega
        have hle : a.toNat + 1 ≤ (lkC s.cells nm).length := hlt
        refine WpCall.slim (M := 27) (rs := []) ((hS.plain _ rfl).call _) (hS.plain _ rfl).ice (hS.plain _ rfl).froz Try.func109 rfl rfl code109.2 rfl ?_; dsimp only [code109, envOf, Nat.reduceAdd]
        repeat' (first
           | (apply Rx.nl ?_; clear hK K) | apply Ry.o ?_ | apply Ry.on ?_ | apply Ry.gu ?_ | (apply Ry.gd (fun hg hgp => ?_) (fun hg hgp => ?_) <;> try (cases hg; done)) | (apply Ry.cd (fun hb hbp => ?_) (fun hb hbp => ?_) <;> try (cases hb; done)) | apply Wp.seq ?_ | (apply Wp.ops' fun K hK => ?_) | apply Rx.sk ?_)
        all_goals (refine ⟨eI, _, eR, ?_⟩; try simp only [oneOr])
        rw [if_pos h0, hset, List.append_assoc, List.cons_append, List.nil_append, take_set hlt]
        refine ⟨hR.cellSet hr hc (by simp), Nat.le_refl _, fun k hk hno => ?_⟩
        rw [Hp.get_set, if_neg (fun e => hno (.inr (by rw [e]; exact List.mem_of_getElem? hr)))]
    · refine WpCall.slim (M := 27) (rs := []) ((hS.plain _ rfl).call _) (hS.plain _ rfl).ice (hS.plain _ rfl).froz Try.func109 rfl rfl code109.2 rfl ?_; dsimp only [code109, envOf, Nat.reduceAdd]
      repeat' (first
         | (apply Rx.nl ?_; clear hK K) | apply Ry.o ?_ | apply Ry.on ?_ | apply Ry.gu ?_ | (apply Ry.gd (fun hg hgp => ?_) (fun hg hgp => ?_) <;> try (cases hg; done)) | (apply Ry.cd (fun hb hbp => ?_) (fun hb hbp => ?_) <;> try (cases hb; done)) | apply Wp.seq ?_ | (apply Wp.ops' fun K hK => ?_) | apply Rx.sk ?_)
      all_goals (refine ⟨eI, _, eR, ?_⟩; try simp only [oneOr])
      rw [if_neg h0]
      exact ⟨hR, FrA.refl _ _⟩
end Go.Proofs.Ytjkmbpieknaekaa
namespace Go.Proofs.Ytjkmbpieknaekaa
set_option maxRecDepth 20000
set_option linter.unusedSimpArgs false
set_option linter.unusedVariables false
set_option linter.unusedSectionVars false
set_option linter.defProp false
set_option maxRecDepth 20000
open Go Go.Ab
namespace tyW6c
def tyF := And.intro @tq2 (And.intro @tq3 (And.intro @tq9 (And.intro @tq25 (And.intro @tq37 (And.intro @tq39 (And.intro @tq52 (And.intro @tq83 (And.intro @tq84 (And.intro @tq86 (@tq121))))))))))
end tyW6c
open tyW6c
noncomputable def code77 : { c : SC // slim 123 (Try.f77.body.getD .skip) = c } := by
  refine ⟨?_, ?_⟩
  rotate_left
  · simp only [Try.f77, Option.getD_some, slim, slimR, slimL, slimD, slimG, Nat.blt, Nat.ble]
    rfl
theorem keyS : keyKind Try.prog 9 = some .string := by kernel_rfl
theorem zSl : zeroV Try.prog 52 = some .nilS := by kernel_rfl
theorem zI : zeroV Try.prog 2 = some (.int .i64 0) := by kernel_rfl
def ExprPost (X : Mx) (r : Int × MS) (ov : AV) (H : Hp) (v : AV) (H' : Hp) : Prop := v = .int .i64 r.1 ∧ RepM X H' r.2 ov ∧ FrE X H H'
set_option maxRecDepth 100000 in
set_option maxHeartbeats 4000000 in
theorem expr_wp {cfg : Cfg} (hS : Std cfg) (X : Mx) : ∀ (n : Nat) (x : Ex) (vs : List (Nm × Int)) (s : MS) (r : Int × MS), exprM n x vs s = some r →
    ∀ (rv : Nat) (ov : AV) (H : Hp), RepM X H s ov → H.get rv = some (.map (vEs vs)) → rv < H.next → rv ≠ X.rm →
    WpCall Try.prog cfg 77 [.ptr X.rm 0, .agg x.cells, .map rv] H (ExprPost X r ov H)
  | 0, x, vs, s, r, h, rv, ov, H, hR, hv, hvl, hvm => by simp [exprM] at h
  | n + 1, x, vs, s, r, h, rv, ov, H, hR, hv, hvl, hvm => by
    have IH := expr_wp hS X n
    have hm := hR.m
    unfold mc at hm
    have e1 : (X.rm == H.next) = false := beq_ne (Nat.ne_of_lt hR.lm)
    have e2 : (rv == H.next) = false := beq_ne (Nat.ne_of_lt hvl)
    have hR1 : RepM X (H.alloc (.cells x.cells 0 true)) s ov := hR.alloc _
    have hv1 : (H.alloc (.cells x.cells 0 true)).get rv = some (.map (vEs vs)) := by rw [get_alloc, e2]; exact hv
    have hvl1 : rv < (H.alloc (.cells x.cells 0 true)).next := by simp only [Hp.next_alloc]; omega
    have fr1 : FrE X H (H.alloc (.cells x.cells 0 true)) := (FrE.refl _ _).alloc _
    have hlook := fun nm => look_vEs (P := Try.prog) Try.underlying121 keyS zI hv1 nm
    have back : ∀ {r : Int × MS} {H2 : Hp}, RepM X H2 r.2 ov → FrE X (H.alloc (.cells x.cells 0 true)) H2 → H2.get H.next = some (.cells x.cells 0 true) ∧ H2.get rv = some (.map (vEs vs)) ∧ rv < H2.next ∧ H2.get X.rm = some (.cells (mc X r.2 ov) 0 true) := fun {r H2} hR2 hf2 => by
      have h1 := hf2.next
      simp only [Hp.next_alloc] at h1
      refine ⟨?_, ?_, by omega, hR2.m⟩
      · rw [hf2.get _ (by simp only [Hp.next_alloc]; omega) (by have := hR.lm; omega), Hp.get_alloc, if_pos rfl]
      · rw [hf2.get _ hvl1 hvm]; exact hv1
    unfold exprM at h
    by_cases h0 : s.fin ≠ 0
    · rw [if_pos h0, Option.some.injEq] at h
      subst h
      refine WpCall.slim (M := 123) (rs := [.tmp 6]) ((hS.plain _ rfl).call _) (hS.plain _ rfl).ice (hS.plain _ rfl).froz Try.func77 rfl rfl code77.2 rfl ?_; dsimp only [code77, envOf, Nat.reduceAdd]
      repeat' (first
         | (apply Rx.nl ?_; clear hK K) | apply Ry.o ?_ | apply Ry.gu ?_ | (apply Ry.gd (fun hg hgp => ?_) (fun hg hgp => ?_) <;> try (cases hg; done)) | (apply Ry.cd (fun hb hbp => ?_) (fun hb hbp => ?_) <;> try (cases hb; done)) | apply Wp.seq ?_ | (apply Wp.ops' fun K hK => ?_) | (apply Rx.dT 9 [(2, 6), (4, 6), (10, 6), (10, 16), (12, 6), (12, 16), (13, 6), (13, 16)] fun K hK => ?_) | (apply Rx.nq ?_; try intro _) | (apply Rx.nt ?_ ?_ <;> clear hK K) | apply WpT.step ?_ | apply WpT.step0 rfl ?_ | apply Ry.gv ?_ | (apply Ry.gt (fun hg hgp => ?_) (fun hg hgp => ?_) <;> try (cases hg; done)) | apply Wp.block ?_ | apply Rx.sk ?_ | apply Rx.rt ?_)
      all_goals (refine ⟨eI, _, eR, ?_⟩; try simp only [oneOr])
      exact ⟨rfl, hR1, fr1⟩
    rw [if_neg h0] at h
    have h0' : s.fin = 0 := by omega
    by_cases h1 : x.kind = 1
    · rw [if_pos h1, Option.some.injEq] at h
      subst h
      refine WpCall.slim (M := 123) (rs := [.tmp 6]) ((hS.plain _ rfl).call _) (hS.plain _ rfl).ice (hS.plain _ rfl).froz Try.func77 rfl rfl code77.2 rfl ?_; dsimp only [code77, envOf, Nat.reduceAdd]
      repeat' (first
         | (apply Rx.nl ?_; clear hK K) | apply Ry.o ?_ | apply Ry.gu ?_ | (apply Ry.gd (fun hg hgp => ?_) (fun hg hgp => ?_) <;> try (cases hg; done)) | (apply Ry.cd (fun hb hbp => ?_) (fun hb hbp => ?_) <;> try (cases hb; done)) | apply Wp.seq ?_ | (apply Wp.ops' fun K hK => ?_) | (apply Rx.dT 9 [(2, 6), (4, 6), (10, 6), (10, 16), (12, 6), (12, 16), (13, 6), (13, 16)] fun K hK => ?_) | (apply Rx.nq ?_; try intro _) | (apply Rx.nt ?_ ?_ <;> clear hK K) | apply WpT.step ?_ | apply WpT.step0 rfl ?_ | apply Ry.gv ?_ | (apply Ry.gt (fun hg hgp => ?_) (fun hg hgp => ?_) <;> try (cases hg; done)) | apply Wp.block ?_ | apply Rx.sk ?_ | apply Rx.rt ?_)
      all_goals (refine ⟨eI, _, eR, ?_⟩; try simp only [oneOr])
      exact ⟨rfl, hR1, fr1⟩
    rw [if_neg h1] at h
    by_cases h2 : x.kind = 2
    · rw [if_pos h2, Option.some.injEq] at h
      subst h
      refine WpCall.slim (M := 123) (rs := [.tmp 6]) ((hS.plain _ rfl).call _) (hS.plain _ rfl).ice (hS.plain _ rfl).froz Try.func77 rfl rfl code77.2 rfl ?_; dsimp only [code77, envOf, Nat.reduceAdd]
      repeat' (first
         | (apply Rx.nl ?_; clear hK K) | apply Ry.o ?_ | apply Ry.gu ?_ | (apply Ry.gd (fun hg hgp => ?_) (fun hg hgp => ?_) <;> try (cases hg; done)) | (apply Ry.cd (fun hb hbp => ?_) (fun hb hbp => ?_) <;> try (cases hb; done)) | apply Wp.seq ?_ | (apply Wp.ops' fun K hK => ?_) | (apply Rx.dT 9 [(2, 6), (4, 6), (10, 6), (10, 16), (12, 6), (12, 16), (13, 6), (13, 16)] fun K hK => ?_) | (apply Rx.nq ?_; try intro _) | (apply Rx.nt ?_ ?_ <;> clear hK K) | apply WpT.step ?_ | apply WpT.step0 rfl ?_ | apply Ry.gv ?_ | (apply Ry.gt (fun hg hgp => ?_) (fun hg hgp => ?_) <;> try (cases hg; done)) | apply Wp.block ?_ | apply Rx.sk ?_ | apply Rx.rt ?_)
      all_goals (refine ⟨eI, _, eR, ?_⟩; try simp only [oneOr])
      exact ⟨rfl, hR1, fr1⟩
    rw [if_neg h2] at h
    by_cases h3 : x.kind = 3
    · rw [if_pos h3] at h
      simp only [Option.bind_eq_some_iff] at h
      obtain ⟨k, hk, r1, he, h⟩ := h
      refine WpCall.slim (M := 123) (rs := [.tmp 6]) ((hS.plain _ rfl).call _) (hS.plain _ rfl).ice (hS.plain _ rfl).froz Try.func77 rfl rfl code77.2 rfl ?_; dsimp only [code77, envOf, Nat.reduceAdd]
      repeat' (first
         | (apply Rx.nl ?_; clear hK K) | apply Ry.o ?_ | apply Ry.gu ?_ | (apply Ry.gd (fun hg hgp => ?_) (fun hg hgp => ?_) <;> try (cases hg; done)) | (apply Ry.cd (fun hb hbp => ?_) (fun hb hbp => ?_) <;> try (cases hb; done)) | apply Wp.seq ?_ | (apply Wp.ops' fun K hK => ?_) | (apply Rx.dT 9 [(2, 6), (4, 6), (10, 6), (10, 16), (12, 6), (12, 16), (13, 6), (13, 16)] fun K hK => ?_) | (apply Rx.nq ?_; try intro _) | (apply Rx.nt ?_ ?_ <;> clear hK K) | apply WpT.step ?_ | apply WpT.step0 rfl ?_ | apply Ry.gv ?_ | (apply Ry.gt (fun hg hgp => ?_) (fun hg hgp => ?_) <;> try (cases hg; done)) | apply Wp.block ?_ | apply Rx.sk ?_ | apply Rx.rt ?_)
      refine WpL.call rfl eVk eAk ?_; simp only [List.cons_append, List.nil_append, List.append_nil]
      refine WpCall.mono ?_ (IH k vs s r1 he rv ov _ hR1 hv1 hvl1 hvm)
      rintro v H2 ⟨rfl, hR2, hf2⟩
      obtain ⟨g1, g2, g3, g4⟩ := back hR2 hf2
      unfold mc at g4
      have hn2 : H.next + 1 ≤ H2.next := hf2.next
      obtain ⟨lv, hl2, hL⟩ := hR2.look (P := Try.prog) Try.underlying83 keyS zSl x.name
      have hl1 : lookupA Try.prog (H.alloc (.cells x.cells 0 true)) 83 (.map X.rc) (.str x.name) false = some lv := by
        rw [← hl2]
        exact (lookup_congr (hf2.get _ hR1.lc hR.mc'.symm) _ _ _).symm
      have hlen : ∀ H, lenAt Try.prog H 52 lv = _ := fun H => hL.len Try.underlying52
      dsimp only [setO]
      repeat' (first
         | (apply Rx.nl ?_; clear hK K) | apply Rx.o ?_ | apply Rx.gu ?_ | (apply Rx.gd (fun hg hgp => ?_) (fun hg hgp => ?_) <;> try (cases hg; done)) | (apply Rx.cd (fun hb hbp => ?_) (fun hb hbp => ?_) <;> try (cases hb; done)) | apply Wp.seq ?_ | (apply Wp.ops' fun K hK => ?_) | (apply Rx.dT 9 [(2, 6), (4, 6), (10, 6), (10, 16), (12, 6), (12, 16), (13, 6), (13, 16)] fun K hK => ?_) | (apply Rx.nq ?_; try intro _) | (apply Rx.nt ?_ ?_ <;> clear hK K) | apply WpT.step ?_ | apply WpT.step0 rfl ?_ | apply Rx.gv ?_ | (apply Rx.gt (fun hg hgp => ?_) (fun hg hgp => ?_) <;> try (cases hg; done)) | apply Wp.block ?_ | apply Rx.sk ?_ | apply Rx.rt ?_)
      · exact eK
      · refine WpL.call rfl eVk eAk ?_; simp only [List.cons_append, List.nil_append, List.append_nil]
        refine WpCall.mono ?_ (trap_wp hS X r1.2 ov 2 H2 hR2)
        rintro v H3 ⟨hR3, hf3⟩
        dsimp only [setO]
        repeat' (first
           | (apply Rx.nl ?_; clear hK K) | apply Rx.o ?_ | apply Rx.gu ?_ | (apply Rx.gd (fun hg hgp => ?_) (fun hg hgp => ?_) <;> try (cases hg; done)) | (apply Rx.cd (fun hb hbp => ?_) (fun hb hbp => ?_) <;> try (cases hb; done)) | apply Wp.seq ?_ | (apply Wp.ops' fun K hK => ?_) | (apply Rx.dT 9 [(2, 6), (4, 6), (10, 6), (10, 16), (12, 6), (12, 16), (13, 6), (13, 16)] fun K hK => ?_) | (apply Rx.nq ?_; try intro _) | (apply Rx.nt ?_ ?_ <;> clear hK K) | apply WpT.step ?_ | apply WpT.step0 rfl ?_ | apply Rx.gv ?_ | (apply Rx.gt (fun hg hgp => ?_) (fun hg hgp => ?_) <;> try (cases hg; done)) | apply Wp.block ?_ | apply Rx.sk ?_ | apply Rx.rt ?_)
        all_goals (refine ⟨eI, _, eR, ?_⟩; try simp only [oneOr])
        have hb : badAt r1.1 (lkC r1.2.cells x.name) = true := by simp only [badAt, Bool.or_eq_true, decide_eq_true_eq]; omega
        rw [if_pos hb, Option.some.injEq] at h
        subst h
        exact ⟨rfl, hR3, fr1.trans (hf2.trans hf3)⟩
      · have ha0 : 0 ≤ r1.1 := by omega
        have hal : r1.1 < (lkC r1.2.cells x.name).length := by omega
        have hb : badAt r1.1 (lkC r1.2.cells x.name) = false := by simp only [badAt, Bool.or_eq_false_iff, decide_eq_false_iff_not]; omega
        rw [hb, if_neg (by simp), Option.some.injEq] at h
        subst h
        rcases hL with ⟨rfl, h4, _⟩ | ⟨j, r, nm', hr, hc, rfl, hset⟩
        · rw [h4] at hal; simp at hal; omega
        · have hg := hR2.cell j r nm' _ hr hc
          have hlt : r1.1.toNat < (lkC r1.2.cells x.name).length := by omega
          have hga := ints_get hlt
          repeat' (first
             | (apply Rx.nl ?_; clear hK K) | apply Ry.o ?_ | apply Ry.gu ?_ | (apply Ry.gd (fun hg hgp => ?_) (fun hg hgp => ?_) <;> try (cases hg; done)) | (apply Ry.cd (fun hb hbp => ?_) (fun hb hbp => ?_) <;> try (cases hb; done)) | apply Wp.seq ?_ | (apply Wp.ops' fun K hK => ?_) | (apply Rx.dT 9 [(2, 6), (4, 6), (10, 6), (10, 16), (12, 6), (12, 16), (13, 6), (13, 16)] fun K hK => ?_) | (apply Rx.nq ?_; try intro _) | (apply Rx.nt ?_ ?_ <;> clear hK K) | apply WpT.step ?_ | apply WpT.step0 rfl ?_ | apply Ry.gv ?_ | (apply Ry.gt (fun hg hgp => ?_) (fun hg hgp => ?_) <;> try (cases hg; done)) | apply Wp.block ?_ | apply Rx.sk ?_ | apply Rx.rt ?_)
          all_goals (refine ⟨eI, _, eR, ?_⟩; try simp only [oneOr])
          exact ⟨rfl, hR2, fr1.trans hf2⟩
      · refine WpL.call rfl eVk eAk ?_; simp only [List.cons_append, List.nil_append, List.append_nil]
        refine WpCall.mono ?_ (trap_wp hS X r1.2 ov 2 H2 hR2)
        rintro v H3 ⟨hR3, hf3⟩
        dsimp only [setO]
        repeat' (first
           | (apply Rx.nl ?_; clear hK K) | apply Rx.o ?_ | apply Rx.gu ?_ | (apply Rx.gd (fun hg hgp => ?_) (fun hg hgp => ?_) <;> try (cases hg; done)) | (apply Rx.cd (fun hb hbp => ?_) (fun hb hbp => ?_) <;> try (cases hb; done)) | apply Wp.seq ?_ | (apply Wp.ops' fun K hK => ?_) | (apply Rx.dT 9 [(2, 6), (4, 6), (10, 6), (10, 16), (12, 6), (12, 16), (13, 6), (13, 16)] fun K hK => ?_) | (apply Rx.nq ?_; try intro _) | (apply Rx.nt ?_ ?_ <;> clear hK K) | apply WpT.step ?_ | apply WpT.step0 rfl ?_ | apply Rx.gv ?_ | (apply Rx.gt (fun hg hgp => ?_) (fun hg hgp => ?_) <;> try (cases hg; done)) | apply Wp.block ?_ | apply Rx.sk ?_ | apply Rx.rt ?_)
        all_goals (refine ⟨eI, _, eR, ?_⟩; try simp only [oneOr])
        have hb : badAt r1.1 (lkC r1.2.cells x.name) = true := by simp only [badAt, Bool.or_eq_true, decide_eq_true_eq]; omega
        rw [if_pos hb, Option.some.injEq] at h
        subst h
        exact ⟨rfl, hR3, fr1.trans (hf2.trans hf3)⟩
    rw [if_neg h3] at h
    by_cases h5 : x.kind = 5
    · rw [if_pos h5] at h
      simp only [Option.bind_eq_some_iff] at h
      obtain ⟨k, hk, r1, he, h⟩ := h
      refine WpCall.slim (M := 123) (rs := [.tmp 6]) ((hS.plain _ rfl).call _) (hS.plain _ rfl).ice (hS.plain _ rfl).froz Try.func77 rfl rfl code77.2 rfl ?_; dsimp only [code77, envOf, Nat.reduceAdd]
      repeat' (first
         | (apply Rx.nl ?_; clear hK K) | apply Ry.o ?_ | apply Ry.gu ?_ | (apply Ry.gd (fun hg hgp => ?_) (fun hg hgp => ?_) <;> try (cases hg; done)) | (apply Ry.cd (fun hb hbp => ?_) (fun hb hbp => ?_) <;> try (cases hb; done)) | apply Wp.seq ?_ | (apply Wp.ops' fun K hK => ?_) | (apply Rx.dT 9 [(2, 6), (4, 6), (10, 6), (10, 16), (12, 6), (12, 16), (13, 6), (13, 16)] fun K hK => ?_) | (apply Rx.nq ?_; try intro _) | (apply Rx.nt ?_ ?_ <;> clear hK K) | apply WpT.step ?_ | apply WpT.step0 rfl ?_ | apply Ry.gv ?_ | (apply Ry.gt (fun hg hgp => ?_) (fun hg hgp => ?_) <;> try (cases hg; done)) | apply Wp.block ?_ | apply Rx.sk ?_ | apply Rx.rt ?_)
      refine WpL.call rfl eVk eAk ?_; simp only [List.cons_append, List.nil_append, List.append_nil]
      refine WpCall.mono ?_ (IH k vs s r1 he rv ov _ hR1 hv1 hvl1 hvm)
      rintro v H2 ⟨rfl, hR2, hf2⟩
      obtain ⟨g1, g2, g3, g4⟩ := back hR2 hf2
      dsimp only [setO]
      by_cases hz : r1.1 = 0
      · rw [if_neg (by simp [hz])] at h
        simp only [Option.bind_eq_some_iff] at h
        obtain ⟨k2, hk2, he2⟩ := h
        repeat' (first
           | (apply Rx.nl ?_; clear hK K) | apply Ry.o ?_ | apply Ry.gu ?_ | (apply Ry.gd (fun hg hgp => ?_) (fun hg hgp => ?_) <;> try (cases hg; done)) | (apply Ry.cd (fun hb hbp => ?_) (fun hb hbp => ?_) <;> try (cases hb; done)) | apply Wp.seq ?_ | (apply Wp.ops' fun K hK => ?_) | (apply Rx.dT 9 [(2, 6), (4, 6), (10, 6), (10, 16), (12, 6), (12, 16), (13, 6), (13, 16)] fun K hK => ?_) | (apply Rx.nq ?_; try intro _) | (apply Rx.nt ?_ ?_ <;> clear hK K) | apply WpT.step ?_ | apply WpT.step0 rfl ?_ | apply Ry.gv ?_ | (apply Ry.gt (fun hg hgp => ?_) (fun hg hgp => ?_) <;> try (cases hg; done)) | apply Wp.block ?_ | apply Rx.sk ?_ | apply Rx.rt ?_)
        refine WpL.call rfl eVk eAk ?_; simp only [List.cons_append, List.nil_append, List.append_nil]
        refine WpCall.mono ?_ (IH k2 vs r1.2 r he2 rv ov _ hR2 g2 g3 hvm)
        rintro v H3 ⟨rfl, hR3, hf3⟩
        dsimp only [setO]
        repeat' (first
           | (apply Rx.nl ?_; clear hK K) | apply Rx.o ?_ | apply Rx.gu ?_ | (apply Rx.gd (fun hg hgp => ?_) (fun hg hgp => ?_) <;> try (cases hg; done)) | (apply Rx.cd (fun hb hbp => ?_) (fun hb hbp => ?_) <;> try (cases hb; done)) | apply Wp.seq ?_ | (apply Wp.ops' fun K hK => ?_) | (apply Rx.dT 9 [(2, 6), (4, 6), (10, 6), (10, 16), (12, 6), (12, 16), (13, 6), (13, 16)] fun K hK => ?_) | (apply Rx.nq ?_; try intro _) | (apply Rx.nt ?_ ?_ <;> clear hK K) | apply WpT.step ?_ | apply WpT.step0 rfl ?_ | apply Rx.gv ?_ | (apply Rx.gt (fun hg hgp => ?_) (fun hg hgp => ?_) <;> try (cases hg; done)) | apply Wp.block ?_ | apply Rx.sk ?_ | apply Rx.rt ?_)
        all_goals (refine ⟨eI, _, eR, ?_⟩; try simp only [oneOr])
        exact ⟨rfl, hR3, fr1.trans (hf2.trans hf3)⟩
      · rw [if_pos hz] at h
        simp only [Option.bind_eq_some_iff] at h
        obtain ⟨k2, hk2, he2⟩ := h
        repeat' (first
           | (apply Rx.nl ?_; clear hK K) | apply Ry.o ?_ | apply Ry.gu ?_ | (apply Ry.gd (fun hg hgp => ?_) (fun hg hgp => ?_) <;> try (cases hg; done)) | (apply Ry.cd (fun hb hbp => ?_) (fun hb hbp => ?_) <;> try (cases hb; done)) | apply Wp.seq ?_ | (apply Wp.ops' fun K hK => ?_) | (apply Rx.dT 9 [(2, 6), (4, 6), (10, 6), (10, 16), (12, 6), (12, 16), (13, 6), (13, 16)] fun K hK => ?_) | (apply Rx.nq ?_; try intro _) | (apply Rx.nt ?_ ?_ <;> clear hK K) | apply WpT.step ?_ | apply WpT.step0 rfl ?_ | apply Ry.gv ?_ | (apply Ry.gt (fun hg hgp => ?_) (fun hg hgp => ?_) <;> try (cases hg; done)) | apply Wp.block ?_ | apply Rx.sk ?_ | apply Rx.rt ?_)
        refine WpL.call rfl eVk eAk ?_; simp only [List.cons_append, List.nil_append, List.append_nil]
        refine WpCall.mono ?_ (IH k2 vs r1.2 r he2 rv ov _ hR2 g2 g3 hvm)
        rintro v H3 ⟨rfl, hR3, hf3⟩
        dsimp only [setO]
        repeat' (first
           | (apply Rx.nl ?_; clear hK K) | apply Rx.o ?_ | apply Rx.gu ?_ | (apply Rx.gd (fun hg hgp => ?_) (fun hg hgp => ?_) <;> try (cases hg; done)) | (apply Rx.cd (fun hb hbp => ?_) (fun hb hbp => ?_) <;> try (cases hb; done)) | apply Wp.seq ?_ | (apply Wp.ops' fun K hK => ?_) | (apply Rx.dT 9 [(2, 6), (4, 6), (10, 6), (10, 16), (12, 6), (12, 16), (13, 6), (13, 16)] fun K hK => ?_) | (apply Rx.nq ?_; try intro _) | (apply Rx.nt ?_ ?_ <;> clear hK K) | apply WpT.step ?_ | apply WpT.step0 rfl ?_ | apply Rx.gv ?_ | (apply Rx.gt (fun hg hgp => ?_) (fun hg hgp => ?_) <;> try (cases hg; done)) | apply Wp.block ?_ | apply Rx.sk ?_ | apply Rx.rt ?_)
        all_goals (refine ⟨eI, _, eR, ?_⟩; try simp only [oneOr])
        exact ⟨rfl, hR3, fr1.trans (hf2.trans hf3)⟩
    rw [if_neg h5] at h
    simp only [Option.bind_eq_some_iff] at h
    obtain ⟨k, hk, r1, he, h⟩ := h
    refine WpCall.slim (M := 123) (rs := [.tmp 6]) ((hS.plain _ rfl).call _) (hS.plain _ rfl).ice (hS.plain _ rfl).froz Try.func77 rfl rfl code77.2 rfl ?_; dsimp only [code77, envOf, Nat.reduceAdd]
    repeat' (first
       | (apply Rx.nl ?_; clear hK K) | apply Ry.o ?_ | apply Ry.gu ?_ | (apply Ry.gd (fun hg hgp => ?_) (fun hg hgp => ?_) <;> try (cases hg; done)) | (apply Ry.cd (fun hb hbp => ?_) (fun hb hbp => ?_) <;> try (cases hb; done)) | apply Wp.seq ?_ | (apply Wp.ops' fun K hK => ?_) | (apply Rx.dT 9 [(2, 6), (4, 6), (10, 6), (10, 16), (12, 6), (12, 16), (13, 6), (13, 16)] fun K hK => ?_) | (apply Rx.nq ?_; try intro _) | (apply Rx.nt ?_ ?_ <;> clear hK K) | apply WpT.step ?_ | apply WpT.step0 rfl ?_ | apply Ry.gv ?_ | (apply Ry.gt (fun hg hgp => ?_) (fun hg hgp => ?_) <;> try (cases hg; done)) | apply Wp.block ?_ | apply Rx.sk ?_ | apply Rx.rt ?_)
    refine WpL.call rfl eVk eAk ?_; simp only [List.cons_append, List.nil_append, List.append_nil]
    refine WpCall.mono ?_ (IH k vs s r1 he rv ov _ hR1 hv1 hvl1 hvm)
    rintro v H2 ⟨rfl, hR2, hf2⟩
    obtain ⟨g1, g2, g3, g4⟩ := back hR2 hf2
    dsimp only [setO]
    by_cases hz : x.kids.length = 1
    · rw [if_pos hz, Option.some.injEq] at h
      subst h
      have hz' : ((x.kids.length : Nat) : Int) = 1 := by omega
      repeat' (first
         | (apply Rx.nl ?_; clear hK K) | apply Ry.o ?_ | (apply Ry.call ?_; first | refine Rx.k (unary_wp hS _ _ _) ?_) | apply Ry.gu ?_ | (apply Ry.gd (fun hg hgp => ?_) (fun hg hgp => ?_) <;> try (cases hg; done)) | (apply Ry.cd (fun hb hbp => ?_) (fun hb hbp => ?_) <;> try (cases hb; done)) | apply Wp.seq ?_ | (apply Wp.ops' fun K hK => ?_) | (apply Rx.dT 9 [(2, 6), (4, 6), (10, 6), (10, 16), (12, 6), (12, 16), (13, 6), (13, 16)] fun K hK => ?_) | (apply Rx.nq ?_; try intro _) | (apply Rx.nt ?_ ?_ <;> clear hK K) | apply WpT.step ?_ | apply WpT.step0 rfl ?_ | apply Ry.gv ?_ | (apply Ry.gt (fun hg hgp => ?_) (fun hg hgp => ?_) <;> try (cases hg; done)) | apply Wp.block ?_ | apply Rx.sk ?_ | apply Rx.rt ?_)
      all_goals (refine ⟨eI, _, eR, ?_⟩; try simp only [oneOr])
      exact ⟨rfl, hR2, fr1.trans hf2⟩
    rw [if_neg hz] at h
    have hz' : ¬ ((x.kids.length : Nat) : Int) = 1 := by omega
    simp only [Option.bind_eq_some_iff] at h
    obtain ⟨k2, hk2, r2, he2, h⟩ := h
    repeat' (first
       | (apply Rx.nl ?_; clear hK K) | apply Ry.o ?_ | apply Ry.gu ?_ | (apply Ry.gd (fun hg hgp => ?_) (fun hg hgp => ?_) <;> try (cases hg; done)) | (apply Ry.cd (fun hb hbp => ?_) (fun hb hbp => ?_) <;> try (cases hb; done)) | apply Wp.seq ?_ | (apply Wp.ops' fun K hK => ?_) | (apply Rx.dT 9 [(2, 6), (4, 6), (10, 6), (10, 16), (12, 6), (12, 16), (13, 6), (13, 16)] fun K hK => ?_) | (apply Rx.nq ?_; try intro _) | (apply Rx.nt ?_ ?_ <;> clear hK K) | apply WpT.step ?_ | apply WpT.step0 rfl ?_ | apply Ry.gv ?_ | (apply Ry.gt (fun hg hgp => ?_) (fun hg hgp => ?_) <;> try (cases hg; done)) | apply Wp.block ?_ | apply Rx.sk ?_ | apply Rx.rt ?_)
    refine WpL.call rfl eVk eAk ?_; simp only [List.cons_append, List.nil_append, List.append_nil]
    refine WpCall.mono ?_ (IH k2 vs r1.2 r2 he2 rv ov _ hR2 g2 g3 hvm)
    rintro v H3 ⟨rfl, hR3, hf3⟩
    have hf23 := hf2.trans hf3
    obtain ⟨g5, g6, g7, g8⟩ := back hR3 hf23
    dsimp only [setO]
    have key : (r2.1 = 0 ∧ (x.op = 7 ∨ x.op = 8) → r = (0, trapM 1 r2.2)) ∧ (¬ (r2.1 = 0 ∧ (x.op = 7 ∨ x.op = 8)) → r = (binI x.op r1.1 r2.1, r2.2)) := by
      split at h
      · rename_i hc
        exact ⟨fun _ => by simpa using h.symm, fun hn => (hn hc).elim⟩
      · rename_i hc
        exact ⟨fun hn => (hc hn).elim, fun _ => by simpa using h.symm⟩
    clear h
    repeat' (first
       | (apply Rx.nl ?_; clear hK K) | apply Rx.o ?_ | (apply Rx.call ?_; first | refine Rx.k (binary_wp hS _ _ _ _) ?_) | apply Rx.gu ?_ | (apply Rx.gd (fun hg hgp => ?_) (fun hg hgp => ?_) <;> try (cases hg; done)) | (apply Rx.cd (fun hb hbp => ?_) (fun hb hbp => ?_) <;> try (cases hb; done)) | apply Wp.seq ?_ | (apply Wp.ops' fun K hK => ?_) | (apply Rx.dT 9 [(2, 6), (4, 6), (10, 6), (10, 16), (12, 6), (12, 16), (13, 6), (13, 16)] fun K hK => ?_) | (apply Rx.nq ?_; try intro _) | (apply Rx.nt ?_ ?_ <;> clear hK K) | apply WpT.step ?_ | apply WpT.step0 rfl ?_ | apply Rx.gv ?_ | (apply Rx.gt (fun hg hgp => ?_) (fun hg hgp => ?_) <;> try (cases hg; done)) | apply Wp.block ?_ | apply Rx.sk ?_ | apply Rx.rt ?_)
    · refine WpL.call rfl eVk eAk ?_; simp only [List.cons_append, List.nil_append, List.append_nil]
      refine WpCall.mono ?_ (trap_wp hS X r2.2 ov 1 H3 hR3)
      rintro v H4 ⟨hR4, hf4⟩
      dsimp only [setO]
      repeat' (first
         | (apply Rx.nl ?_; clear hK K) | apply Rx.o ?_ | apply Rx.gu ?_ | (apply Rx.gd (fun hg hgp => ?_) (fun hg hgp => ?_) <;> try (cases hg; done)) | (apply Rx.cd (fun hb hbp => ?_) (fun hb hbp => ?_) <;> try (cases hb; done)) | apply Wp.seq ?_ | (apply Wp.ops' fun K hK => ?_) | (apply Rx.dT 9 [(2, 6), (4, 6), (10, 6), (10, 16), (12, 6), (12, 16), (13, 6), (13, 16)] fun K hK => ?_) | (apply Rx.nq ?_; try intro _) | (apply Rx.nt ?_ ?_ <;> clear hK K) | apply WpT.step ?_ | apply WpT.step0 rfl ?_ | apply Rx.gv ?_ | (apply Rx.gt (fun hg hgp => ?_) (fun hg hgp => ?_) <;> try (cases hg; done)) | apply Wp.block ?_ | apply Rx.sk ?_ | apply Rx.rt ?_)
      all_goals (refine ⟨eI, _, eR, ?_⟩; try simp only [oneOr])
      rw [key.1 (by omega)]
      exact ⟨rfl, hR4, fr1.trans (hf23.trans hf4)⟩
    · all_goals (refine ⟨eI, _, eR, ?_⟩; try simp only [oneOr])
      rw [key.2 (by omega)]
      exact ⟨by first | rfl | (have e0 : r2.1 = 0 := (by omega); simp only [e0]), hR3, fr1.trans hf23⟩
    · refine WpL.call rfl eVk eAk ?_; simp only [List.cons_append, List.nil_append, List.append_nil]
      refine WpCall.mono ?_ (trap_wp hS X r2.2 ov 1 H3 hR3)
      rintro v H4 ⟨hR4, hf4⟩
      dsimp only [setO]
      repeat' (first
         | (apply Rx.nl ?_; clear hK K) | apply Rx.o ?_ | apply Rx.gu ?_ | (apply Rx.gd (fun hg hgp => ?_) (fun hg hgp => ?_) <;> try (cases hg; done)) | (apply Rx.cd (fun hb hbp => ?_) (fun hb hbp => ?_) <;> try (cases hb; done)) | apply Wp.seq ?_ | (apply Wp.ops' fun K hK => ?_) | (apply Rx.dT 9 [(2, 6), (4, 6), (10, 6), (10, 16), (12, 6), (12, 16), (13, 6), (13, 16)] fun K hK => ?_) | (apply Rx.nq ?_; try intro _) | (apply Rx.nt ?_ ?_ <;> clear hK K) | apply WpT.step ?_ | apply WpT.step0 rfl ?_ | apply Rx.gv ?_ | (apply Rx.gt (fun hg hgp => ?_) (fun hg hgp => ?_) <;> try (cases hg; done)) | apply Wp.block ?_ | apply Rx.sk ?_ | apply Rx.rt ?_)
      all_goals (refine ⟨eI, _, eR, ?_⟩; try simp only [oneOr])
      rw [key.1 (by omega)]
      exact ⟨rfl, hR4, fr1.trans (hf23.trans hf4)⟩
    · all_goals (refine ⟨eI, _, eR, ?_⟩; try simp only [oneOr])
      rw [key.2 (by omega)]
      exact ⟨by first | rfl | (have e0 : r2.1 = 0 := (by omega); simp only [e0]), hR3, fr1.trans hf23⟩
end Go.Proofs.Ytjkmbpieknaekaa
namespace Go.Ab
set_option maxRecDepth 20000
set_option linter.unusedVariables false
open Go
theorem trapM_keep (c : Int) (s : MS) : (trapM c s).out = s.out ∧ (trapM c s).cells = s.cells ∧ (trapM c s).fuel = s.fuel := by unfold trapM; split <;> simp
theorem tickM_out (s : MS) : (tickM s).out = s.out := by unfold tickM; split <;> (try split) <;> rfl
theorem storeM_out (nm : Nm) (a v : Int) (s : MS) : (storeM nm a v s).out = s.out := by
  unfold storeM
  simp only []
  split <;> split <;> simp [trapM_keep]
theorem exprM_keep : ∀ (n : Nat) (x : Ex) (vs : List (Nm × Int)) (s : MS) (r : Int × MS), exprM n x vs s = some r → r.2.out = s.out ∧ r.2.cells = s.cells ∧ r.2.fuel = s.fuel
  | 0, x, vs, s, r, h => by simp [exprM] at h
  | n + 1, x, vs, s, r, h => by
    have IH := exprM_keep n
    unfold exprM at h
    split at h
    · simp only [Option.some.injEq] at h; subst h; exact ⟨rfl, rfl, rfl⟩
    split at h
    · simp only [Option.some.injEq] at h; subst h; exact ⟨rfl, rfl, rfl⟩
    split at h
    · simp only [Option.some.injEq] at h; subst h; exact ⟨rfl, rfl, rfl⟩
    split at h
    · simp only [Option.bind_eq_some_iff] at h
      obtain ⟨k, hk, r1, he, h⟩ := h
      have h1 := IH _ _ _ _ he
      split at h <;> simp only [Option.some.injEq] at h <;> subst h
      · have := trapM_keep 2 r1.2; simp only []; rw [this.1, this.2.1, this.2.2]; exact h1
      · exact h1
    split at h
    · simp only [Option.bind_eq_some_iff] at h
      obtain ⟨k, hk, r1, he, h⟩ := h
      have h1 := IH _ _ _ _ he
      split at h <;> simp only [Option.bind_eq_some_iff] at h <;> obtain ⟨k2, hk2, he2⟩ := h <;> have h2 := IH _ _ _ _ he2 <;> exact ⟨h2.1.trans h1.1, h2.2.1.trans h1.2.1, h2.2.2.trans h1.2.2⟩
    · simp only [Option.bind_eq_some_iff] at h
      obtain ⟨k, hk, r1, he, h⟩ := h
      have h1 := IH _ _ _ _ he
      split at h
      · simp only [Option.some.injEq] at h; subst h; exact h1
      · simp only [Option.bind_eq_some_iff] at h
        obtain ⟨k2, hk2, r2, he2, h⟩ := h
        have h2 := IH _ _ _ _ he2
        split at h <;> simp only [Option.some.injEq] at h <;> subst h
        · have := trapM_keep 1 r2.2; simp only []; rw [this.1, this.2.1, this.2.2]; exact ⟨h2.1.trans h1.1, h2.2.1.trans h1.2.1, h2.2.2.trans h1.2.2⟩
        · exact ⟨h2.1.trans h1.1, h2.2.1.trans h1.2.1, h2.2.2.trans h1.2.2⟩
theorem argsM_keep {n : Nat} : ∀ (l : List Ex) (vs : List (Nm × Int)) (s : MS) (r : List Int × MS), argsM n l vs s = some r → r.2.out = s.out ∧ r.2.cells = s.cells ∧ r.2.fuel = s.fuel ∧ r.1.length = l.length
  | [], vs, s, r, h => by simp only [argsM, Option.some.injEq] at h; subst h; exact ⟨rfl, rfl, rfl, rfl⟩
  | x :: l, vs, s, r, h => by
    simp only [argsM, Option.bind_eq_some_iff, Option.some.injEq] at h
    obtain ⟨r1, he, r2, ha, rfl⟩ := h
    have h1 := exprM_keep _ _ _ _ _ he
    have h2 := argsM_keep l vs _ _ ha
    exact ⟨h2.1.trans h1.1, h2.2.1.trans h1.2.1, h2.2.2.1.trans h1.2.2, by simp [h2.2.2.2]⟩
theorem outM_len (v : Int) (s : MS) : s.out.length ≤ (outM v s).out.length := by unfold outM; split <;> simp
theorem stepM_out (p : Pr) (fi : List (Nm × Int)) : ∀ n : Nat,
    (∀ x vs s r, stmtM p fi n x vs s = some r → s.out.length ≤ r.2.out.length) ∧ (∀ l vs s r, stmtsM p fi n l vs s = some r → s.out.length ≤ r.2.out.length) ∧
    (∀ x vs s r, whileM p fi n x vs s = some r → s.out.length ≤ r.2.out.length) ∧ (∀ k asx s r, callM p fi n k asx s = some r → s.out.length ≤ r.2.out.length)
  | 0 => ⟨fun x vs s r h => by simp [stmtM] at h, fun l vs s r h => by simp [stmtsM] at h, fun x vs s r h => by simp [whileM] at h, fun k asx s r h => by simp [callM] at h⟩
  | n + 1 => by
    obtain ⟨I1, I2, I3, I4⟩ := stepM_out p fi n
    refine ⟨fun x vs s r h => ?_, fun l vs s r h => ?_, fun x vs s r h => ?_, fun k asx s r h => ?_⟩
    · unfold stmtM at h
      split at h
      · simp only [Option.bind_eq_some_iff, Option.some.injEq] at h
        obtain ⟨r1, he, rfl⟩ := h
        rw [(exprM_keep _ _ _ _ _ he).1]; exact Nat.le_refl _
      split at h
      · simp only [Option.bind_eq_some_iff, Option.some.injEq] at h
        obtain ⟨r1, he, r2, he2, rfl⟩ := h
        simp only [storeM_out]
        rw [(exprM_keep _ _ _ _ _ he2).1, (exprM_keep _ _ _ _ _ he).1]; exact Nat.le_refl _
      split at h
      · simp only [Option.bind_eq_some_iff] at h
        obtain ⟨r1, he, h⟩ := h
        rw [← (exprM_keep _ _ _ _ _ he).1]
        split at h
        · exact I2 _ _ _ _ h
        · exact I2 _ _ _ _ h
      split at h
      · exact I3 _ _ _ _ h
      split at h
      · simp only [Option.bind_eq_some_iff, Option.some.injEq] at h
        obtain ⟨r1, he, rfl⟩ := h
        rw [← (exprM_keep _ _ _ _ _ he).1]; exact outM_len _ _
      split at h
      · simp only [Option.bind_eq_some_iff] at h
        obtain ⟨r1, he, h⟩ := h
        rw [← (argsM_keep _ _ _ _ he).1, ← tickM_out r1.2]
        split at h
        · simp only [Option.bind_eq_some_iff, Option.some.injEq] at h
          obtain ⟨r2, hc, rfl⟩ := h
          exact I4 _ _ _ _ hc
        · simp only [Option.some.injEq] at h; subst h; exact Nat.le_refl _
      split at h
      · simp only [Option.some.injEq] at h; subst h
        rw [(trapM_keep _ _).1]; exact Nat.le_refl _
      · simp only [Option.some.injEq] at h; subst h; exact Nat.le_refl _
    · unfold stmtsM at h
      split at h
      · simp only [Option.some.injEq] at h; subst h; exact Nat.le_refl _
      · split at h
        · simp only [Option.some.injEq] at h; subst h; exact Nat.le_refl _
        · simp only [Option.bind_eq_some_iff] at h
          obtain ⟨r1, he, h⟩ := h
          exact Nat.le_trans (I1 _ _ _ _ he) (I2 _ _ _ _ h)
    · unfold whileM at h
      simp only [Option.bind_eq_some_iff] at h
      obtain ⟨r1, he, h⟩ := h
      rw [← (exprM_keep _ _ _ _ _ he).1]
      split at h
      · rw [← tickM_out r1.2]
        split at h
        · simp only [Option.bind_eq_some_iff] at h
          obtain ⟨r2, hc, h⟩ := h
          exact Nat.le_trans (I2 _ _ _ _ hc) (I3 _ _ _ _ h)
        · exact I3 _ _ _ _ h
      · simp only [Option.some.injEq] at h; subst h; exact Nat.le_refl _
    · unfold callM at h
      split at h
      · simp at h
      · simp only [Option.bind_eq_some_iff] at h
        obtain ⟨f, hf, vs, hv, r1, hs, he⟩ := h
        rw [(exprM_keep _ _ _ _ _ he).1]
        exact I2 _ _ _ _ hs
end Go.Ab
namespace Go.Proofs.Ytjkmbpieknaekaa
set_option maxRecDepth 20000
set_option linter.unusedSimpArgs false
set_option linter.unusedVariables false
set_option linter.unusedSectionVars false
set_option linter.defProp false
set_option maxRecDepth 20000
open Go Go.Ab
namespace tyW6d
def tyF := And.intro @tq2 (And.intro @tq3 (And.intro @tq9 (And.intro @tq25 (And.intro @tq36 (And.intro @tq37 (And.intro @tq39 (And.intro @tq46 (And.intro @tq52 (And.intro @tq83 (And.intro @tq84 (And.intro @tq86 (@tq121))))))))))))
end tyW6d
open tyW6d
noncomputable def code97 : { c : SC // slim 154 (Try.f97.body.getD .skip) = c } := by
  refine ⟨?_, ?_⟩
  rotate_left
  · simp only [Try.f97, Option.getD_some, slim, slimR, slimL, slimD, slimG, Nat.blt, Nat.ble]
    rfl
def StmtPost (X : Mx) (rv : Nat) (ov : AV) (H : Hp) (r : List (Nm × Int) × MS) (v : AV) (H' : Hp) : Prop := ∃ ov', RepM X H' r.2 ov' ∧ VarOk X H' rv r.1 ov' ∧ FrS X (· = rv) ov H ov' H'
def PStmt (cfg : Cfg) (X : Mx) (N : Nat) : Prop := ∀ x vs s r, stmtM X.p X.fi N x vs s = some r → x.sz < 2 ^ 40 → r.2.out.length < 2 ^ 40 → ∀ rv ov H, RepM X H s ov → VarOk X H rv vs ov →
  WpCall Try.prog cfg 97 [.ptr X.rm 0, .agg x.cells, .map rv] H (StmtPost X rv ov H r)
def PStmts (cfg : Cfg) (X : Mx) (N : Nat) : Prop := ∀ l vs s r, stmtsM X.p X.fi N l vs s = some r → stmtsSz l < 2 ^ 40 → r.2.out.length < 2 ^ 40 → ∀ rv ov H, RepM X H s ov → VarOk X H rv vs ov →
  WpCall Try.prog cfg 76 [.ptr X.rm 0, .lst (l.map St.cells), .map rv] H (StmtPost X rv ov H r)
def PCall (cfg : Cfg) (X : Mx) (N : Nat) : Prop := ∀ k al s r, callM X.p X.fi N k al s = some r → r.2.out.length < 2 ^ 40 → al.length < 2 ^ 40 → ∀ av ov H, RepM X H s ov → ArgsV H av al → (∀ b, slB av b → b < H.next) →
  WpCall Try.prog cfg 41 [.ptr X.rm 0, .int .i64 k, av] H fun v H' => v = .int .i64 r.1 ∧ ∃ ov', RepM X H' r.2 ov' ∧ FrS X (fun _ => False) ov H ov' H'
theorem bs52 (H : Hp) (n : Int) : buildSliceA Try.prog H 52 1 [(0, .int .i64 n)] = some (.sl H.next 0 1 1, H.alloc (.cells [.int .i64 n] 0 true)) := by kernel_rfl
theorem CellV.congr {X : Mx} {s s' : MS} {nm : Nm} {lv : AV} (h : CellV X s nm lv) (e : s'.cells = s.cells) : CellV X s' nm lv := by unfold CellV; rw [e]; exact h
section
variable {cfg : Cfg} (hS : Std cfg) (X : Mx) {x : St} {vs : List (Nm × Int)} {s : MS} {rv : Nat} {ov : AV} {H : Hp}
/-- What holds when the statement lies in its box. -/
structure Boxed (X : Mx) (x : St) (vs : List (Nm × Int)) (s : MS) (rv : Nat) (ov : AV) (H H1 : Hp) : Prop where
  R : RepM X H1 s ov
  v : VarOk X H1 rv vs ov
  fr : FrS X (· = rv) ov H ov H1
  box : H1.get H.next = some (.cells x.cells 0 true)
  n : H.next + 1 ≤ H1.next
  m : H1.get X.rm = some (.cells (mc X s ov) 0 true)
theorem Boxed.start (hR : RepM X H s ov) (hv : VarOk X H rv vs ov) : Boxed X x vs s rv ov H (H.alloc (.cells x.cells 0 true)) where
  R := hR.alloc _
  v := hv.frE ((FrE.refl _ _).alloc _)
  fr := ((FrE.refl _ _).alloc _).toS _ _
  box := by rw [Hp.get_alloc, if_pos rfl]
  n := Nat.le_refl _
  m := (hR.alloc _).m
theorem Boxed.expr {H1 H2 : Hp} {s0 s2 : MS} (hR : RepM X H s0 ov) (b : Boxed X x vs s rv ov H H1) (hR2 : RepM X H2 s2 ov) (f : FrE X H1 H2) : Boxed X x vs s2 rv ov H H2 where
  R := hR2
  v := b.v.frE f
  fr := b.fr.trans (f.toS _ _)
  box := by rw [f.get _ (by have := b.n; omega) (by have := hR.lm; omega)]; exact b.box
  n := Nat.le_trans b.n f.next
  m := hR2.m
set_option maxRecDepth 100000 in
set_option maxHeartbeats 4000000 in
include hS in
theorem stmt1 (hk : x.kind = 1) {n : Nat} {r1 : Int × MS} (he : exprM n x.value vs s = some r1) (hR : RepM X H s ov) (hv : VarOk X H rv vs ov) :
    WpCall Try.prog cfg 97 [.ptr X.rm 0, .agg x.cells, .map rv] H (StmtPost X rv ov H (setV vs x.name r1.1, r1.2)) := by
  have b1 := Boxed.start (x := x) X hR hv
  have e1 : (X.rm == H.next) = false := beq_ne (Nat.ne_of_lt hR.lm)
  refine WpCall.slim (M := 154) (rs := []) ((hS.plain _ rfl).call _) (hS.plain _ rfl).ice (hS.plain _ rfl).froz Try.func97 rfl rfl code97.2 rfl ?_; dsimp only [code97, envOf, Nat.reduceAdd]
  repeat' (first
     | (apply Rx.nl ?_; clear hK K) | apply Ry.o ?_ | apply Ry.on ?_ | apply Ry.gu ?_ | (apply Ry.gd (fun hg hgp => ?_) (fun hg hgp => ?_) <;> try (cases hg; done)) | (apply Ry.cd (fun hb hbp => ?_) (fun hb hbp => ?_) <;> try (cases hb; done)) | apply Wp.seq ?_ | (apply Wp.ops' fun K hK => ?_) | (apply Rx.dT 3 [(2, 7), (2, 8), (5, 7)] fun K hK => ?_) | (apply Rx.dT 5 [(4, 12), (4, 17), (4, 18), (6, 12), (6, 17), (6, 18), (7, 12), (7, 17), (7, 18), (10, 12), (15, 12), (15, 17)] fun K hK => ?_) | (apply Rx.dT 28 [(2, 12), (2, 13), (7, 12), (9, 12), (10, 12)] fun K hK => ?_) | (apply Rx.nq ?_; try intro _) | (apply Rx.nt ?_ ?_ <;> clear hK K) | apply WpT.step ?_ | apply WpT.step0 rfl ?_ | apply Ry.gv ?_ | (apply Ry.gt (fun hg hgp => ?_) (fun hg hgp => ?_) <;> try (cases hg; done)) | apply Wp.block ?_ | apply Rx.sk ?_ | apply Rx.xt ?_)
  refine WpL.call rfl eVk eAk ?_; simp only [List.cons_append, List.nil_append, List.append_nil]
  refine WpCall.mono ?_ (expr_wp hS X n x.value vs s r1 he rv ov _ b1.R b1.v.get b1.v.lt b1.v.nm)
  rintro v H2 ⟨rfl, hR2, hf2⟩
  have b2 := b1.expr X hR hR2 hf2
  have g2 := b2.box
  have hn2 := b2.n
  have hu := upd_vEs (P := Try.prog) Try.underlying121 keyS b2.v.get x.name r1.1
  dsimp only [setO]
  repeat' (first
     | (apply Rx.nl ?_; clear hK K) | apply Rx.o ?_ | apply Rx.on ?_ | apply Rx.gu ?_ | (apply Rx.gd (fun hg hgp => ?_) (fun hg hgp => ?_) <;> try (cases hg; done)) | (apply Rx.cd (fun hb hbp => ?_) (fun hb hbp => ?_) <;> try (cases hb; done)) | apply Wp.seq ?_ | (apply Wp.ops' fun K hK => ?_) | (apply Rx.dT 3 [(2, 7), (2, 8), (5, 7)] fun K hK => ?_) | (apply Rx.dT 5 [(4, 12), (4, 17), (4, 18), (6, 12), (6, 17), (6, 18), (7, 12), (7, 17), (7, 18), (10, 12), (15, 12), (15, 17)] fun K hK => ?_) | (apply Rx.dT 28 [(2, 12), (2, 13), (7, 12), (9, 12), (10, 12)] fun K hK => ?_) | (apply Rx.nq ?_; try intro _) | (apply Rx.nt ?_ ?_ <;> clear hK K) | apply WpT.step ?_ | apply WpT.step0 rfl ?_ | apply Rx.gv ?_ | (apply Rx.gt (fun hg hgp => ?_) (fun hg hgp => ?_) <;> try (cases hg; done)) | apply Wp.block ?_ | apply Rx.sk ?_ | apply Rx.xt ?_)
  · exact eK
  · all_goals (refine ⟨eI, _, eR, ?_⟩; try simp only [oneOr])
    obtain ⟨q1, q2, q3⟩ := b2.R.setV b2.v (setV vs x.name r1.1)
    exact ⟨ov, q1, q2, b2.fr.trans q3⟩
set_option maxRecDepth 100000 in
set_option maxHeartbeats 4000000 in
include hS in
theorem stmt2 (hk : x.kind = 2) {n : Nat} {r1 r2 : Int × MS} (he : exprM n x.at_ vs s = some r1) (he2 : exprM n x.value vs r1.2 = some r2) (hR : RepM X H s ov) (hv : VarOk X H rv vs ov) :
    WpCall Try.prog cfg 97 [.ptr X.rm 0, .agg x.cells, .map rv] H (StmtPost X rv ov H (vs, storeM x.name r1.1 r2.1 r2.2)) := by
  have b1 := Boxed.start (x := x) X hR hv
  have e1 : (X.rm == H.next) = false := beq_ne (Nat.ne_of_lt hR.lm)
  have hm := hR.m
  unfold mc at hm
  obtain ⟨lv, hl1, hL⟩ := b1.R.look (P := Try.prog) Try.underlying83 keyS zSl x.name
  refine WpCall.slim (M := 154) (rs := []) ((hS.plain _ rfl).call _) (hS.plain _ rfl).ice (hS.plain _ rfl).froz Try.func97 rfl rfl code97.2 rfl ?_; dsimp only [code97, envOf, Nat.reduceAdd]
  repeat' (first
     | (apply Rx.nl ?_; clear hK K) | apply Ry.o ?_ | apply Ry.on ?_ | apply Ry.gu ?_ | (apply Ry.gd (fun hg hgp => ?_) (fun hg hgp => ?_) <;> try (cases hg; done)) | (apply Ry.cd (fun hb hbp => ?_) (fun hb hbp => ?_) <;> try (cases hb; done)) | apply Wp.seq ?_ | (apply Wp.ops' fun K hK => ?_) | (apply Rx.dT 3 [(2, 7), (2, 8), (5, 7)] fun K hK => ?_) | (apply Rx.dT 5 [(4, 12), (4, 17), (4, 18), (6, 12), (6, 17), (6, 18), (7, 12), (7, 17), (7, 18), (10, 12), (15, 12), (15, 17)] fun K hK => ?_) | (apply Rx.dT 28 [(2, 12), (2, 13), (7, 12), (9, 12), (10, 12)] fun K hK => ?_) | (apply Rx.nq ?_; try intro _) | (apply Rx.nt ?_ ?_ <;> clear hK K) | apply WpT.step ?_ | apply WpT.step0 rfl ?_ | apply Ry.gv ?_ | (apply Ry.gt (fun hg hgp => ?_) (fun hg hgp => ?_) <;> try (cases hg; done)) | apply Wp.block ?_ | apply Rx.sk ?_ | apply Rx.xt ?_)
  refine WpL.call rfl eVk eAk ?_; simp only [List.cons_append, List.nil_append, List.append_nil]
  refine WpCall.mono ?_ (expr_wp hS X n x.at_ vs s r1 he rv ov _ b1.R b1.v.get b1.v.lt b1.v.nm)
  rintro v H2 ⟨rfl, hR2, hf2⟩
  have b2 := b1.expr X hR hR2 hf2
  have g2 := b2.box
  have m2 := b2.m
  unfold mc at m2
  have hn2 := b2.n
  have hl2 : lookupA Try.prog H2 83 (.map X.rc) (.str x.name) false = some lv := by
    rw [← hl1]
    exact lookup_congr (hf2.get _ b1.R.lc hR.mc'.symm) _ _ _
  dsimp only [setO]
  repeat' (first
     | (apply Rx.nl ?_; clear hK K) | apply Rx.o ?_ | apply Rx.on ?_ | apply Rx.gu ?_ | (apply Rx.gd (fun hg hgp => ?_) (fun hg hgp => ?_) <;> try (cases hg; done)) | (apply Rx.cd (fun hb hbp => ?_) (fun hb hbp => ?_) <;> try (cases hb; done)) | apply Wp.seq ?_ | (apply Wp.ops' fun K hK => ?_) | (apply Rx.dT 3 [(2, 7), (2, 8), (5, 7)] fun K hK => ?_) | (apply Rx.dT 5 [(4, 12), (4, 17), (4, 18), (6, 12), (6, 17), (6, 18), (7, 12), (7, 17), (7, 18), (10, 12), (15, 12), (15, 17)] fun K hK => ?_) | (apply Rx.dT 28 [(2, 12), (2, 13), (7, 12), (9, 12), (10, 12)] fun K hK => ?_) | (apply Rx.nq ?_; try intro _) | (apply Rx.nt ?_ ?_ <;> clear hK K) | apply WpT.step ?_ | apply WpT.step0 rfl ?_ | apply Rx.gv ?_ | (apply Rx.gt (fun hg hgp => ?_) (fun hg hgp => ?_) <;> try (cases hg; done)) | apply Wp.block ?_ | apply Rx.sk ?_ | apply Rx.xt ?_)
  refine WpL.call rfl eVk eAk ?_; simp only [List.cons_append, List.nil_append, List.append_nil]
  refine WpCall.mono ?_ (expr_wp hS X n x.value vs r1.2 r2 he2 rv ov _ b2.R b2.v.get b2.v.lt b2.v.nm)
  rintro v H3 ⟨rfl, hR3, hf3⟩
  have b3 := b2.expr X hR hR3 hf3
  have g3 := b3.box
  have m3 := b3.m
  unfold mc at m3
  have hn3 := hf3.next
  have hl3 : lookupA Try.prog H3 83 (.map X.rc) (.str x.name) false = some lv := by
    rw [← hl2]
    exact lookup_congr (hf3.get _ b2.R.lc hR.mc'.symm) _ _ _
  have hc : r2.2.cells = s.cells := ((exprM_keep _ _ _ _ _ he2).2.1).trans (exprM_keep _ _ _ _ _ he).2.1
  dsimp only [setO]
  repeat' (first
     | (apply Rx.nl ?_; clear hK K) | apply Rx.o ?_ | apply Rx.on ?_ | apply Rx.gu ?_ | (apply Rx.gd (fun hg hgp => ?_) (fun hg hgp => ?_) <;> try (cases hg; done)) | (apply Rx.cd (fun hb hbp => ?_) (fun hb hbp => ?_) <;> try (cases hb; done)) | apply Wp.seq ?_ | (apply Wp.ops' fun K hK => ?_) | (apply Rx.dT 3 [(2, 7), (2, 8), (5, 7)] fun K hK => ?_) | (apply Rx.dT 5 [(4, 12), (4, 17), (4, 18), (6, 12), (6, 17), (6, 18), (7, 12), (7, 17), (7, 18), (10, 12), (15, 12), (15, 17)] fun K hK => ?_) | (apply Rx.dT 28 [(2, 12), (2, 13), (7, 12), (9, 12), (10, 12)] fun K hK => ?_) | (apply Rx.nq ?_; try intro _) | (apply Rx.nt ?_ ?_ <;> clear hK K) | apply WpT.step ?_ | apply WpT.step0 rfl ?_ | apply Rx.gv ?_ | (apply Rx.gt (fun hg hgp => ?_) (fun hg hgp => ?_) <;> try (cases hg; done)) | apply Wp.block ?_ | apply Rx.sk ?_ | apply Rx.xt ?_)
  refine WpL.call rfl eVk eAk ?_; simp only [List.cons_append, List.nil_append, List.append_nil]
  refine WpCall.mono ?_ (store_wp hS X r2.2 ov x.name lv r1.1 r2.1 H3 hR3 (CellV.congr hL hc))
  rintro v H4 ⟨hR4, hf4⟩
  have hn4 := hf4.next
  have f4 : FrS X (· = rv) ov H ov H4 := b3.fr.trans (hf4.toS _ _)
  have g4 : H4.get H.next = some (.cells x.cells 0 true) := by
    rw [(hf4.toS (· = rv) ov).keep hR (Nat.le_refl _) (by omega) (fun e => by have := hv.lt; omega)]; exact g3
  have m4 := hR4.m
  unfold mc at m4
  have hl4 : lookupA Try.prog H4 83 (.map X.rc) (.str x.name) false = some lv := by
    rw [← hl3]
    refine lookup_congr (hf4.get _ b3.R.lc ?_) _ _ _
    rintro (e | e)
    · exact hR.mc' e.symm
    · exact hR.cs e
  dsimp only [setO]
  repeat' (first
     | (apply Rx.nl ?_; clear hK K) | apply Rx.o ?_ | apply Rx.on ?_ | apply Rx.gu ?_ | (apply Rx.gd (fun hg hgp => ?_) (fun hg hgp => ?_) <;> try (cases hg; done)) | (apply Rx.cd (fun hb hbp => ?_) (fun hb hbp => ?_) <;> try (cases hb; done)) | apply Wp.seq ?_ | (apply Wp.ops' fun K hK => ?_) | (apply Rx.dT 3 [(2, 7), (2, 8), (5, 7)] fun K hK => ?_) | (apply Rx.dT 5 [(4, 12), (4, 17), (4, 18), (6, 12), (6, 17), (6, 18), (7, 12), (7, 17), (7, 18), (10, 12), (15, 12), (15, 17)] fun K hK => ?_) | (apply Rx.dT 28 [(2, 12), (2, 13), (7, 12), (9, 12), (10, 12)] fun K hK => ?_) | (apply Rx.nq ?_; try intro _) | (apply Rx.nt ?_ ?_ <;> clear hK K) | apply WpT.step ?_ | apply WpT.step0 rfl ?_ | apply Rx.gv ?_ | (apply Rx.gt (fun hg hgp => ?_) (fun hg hgp => ?_) <;> try (cases hg; done)) | apply Wp.block ?_ | apply Rx.sk ?_ | apply Rx.xt ?_)
  · exact eK
  · all_goals (refine ⟨eI, _, eR, ?_⟩; try simp only [oneOr])
    exact ⟨ov, hR4, b3.v.frA hf4, f4⟩
end
end Go.Proofs.Ytjkmbpieknaekaa
namespace Go.Proofs.Ytjkmbpieknaekaa
set_option maxRecDepth 20000
set_option linter.unusedSimpArgs false
set_option linter.unusedVariables false
set_option linter.unusedSectionVars false
set_option linter.defProp false
set_option maxRecDepth 20000
open Go Go.Ab
namespace tyW6e
def tyF := And.intro @tq2 (And.intro @tq3 (And.intro @tq9 (And.intro @tq25 (And.intro @tq36 (And.intro @tq37 (And.intro @tq39 (And.intro @tq46 (And.intro @tq52 (And.intro @tq83 (And.intro @tq84 (And.intro @tq86 (And.intro @tq121 (@bs52)))))))))))))
end tyW6e
open tyW6e
section
variable {cfg : Cfg} (hS : Std cfg) (X : Mx) {x : St} {vs : List (Nm × Int)} {s : MS} {rv : Nat} {ov : AV} {H : Hp}
set_option maxRecDepth 100000 in
set_option maxHeartbeats 4000000 in
include hS in
theorem stmt3 (hk : x.kind = 3) {n : Nat} {r1 : Int × MS} {r : List (Nm × Int) × MS} (he : exprM n x.value vs s = some r1) (h2 : (if r1.1 ≠ 0 then stmtsM X.p X.fi n x.thn vs r1.2 else stmtsM X.p X.fi n x.els vs r1.2) = some r)
    (IH : PStmts cfg X n) (hz : x.sz < 2 ^ 40) (ho : r.2.out.length < 2 ^ 40) (hR : RepM X H s ov) (hv : VarOk X H rv vs ov) :
    WpCall Try.prog cfg 97 [.ptr X.rm 0, .agg x.cells, .map rv] H (StmtPost X rv ov H r) := by
  have b1 := Boxed.start (x := x) X hR hv
  have e1 : (X.rm == H.next) = false := beq_ne (Nat.ne_of_lt hR.lm)
  have hsz := x.sz_eq
  refine WpCall.slim (M := 154) (rs := []) ((hS.plain _ rfl).call _) (hS.plain _ rfl).ice (hS.plain _ rfl).froz Try.func97 rfl rfl code97.2 rfl ?_; dsimp only [code97, envOf, Nat.reduceAdd]
  repeat' (first
     | (apply Rx.nl ?_; clear hK K) | apply Ry.o ?_ | apply Ry.on ?_ | apply Ry.gu ?_ | (apply Ry.gd (fun hg hgp => ?_) (fun hg hgp => ?_) <;> try (cases hg; done)) | (apply Ry.cd (fun hb hbp => ?_) (fun hb hbp => ?_) <;> try (cases hb; done)) | apply Wp.seq ?_ | (apply Wp.ops' fun K hK => ?_) | (apply Rx.dT 3 [(2, 7), (2, 8), (5, 7)] fun K hK => ?_) | (apply Rx.dT 5 [(4, 12), (4, 17), (4, 18), (6, 12), (6, 17), (6, 18), (7, 12), (7, 17), (7, 18), (10, 12), (15, 12), (15, 17)] fun K hK => ?_) | (apply Rx.dT 28 [(2, 12), (2, 13), (7, 12), (9, 12), (10, 12)] fun K hK => ?_) | (apply Rx.nq ?_; try intro _) | (apply Rx.nt ?_ ?_ <;> clear hK K) | apply WpT.step ?_ | apply WpT.step0 rfl ?_ | apply Ry.gv ?_ | (apply Ry.gt (fun hg hgp => ?_) (fun hg hgp => ?_) <;> try (cases hg; done)) | apply Wp.block ?_ | apply Rx.sk ?_ | apply Rx.xt ?_)
  refine WpL.call rfl eVk eAk ?_; simp only [List.cons_append, List.nil_append, List.append_nil]
  refine WpCall.mono ?_ (expr_wp hS X n x.value vs s r1 he rv ov _ b1.R b1.v.get b1.v.lt b1.v.nm)
  rintro v H2 ⟨rfl, hR2, hf2⟩
  have b2 := b1.expr X hR hR2 hf2
  have g2 := b2.box
  dsimp only [setO]
  by_cases hc : r1.1 = 0
  · rw [if_neg (by simp [hc])] at h2
    repeat' (first
       | (apply Rx.nl ?_; clear hK K) | apply Ry.o ?_ | apply Ry.on ?_ | apply Ry.gu ?_ | (apply Ry.gd (fun hg hgp => ?_) (fun hg hgp => ?_) <;> try (cases hg; done)) | (apply Ry.cd (fun hb hbp => ?_) (fun hb hbp => ?_) <;> try (cases hb; done)) | apply Wp.seq ?_ | (apply Wp.ops' fun K hK => ?_) | (apply Rx.dT 3 [(2, 7), (2, 8), (5, 7)] fun K hK => ?_) | (apply Rx.dT 5 [(4, 12), (4, 17), (4, 18), (6, 12), (6, 17), (6, 18), (7, 12), (7, 17), (7, 18), (10, 12), (15, 12), (15, 17)] fun K hK => ?_) | (apply Rx.dT 28 [(2, 12), (2, 13), (7, 12), (9, 12), (10, 12)] fun K hK => ?_) | (apply Rx.nq ?_; try intro _) | (apply Rx.nt ?_ ?_ <;> clear hK K) | apply WpT.step ?_ | apply WpT.step0 rfl ?_ | apply Ry.gv ?_ | (apply Ry.gt (fun hg hgp => ?_) (fun hg hgp => ?_) <;> try (cases hg; done)) | apply Wp.block ?_ | apply Rx.sk ?_ | apply Rx.xt ?_)
    refine WpL.call rfl eVk eAk ?_; simp only [List.cons_append, List.nil_append, List.append_nil]
    refine WpCall.mono ?_ (IH x.els vs r1.2 r h2 (by omega) ho rv ov H2 b2.R b2.v)
    rintro v H3 ⟨ov3, hR3, hv3, hf3⟩
    dsimp only [setO]
    repeat' (first
       | (apply Rx.nl ?_; clear hK K) | apply Rx.o ?_ | apply Rx.on ?_ | apply Rx.gu ?_ | (apply Rx.gd (fun hg hgp => ?_) (fun hg hgp => ?_) <;> try (cases hg; done)) | (apply Rx.cd (fun hb hbp => ?_) (fun hb hbp => ?_) <;> try (cases hb; done)) | apply Wp.seq ?_ | (apply Wp.ops' fun K hK => ?_) | (apply Rx.dT 3 [(2, 7), (2, 8), (5, 7)] fun K hK => ?_) | (apply Rx.dT 5 [(4, 12), (4, 17), (4, 18), (6, 12), (6, 17), (6, 18), (7, 12), (7, 17), (7, 18), (10, 12), (15, 12), (15, 17)] fun K hK => ?_) | (apply Rx.dT 28 [(2, 12), (2, 13), (7, 12), (9, 12), (10, 12)] fun K hK => ?_) | (apply Rx.nq ?_; try intro _) | (apply Rx.nt ?_ ?_ <;> clear hK K) | apply WpT.step ?_ | apply WpT.step0 rfl ?_ | apply Rx.gv ?_ | (apply Rx.gt (fun hg hgp => ?_) (fun hg hgp => ?_) <;> try (cases hg; done)) | apply Wp.block ?_ | apply Rx.sk ?_ | apply Rx.xt ?_)
    all_goals (refine ⟨eI, _, eR, ?_⟩; try simp only [oneOr])
    exact ⟨ov3, hR3, hv3, b2.fr.trans hf3⟩
  · rw [if_pos hc] at h2
    repeat' (first
       | (apply Rx.nl ?_; clear hK K) | apply Ry.o ?_ | apply Ry.on ?_ | apply Ry.gu ?_ | (apply Ry.gd (fun hg hgp => ?_) (fun hg hgp => ?_) <;> try (cases hg; done)) | (apply Ry.cd (fun hb hbp => ?_) (fun hb hbp => ?_) <;> try (cases hb; done)) | apply Wp.seq ?_ | (apply Wp.ops' fun K hK => ?_) | (apply Rx.dT 3 [(2, 7), (2, 8), (5, 7)] fun K hK => ?_) | (apply Rx.dT 5 [(4, 12), (4, 17), (4, 18), (6, 12), (6, 17), (6, 18), (7, 12), (7, 17), (7, 18), (10, 12), (15, 12), (15, 17)] fun K hK => ?_) | (apply Rx.dT 28 [(2, 12), (2, 13), (7, 12), (9, 12), (10, 12)] fun K hK => ?_) | (apply Rx.nq ?_; try intro _) | (apply Rx.nt ?_ ?_ <;> clear hK K) | apply WpT.step ?_ | apply WpT.step0 rfl ?_ | apply Ry.gv ?_ | (apply Ry.gt (fun hg hgp => ?_) (fun hg hgp => ?_) <;> try (cases hg; done)) | apply Wp.block ?_ | apply Rx.sk ?_ | apply Rx.xt ?_)
    refine WpL.call rfl eVk eAk ?_; simp only [List.cons_append, List.nil_append, List.append_nil]
    refine WpCall.mono ?_ (IH x.thn vs r1.2 r h2 (by omega) ho rv ov H2 b2.R b2.v)
    rintro v H3 ⟨ov3, hR3, hv3, hf3⟩
    dsimp only [setO]
    repeat' (first
       | (apply Rx.nl ?_; clear hK K) | apply Rx.o ?_ | apply Rx.on ?_ | apply Rx.gu ?_ | (apply Rx.gd (fun hg hgp => ?_) (fun hg hgp => ?_) <;> try (cases hg; done)) | (apply Rx.cd (fun hb hbp => ?_) (fun hb hbp => ?_) <;> try (cases hb; done)) | apply Wp.seq ?_ | (apply Wp.ops' fun K hK => ?_) | (apply Rx.dT 3 [(2, 7), (2, 8), (5, 7)] fun K hK => ?_) | (apply Rx.dT 5 [(4, 12), (4, 17), (4, 18), (6, 12), (6, 17), (6, 18), (7, 12), (7, 17), (7, 18), (10, 12), (15, 12), (15, 17)] fun K hK => ?_) | (apply Rx.dT 28 [(2, 12), (2, 13), (7, 12), (9, 12), (10, 12)] fun K hK => ?_) | (apply Rx.nq ?_; try intro _) | (apply Rx.nt ?_ ?_ <;> clear hK K) | apply WpT.step ?_ | apply WpT.step0 rfl ?_ | apply Rx.gv ?_ | (apply Rx.gt (fun hg hgp => ?_) (fun hg hgp => ?_) <;> try (cases hg; done)) | apply Wp.block ?_ | apply Rx.sk ?_ | apply Rx.xt ?_)
    all_goals (refine ⟨eI, _, eR, ?_⟩; try simp only [oneOr])
    exact ⟨ov3, hR3, hv3, b2.fr.trans hf3⟩
set_option maxRecDepth 100000 in
set_option maxHeartbeats 4000000 in
include hS in
theorem stmt5 (hk : x.kind = 5) {n : Nat} {r1 : Int × MS} (he : exprM n x.value vs s = some r1) (ho : (outM r1.1 r1.2).out.length < 2 ^ 40) (hR : RepM X H s ov) (hv : VarOk X H rv vs ov) :
    WpCall Try.prog cfg 97 [.ptr X.rm 0, .agg x.cells, .map rv] H (StmtPost X rv ov H (vs, outM r1.1 r1.2)) := by
  have b1 := Boxed.start (x := x) X hR hv
  have e1 : (X.rm == H.next) = false := beq_ne (Nat.ne_of_lt hR.lm)
  have hkeep : cfg.keep 97 = false := hS.keep _
  refine WpCall.slim (M := 154) (rs := []) ((hS.plain _ rfl).call _) (hS.plain _ rfl).ice (hS.plain _ rfl).froz Try.func97 rfl rfl code97.2 rfl ?_; dsimp only [code97, envOf, Nat.reduceAdd]
  repeat' (first
     | (apply Rx.nl ?_; clear hK K) | apply Ry.o ?_ | apply Ry.on ?_ | apply Ry.gu ?_ | (apply Ry.gd (fun hg hgp => ?_) (fun hg hgp => ?_) <;> try (cases hg; done)) | (apply Ry.cd (fun hb hbp => ?_) (fun hb hbp => ?_) <;> try (cases hb; done)) | apply Wp.seq ?_ | (apply Wp.ops' fun K hK => ?_) | (apply Rx.dT 3 [(2, 7), (2, 8), (5, 7)] fun K hK => ?_) | (apply Rx.dT 5 [(4, 12), (4, 17), (4, 18), (6, 12), (6, 17), (6, 18), (7, 12), (7, 17), (7, 18), (10, 12), (15, 12), (15, 17)] fun K hK => ?_) | (apply Rx.dT 28 [(2, 12), (2, 13), (7, 12), (9, 12), (10, 12)] fun K hK => ?_) | (apply Rx.nq ?_; try intro _) | (apply Rx.nt ?_ ?_ <;> clear hK K) | apply WpT.step ?_ | apply WpT.step0 rfl ?_ | apply Ry.gv ?_ | (apply Ry.gt (fun hg hgp => ?_) (fun hg hgp => ?_) <;> try (cases hg; done)) | apply Wp.block ?_ | apply Rx.sk ?_ | apply Rx.xt ?_)
  refine WpL.call rfl eVk eAk ?_; simp only [List.cons_append, List.nil_append, List.append_nil]
  refine WpCall.mono ?_ (expr_wp hS X n x.value vs s r1 he rv ov _ b1.R b1.v.get b1.v.lt b1.v.nm)
  rintro v H2 ⟨rfl, hR2, hf2⟩
  have b2 := b1.expr X hR hR2 hf2
  have g2 := b2.box
  have m2 := b2.m
  unfold mc at m2
  dsimp only [setO]
  by_cases h0 : r1.2.fin = 0
  · have hlen := outM_len r1.1 r1.2
    have hR2' := hR2.alloc (.cells [.int .i64 r1.1] 0 true)
    obtain ⟨H6, happ, hn6, hg6, hk6⟩ := intsR_append (P := Try.prog) (t := 52) Try.underlying52 sz2 bt2 zr2 hR2'.out.ints (r' := H2.next) (x := r1.1) (by rw [Hp.get_alloc, if_pos rfl]) (by omega)
    obtain ⟨q1, q2⟩ := hR2'.putOut (x := r1.1) h0 (Nat.le_refl _) hn6 hg6 hk6
    have nb : ¬ outB ov X.rm := fun ⟨k, e⟩ => by
      rcases hR2.out with ⟨h1, _⟩ | ⟨ro, h1, _, _, h4, _⟩
      · rw [h1] at e; simp at e
      · rw [h1] at e
        simp only [AV.sl.injEq] at e
        exact h4 (.inl e.1)
    have m6 : H6.get X.rm = some (.cells (mc X r1.2 ov) 0 true) := by rw [hk6 _ hR2'.lm nb]; exact hR2'.m
    have e2 : (X.rm == H2.next) = false := beq_ne (Nat.ne_of_lt hR2.lm)
    have happ2 : appendA Try.prog false (H2.alloc (.cells [.int .i64 r1.1] 0 true)) 52 52 ov (.sl H2.next 0 1 1) = some (.sl (H2.next + 1) 0 (r1.2.out.length + 1) 1, H6) := happ
    unfold mc at m6
    repeat' (first
       | (apply Rx.nl ?_; clear hK K) | apply Ry.o ?_ | apply Ry.on ?_ | apply Ry.gu ?_ | (apply Ry.gd (fun hg hgp => ?_) (fun hg hgp => ?_) <;> try (cases hg; done)) | (apply Ry.cd (fun hb hbp => ?_) (fun hb hbp => ?_) <;> try (cases hb; done)) | apply Wp.seq ?_ | (apply Wp.ops' fun K hK => ?_) | (apply Rx.dT 3 [(2, 7), (2, 8), (5, 7)] fun K hK => ?_) | (apply Rx.dT 5 [(4, 12), (4, 17), (4, 18), (6, 12), (6, 17), (6, 18), (7, 12), (7, 17), (7, 18), (10, 12), (15, 12), (15, 17)] fun K hK => ?_) | (apply Rx.dT 28 [(2, 12), (2, 13), (7, 12), (9, 12), (10, 12)] fun K hK => ?_) | (apply Rx.nq ?_; try intro _) | (apply Rx.nt ?_ ?_ <;> clear hK K) | apply WpT.step ?_ | apply WpT.step0 rfl ?_ | apply Ry.gv ?_ | (apply Ry.gt (fun hg hgp => ?_) (fun hg hgp => ?_) <;> try (cases hg; done)) | apply Wp.block ?_ | apply Rx.sk ?_ | apply Rx.xt ?_)
    all_goals (refine ⟨eI, _, eR, ?_⟩; try simp only [oneOr])
    have e3 : HB.cells [AV.lst (List.map Ar.cells X.p.arrays), AV.lst (List.map Fu.cells X.p.funcs), AV.map X.rc, AV.map X.rf, AV.int .i64 r1.2.fuel, AV.int .i64 0, AV.int .i64 r1.2.code, AV.sl (H2.next + 1) 0 (r1.2.out.length + 1) 1] 0 true = .cells (mc X (outM r1.1 r1.2) (.sl (H2.next + 1) 0 (r1.2.out.length + 1) 1)) 0 true := by
      simp only [mc, outM, h0, if_true]
    have hfr : FrS X (· = rv) ov H2 ov (H2.alloc (.cells [.int .i64 r1.1] 0 true)) := ((FrE.refl _ _).alloc _).toS _ _
    first | rw [e3] | trace_state
    refine ⟨_, q1, (b2.v.frE ((FrE.refl _ _).alloc _)).frS q2 (fun e => e), b2.fr.trans (hfr.trans (q2.weak fun r _ e => e.elim))⟩
  · have ho' : outM r1.1 r1.2 = r1.2 := by simp only [outM, h0, if_false]
    repeat' (first
       | (apply Rx.nl ?_; clear hK K) | apply Ry.o ?_ | apply Ry.on ?_ | apply Ry.gu ?_ | (apply Ry.gd (fun hg hgp => ?_) (fun hg hgp => ?_) <;> try (cases hg; done)) | (apply Ry.cd (fun hb hbp => ?_) (fun hb hbp => ?_) <;> try (cases hb; done)) | apply Wp.seq ?_ | (apply Wp.ops' fun K hK => ?_) | (apply Rx.dT 3 [(2, 7), (2, 8), (5, 7)] fun K hK => ?_) | (apply Rx.dT 5 [(4, 12), (4, 17), (4, 18), (6, 12), (6, 17), (6, 18), (7, 12), (7, 17), (7, 18), (10, 12), (15, 12), (15, 17)] fun K hK => ?_) | (apply Rx.dT 28 [(2, 12), (2, 13), (7, 12), (9, 12), (10, 12)] fun K hK => ?_) | (apply Rx.nq ?_; try intro _) | (apply Rx.nt ?_ ?_ <;> clear hK K) | apply WpT.step ?_ | apply WpT.step0 rfl ?_ | apply Ry.gv ?_ | (apply Ry.gt (fun hg hgp => ?_) (fun hg hgp => ?_) <;> try (cases hg; done)) | apply Wp.block ?_ | apply Rx.sk ?_ | apply Rx.xt ?_)
    all_goals (refine ⟨eI, _, eR, ?_⟩; try simp only [oneOr])
    rw [ho']
    exact ⟨ov, hR2, b2.v, b2.fr⟩
set_option maxRecDepth 100000 in
set_option maxHeartbeats 4000000 in
include hS in
theorem stmt7 (hk : x.kind = 7) (hR : RepM X H s ov) (hv : VarOk X H rv vs ov) :
    WpCall Try.prog cfg 97 [.ptr X.rm 0, .agg x.cells, .map rv] H (StmtPost X rv ov H (vs, trapM (w64 (16 + x.n)) s)) := by
  have b1 := Boxed.start (x := x) X hR hv
  refine WpCall.slim (M := 154) (rs := []) ((hS.plain _ rfl).call _) (hS.plain _ rfl).ice (hS.plain _ rfl).froz Try.func97 rfl rfl code97.2 rfl ?_; dsimp only [code97, envOf, Nat.reduceAdd]
  repeat' (first
     | (apply Rx.nl ?_; clear hK K) | apply Ry.o ?_ | apply Ry.on ?_ | apply Ry.gu ?_ | (apply Ry.gd (fun hg hgp => ?_) (fun hg hgp => ?_) <;> try (cases hg; done)) | (apply Ry.cd (fun hb hbp => ?_) (fun hb hbp => ?_) <;> try (cases hb; done)) | apply Wp.seq ?_ | (apply Wp.ops' fun K hK => ?_) | (apply Rx.dT 3 [(2, 7), (2, 8), (5, 7)] fun K hK => ?_) | (apply Rx.dT 5 [(4, 12), (4, 17), (4, 18), (6, 12), (6, 17), (6, 18), (7, 12), (7, 17), (7, 18), (10, 12), (15, 12), (15, 17)] fun K hK => ?_) | (apply Rx.dT 28 [(2, 12), (2, 13), (7, 12), (9, 12), (10, 12)] fun K hK => ?_) | (apply Rx.nq ?_; try intro _) | (apply Rx.nt ?_ ?_ <;> clear hK K) | apply WpT.step ?_ | apply WpT.step0 rfl ?_ | apply Ry.gv ?_ | (apply Ry.gt (fun hg hgp => ?_) (fun hg hgp => ?_) <;> try (cases hg; done)) | apply Wp.block ?_ | apply Rx.sk ?_ | apply Rx.xt ?_)
  refine WpL.call rfl eVk eAk ?_; simp only [List.cons_append, List.nil_append, List.append_nil]
  refine WpCall.mono ?_ (trap_wp hS X s ov _ _ b1.R)
  rintro v H2 ⟨hR2, hf2⟩
  have b2 := b1.expr X hR hR2 hf2
  dsimp only [setO]
  repeat' (first
     | (apply Rx.nl ?_; clear hK K) | apply Rx.o ?_ | apply Rx.on ?_ | apply Rx.gu ?_ | (apply Rx.gd (fun hg hgp => ?_) (fun hg hgp => ?_) <;> try (cases hg; done)) | (apply Rx.cd (fun hb hbp => ?_) (fun hb hbp => ?_) <;> try (cases hb; done)) | apply Wp.seq ?_ | (apply Wp.ops' fun K hK => ?_) | (apply Rx.dT 3 [(2, 7), (2, 8), (5, 7)] fun K hK => ?_) | (apply Rx.dT 5 [(4, 12), (4, 17), (4, 18), (6, 12), (6, 17), (6, 18), (7, 12), (7, 17), (7, 18), (10, 12), (15, 12), (15, 17)] fun K hK => ?_) | (apply Rx.dT 28 [(2, 12), (2, 13), (7, 12), (9, 12), (10, 12)] fun K hK => ?_) | (apply Rx.nq ?_; try intro _) | (apply Rx.nt ?_ ?_ <;> clear hK K) | apply WpT.step ?_ | apply WpT.step0 rfl ?_ | apply Rx.gv ?_ | (apply Rx.gt (fun hg hgp => ?_) (fun hg hgp => ?_) <;> try (cases hg; done)) | apply Wp.block ?_ | apply Rx.sk ?_ | apply Rx.xt ?_)
  all_goals (refine ⟨eI, _, eR, ?_⟩; try simp only [oneOr])
  exact ⟨ov, hR2, b2.v, b2.fr⟩
set_option maxRecDepth 100000 in
set_option maxHeartbeats 4000000 in
include hS in
theorem stmt0 (h1 : ¬ x.kind = 1) (h2 : ¬ x.kind = 2) (h3 : ¬ x.kind = 3) (h4 : ¬ x.kind = 4) (h5 : ¬ x.kind = 5) (h6 : ¬ x.kind = 6) (h7 : ¬ x.kind = 7) (hR : RepM X H s ov) (hv : VarOk X H rv vs ov) :
    WpCall Try.prog cfg 97 [.ptr X.rm 0, .agg x.cells, .map rv] H (StmtPost X rv ov H (vs, s)) := by
  have b1 := Boxed.start (x := x) X hR hv
  refine WpCall.slim (M := 154) (rs := []) ((hS.plain _ rfl).call _) (hS.plain _ rfl).ice (hS.plain _ rfl).froz Try.func97 rfl rfl code97.2 rfl ?_; dsimp only [code97, envOf, Nat.reduceAdd]
  repeat' (first
     | (apply Rx.nl ?_; clear hK K) | apply Ry.o ?_ | apply Ry.on ?_ | apply Ry.gu ?_ | (apply Ry.gd (fun hg hgp => ?_) (fun hg hgp => ?_) <;> try (cases hg; done)) | (apply Ry.cd (fun hb hbp => ?_) (fun hb hbp => ?_) <;> try (cases hb; done)) | apply Wp.seq ?_ | (apply Wp.ops' fun K hK => ?_) | (apply Rx.dT 3 [(2, 7), (2, 8), (5, 7)] fun K hK => ?_) | (apply Rx.dT 5 [(4, 12), (4, 17), (4, 18), (6, 12), (6, 17), (6, 18), (7, 12), (7, 17), (7, 18), (10, 12), (15, 12), (15, 17)] fun K hK => ?_) | (apply Rx.dT 28 [(2, 12), (2, 13), (7, 12), (9, 12), (10, 12)] fun K hK => ?_) | (apply Rx.nq ?_; try intro _) | (apply Rx.nt ?_ ?_ <;> clear hK K) | apply WpT.step ?_ | apply WpT.step0 rfl ?_ | apply Ry.gv ?_ | (apply Ry.gt (fun hg hgp => ?_) (fun hg hgp => ?_) <;> try (cases hg; done)) | apply Wp.block ?_ | apply Rx.sk ?_ | apply Rx.xt ?_)
  all_goals (refine ⟨eI, _, eR, ?_⟩; try simp only [oneOr])
  exact ⟨ov, b1.R, b1.v, b1.fr⟩
set_option maxRecDepth 100000 in
set_option maxHeartbeats 4000000 in
include hS in
theorem stmt4 (hk : x.kind = 4) {n : Nat} {r : List (Nm × Int) × MS} (h : whileM X.p X.fi n x vs s = some r) (IH : ∀ m, m < n → PStmts cfg X m) (hz : x.sz < 2 ^ 40) (ho : r.2.out.length < 2 ^ 40) (hR : RepM X H s ov) (hv : VarOk X H rv vs ov) :
    WpCall Try.prog cfg 97 [.ptr X.rm 0, .agg x.cells, .map rv] H (StmtPost X rv ov H r) := by
  have b1 := Boxed.start (x := x) X hR hv
  have hsz := x.sz_eq
  have box : ∀ {ov2 : AV} {H2 : Hp}, FrS X (· = rv) ov (H.alloc (.cells x.cells 0 true)) ov2 H2 → H2.get H.next = some (.cells x.cells 0 true) := fun {ov2 H2} f => by
    rw [f.keep hR (Nat.le_refl _) (Nat.lt_succ_self _) (fun e => by have := hv.lt; omega)]; exact b1.box
  refine WpCall.slim (M := 154) (rs := []) ((hS.plain _ rfl).call _) (hS.plain _ rfl).ice (hS.plain _ rfl).froz Try.func97 rfl rfl code97.2 rfl ?_; dsimp only [code97, envOf, Nat.reduceAdd]
  repeat' (first
     | (apply Rx.nl ?_; clear hK K) | apply Ry.o ?_ | apply Ry.on ?_ | apply Ry.gu ?_ | (apply Ry.gd (fun hg hgp => ?_) (fun hg hgp => ?_) <;> try (cases hg; done)) | (apply Ry.cd (fun hb hbp => ?_) (fun hb hbp => ?_) <;> try (cases hb; done)) | apply Wp.seq ?_ | (apply Wp.ops' fun K hK => ?_) | (apply Rx.dT 3 [(2, 7), (2, 8), (5, 7)] fun K hK => ?_) | (apply Rx.dT 5 [(4, 12), (4, 17), (4, 18), (6, 12), (6, 17), (6, 18), (7, 12), (7, 17), (7, 18), (10, 12), (15, 12), (15, 17)] fun K hK => ?_) | (apply Rx.dT 28 [(2, 12), (2, 13), (7, 12), (9, 12), (10, 12)] fun K hK => ?_) | (apply Rx.nq ?_; try intro _) | (apply Rx.nt ?_ ?_ <;> clear hK K) | apply WpT.step ?_ | apply WpT.step0 rfl ?_ | apply Ry.gv ?_ | (apply Ry.gt (fun hg hgp => ?_) (fun hg hgp => ?_) <;> try (cases hg; done)) | apply Wp.block ?_ | apply Rx.sk ?_ | apply Rx.xt ?_)
  refine Wp.loop (fun m E H2 => ∃ vs2 s2 ov2, m ≤ n ∧ whileM X.p X.fi m x vs2 s2 = some r ∧ E.at 0 = .ptr X.rm 0 ∧ E.at 2 = .map rv ∧ E.at 4 = .ptr H.next 0 ∧ RepM X H2 s2 ov2 ∧ VarOk X H2 rv vs2 ov2 ∧ FrS X (· = rv) ov (H.alloc (.cells x.cells 0 true)) ov2 H2) ?_ (n := n) ?_
  · rintro m E H2 ⟨vs2, s2, ov2, hmn, hw, k0, k2, k4, hR2, hv2, hf2⟩
    cases m with
    | zero => simp [whileM] at hw
    | succ m =>
      unfold whileM at hw
      simp only [Option.bind_eq_some_iff] at hw
      obtain ⟨r1, he, hw⟩ := hw
      have kb := box hf2
      repeat' (first
         | (apply Rx.nl ?_; clear hK K) | apply Rx.o ?_ | apply Rx.on ?_ | apply Rx.gu ?_ | (apply Rx.gd (fun hg hgp => ?_) (fun hg hgp => ?_) <;> try (cases hg; done)) | (apply Rx.cd (fun hb hbp => ?_) (fun hb hbp => ?_) <;> try (cases hb; done)) | apply Wp.seq ?_ | (apply Wp.ops' fun K hK => ?_) | (apply Rx.dT 3 [(2, 7), (2, 8), (5, 7)] fun K hK => ?_) | (apply Rx.dT 5 [(4, 12), (4, 17), (4, 18), (6, 12), (6, 17), (6, 18), (7, 12), (7, 17), (7, 18), (10, 12), (15, 12), (15, 17)] fun K hK => ?_) | (apply Rx.dT 28 [(2, 12), (2, 13), (7, 12), (9, 12), (10, 12)] fun K hK => ?_) | (apply Rx.nq ?_; try intro _) | (apply Rx.nt ?_ ?_ <;> clear hK K) | apply WpT.step ?_ | apply WpT.step0 rfl ?_ | apply Rx.gv ?_ | (apply Rx.gt (fun hg hgp => ?_) (fun hg hgp => ?_) <;> try (cases hg; done)) | apply Wp.block ?_ | apply Rx.sk ?_ | apply Rx.xt ?_)
      refine WpL.call rfl eVk eAk ?_; simp only [List.cons_append, List.nil_append, List.append_nil]
      refine WpCall.mono ?_ (expr_wp hS X m x.value vs2 s2 r1 he rv ov2 _ hR2 hv2.get hv2.lt hv2.nm)
      rintro v H3 ⟨rfl, hR3, hf3⟩
      have hv3 := hv2.frE hf3
      have hf3' := hf2.trans (hf3.toS _ _)
      have m3 := hR3.m
      unfold mc at m3
      dsimp only [setO]
      by_cases hc : r1.1 ≠ 0 ∧ r1.2.fin = 0
      · obtain ⟨hc1, hc2⟩ := hc
        rw [if_pos ⟨hc1, hc2⟩] at hw
        repeat' (first
           | (apply Rx.nl ?_; clear hK K) | apply Ry.o ?_ | apply Ry.on ?_ | apply Ry.gu ?_ | (apply Ry.gd (fun hg hgp => ?_) (fun hg hgp => ?_) <;> try (cases hg; done)) | (apply Ry.cd (fun hb hbp => ?_) (fun hb hbp => ?_) <;> try (cases hb; done)) | apply Wp.seq ?_ | (apply Wp.ops' fun K hK => ?_) | (apply Rx.dT 3 [(2, 7), (2, 8), (5, 7)] fun K hK => ?_) | (apply Rx.dT 5 [(4, 12), (4, 17), (4, 18), (6, 12), (6, 17), (6, 18), (7, 12), (7, 17), (7, 18), (10, 12), (15, 12), (15, 17)] fun K hK => ?_) | (apply Rx.dT 28 [(2, 12), (2, 13), (7, 12), (9, 12), (10, 12)] fun K hK => ?_) | (apply Rx.nq ?_; try intro _) | (apply Rx.nt ?_ ?_ <;> clear hK K) | apply WpT.step ?_ | apply WpT.step0 rfl ?_ | apply Ry.gv ?_ | (apply Ry.gt (fun hg hgp => ?_) (fun hg hgp => ?_) <;> try (cases hg; done)) | apply Wp.block ?_ | apply Rx.sk ?_ | apply Rx.xt ?_)
        refine WpL.call rfl eVk eAk ?_; simp only [List.cons_append, List.nil_append, List.append_nil]
        refine WpCall.mono ?_ (tick_wp hS X r1.2 ov2 H3 hR3)
        rintro v H4 ⟨hR4, hf4⟩
        have hv4 := hv3.frE hf4
        have hf4' := hf3'.trans (hf4.toS _ _)
        have kb4 := box hf4'
        have m4 := hR4.m
        unfold mc at m4
        dsimp only [setO]
        by_cases ht : (tickM r1.2).fin = 0
        · rw [if_pos ht] at hw
          simp only [Option.bind_eq_some_iff] at hw
          obtain ⟨r2, hs2, hw⟩ := hw
          repeat' (first
             | (apply Rx.nl ?_; clear hK K) | apply Ry.o ?_ | apply Ry.on ?_ | apply Ry.gu ?_ | (apply Ry.gd (fun hg hgp => ?_) (fun hg hgp => ?_) <;> try (cases hg; done)) | (apply Ry.cd (fun hb hbp => ?_) (fun hb hbp => ?_) <;> try (cases hb; done)) | apply Wp.seq ?_ | (apply Wp.ops' fun K hK => ?_) | (apply Rx.dT 3 [(2, 7), (2, 8), (5, 7)] fun K hK => ?_) | (apply Rx.dT 5 [(4, 12), (4, 17), (4, 18), (6, 12), (6, 17), (6, 18), (7, 12), (7, 17), (7, 18), (10, 12), (15, 12), (15, 17)] fun K hK => ?_) | (apply Rx.dT 28 [(2, 12), (2, 13), (7, 12), (9, 12), (10, 12)] fun K hK => ?_) | (apply Rx.nq ?_; try intro _) | (apply Rx.nt ?_ ?_ <;> clear hK K) | apply WpT.step ?_ | apply WpT.step0 rfl ?_ | apply Ry.gv ?_ | (apply Ry.gt (fun hg hgp => ?_) (fun hg hgp => ?_) <;> try (cases hg; done)) | apply Wp.block ?_ | apply Rx.sk ?_ | apply Rx.xt ?_)
          refine WpL.call rfl eVk eAk ?_; simp only [List.cons_append, List.nil_append, List.append_nil]
          refine WpCall.mono ?_ (IH m (by omega) x.thn vs2 _ r2 hs2 (by omega) (Nat.lt_of_le_of_lt ((stepM_out _ _ _).2.2.1 _ _ _ _ hw) ho) rv ov2 H4 hR4 hv4)
          rintro v H5 ⟨ov5, hR5, hv5, hf5⟩
          dsimp only [setO]
          repeat' (first
             | (apply Rx.nl ?_; clear hK K) | apply Rx.o ?_ | apply Rx.on ?_ | apply Rx.gu ?_ | (apply Rx.gd (fun hg hgp => ?_) (fun hg hgp => ?_) <;> try (cases hg; done)) | (apply Rx.cd (fun hb hbp => ?_) (fun hb hbp => ?_) <;> try (cases hb; done)) | apply Wp.seq ?_ | (apply Wp.ops' fun K hK => ?_) | (apply Rx.dT 3 [(2, 7), (2, 8), (5, 7)] fun K hK => ?_) | (apply Rx.dT 5 [(4, 12), (4, 17), (4, 18), (6, 12), (6, 17), (6, 18), (7, 12), (7, 17), (7, 18), (10, 12), (15, 12), (15, 17)] fun K hK => ?_) | (apply Rx.dT 28 [(2, 12), (2, 13), (7, 12), (9, 12), (10, 12)] fun K hK => ?_) | (apply Rx.nq ?_; try intro _) | (apply Rx.nt ?_ ?_ <;> clear hK K) | apply WpT.step ?_ | apply WpT.step0 rfl ?_ | apply Rx.gv ?_ | (apply Rx.gt (fun hg hgp => ?_) (fun hg hgp => ?_) <;> try (cases hg; done)) | apply Wp.block ?_ | apply Rx.sk ?_ | apply Rx.xt ?_)
          exact ⟨m, Nat.lt_succ_self m, r2.1, r2.2, ov5, by omega, hw, eE, eE, eE, hR5, hv5, hf4'.trans hf5⟩
        · rw [if_neg ht] at hw
          repeat' (first
             | (apply Rx.nl ?_; clear hK K) | apply Ry.o ?_ | apply Ry.on ?_ | apply Ry.gu ?_ | (apply Ry.gd (fun hg hgp => ?_) (fun hg hgp => ?_) <;> try (cases hg; done)) | (apply Ry.cd (fun hb hbp => ?_) (fun hb hbp => ?_) <;> try (cases hb; done)) | apply Wp.seq ?_ | (apply Wp.ops' fun K hK => ?_) | (apply Rx.dT 3 [(2, 7), (2, 8), (5, 7)] fun K hK => ?_) | (apply Rx.dT 5 [(4, 12), (4, 17), (4, 18), (6, 12), (6, 17), (6, 18), (7, 12), (7, 17), (7, 18), (10, 12), (15, 12), (15, 17)] fun K hK => ?_) | (apply Rx.dT 28 [(2, 12), (2, 13), (7, 12), (9, 12), (10, 12)] fun K hK => ?_) | (apply Rx.nq ?_; try intro _) | (apply Rx.nt ?_ ?_ <;> clear hK K) | apply WpT.step ?_ | apply WpT.step0 rfl ?_ | apply Ry.gv ?_ | (apply Ry.gt (fun hg hgp => ?_) (fun hg hgp => ?_) <;> try (cases hg; done)) | apply Wp.block ?_ | apply Rx.sk ?_ | apply Rx.xt ?_)
          exact ⟨m, Nat.lt_succ_self m, vs2, _, ov2, by omega, hw, eE, eE, eE, hR4, hv4, hf4'⟩
      · rw [if_neg hc] at hw
        simp only [Option.some.injEq] at hw
        subst hw
        have fr0 : FrS X (· = rv) ov H ov (H.alloc (.cells x.cells 0 true)) := b1.fr
        by_cases hc1 : r1.1 = 0
        · repeat' (first
             | (apply Rx.nl ?_; clear hK K) | apply Ry.o ?_ | apply Ry.on ?_ | apply Ry.gu ?_ | (apply Ry.gd (fun hg hgp => ?_) (fun hg hgp => ?_) <;> try (cases hg; done)) | (apply Ry.cd (fun hb hbp => ?_) (fun hb hbp => ?_) <;> try (cases hb; done)) | apply Wp.seq ?_ | (apply Wp.ops' fun K hK => ?_) | (apply Rx.dT 3 [(2, 7), (2, 8), (5, 7)] fun K hK => ?_) | (apply Rx.dT 5 [(4, 12), (4, 17), (4, 18), (6, 12), (6, 17), (6, 18), (7, 12), (7, 17), (7, 18), (10, 12), (15, 12), (15, 17)] fun K hK => ?_) | (apply Rx.dT 28 [(2, 12), (2, 13), (7, 12), (9, 12), (10, 12)] fun K hK => ?_) | (apply Rx.nq ?_; try intro _) | (apply Rx.nt ?_ ?_ <;> clear hK K) | apply WpT.step ?_ | apply WpT.step0 rfl ?_ | apply Ry.gv ?_ | (apply Ry.gt (fun hg hgp => ?_) (fun hg hgp => ?_) <;> try (cases hg; done)) | apply Wp.block ?_ | apply Rx.sk ?_ | apply Rx.xt ?_)
          all_goals (refine ⟨eI, _, eR, ?_⟩; try simp only [oneOr])
          exact ⟨ov2, hR3, hv3, fr0.trans hf3'⟩
        · have hc2 : ¬ r1.2.fin = 0 := fun e => hc ⟨hc1, e⟩
          repeat' (first
             | (apply Rx.nl ?_; clear hK K) | apply Ry.o ?_ | apply Ry.on ?_ | apply Ry.gu ?_ | (apply Ry.gd (fun hg hgp => ?_) (fun hg hgp => ?_) <;> try (cases hg; done)) | (apply Ry.cd (fun hb hbp => ?_) (fun hb hbp => ?_) <;> try (cases hb; done)) | apply Wp.seq ?_ | (apply Wp.ops' fun K hK => ?_) | (apply Rx.dT 3 [(2, 7), (2, 8), (5, 7)] fun K hK => ?_) | (apply Rx.dT 5 [(4, 12), (4, 17), (4, 18), (6, 12), (6, 17), (6, 18), (7, 12), (7, 17), (7, 18), (10, 12), (15, 12), (15, 17)] fun K hK => ?_) | (apply Rx.dT 28 [(2, 12), (2, 13), (7, 12), (9, 12), (10, 12)] fun K hK => ?_) | (apply Rx.nq ?_; try intro _) | (apply Rx.nt ?_ ?_ <;> clear hK K) | apply WpT.step ?_ | apply WpT.step0 rfl ?_ | apply Ry.gv ?_ | (apply Ry.gt (fun hg hgp => ?_) (fun hg hgp => ?_) <;> try (cases hg; done)) | apply Wp.block ?_ | apply Rx.sk ?_ | apply Rx.xt ?_)
          all_goals (refine ⟨eI, _, eR, ?_⟩; try simp only [oneOr])
          exact ⟨ov2, hR3, hv3, fr0.trans hf3'⟩
  · exact ⟨vs, s, ov, Nat.le_refl _, h, eE, eE, eE, b1.R, b1.v, FrS.refl _ _ _ _⟩
end
end Go.Proofs.Ytjkmbpieknaekaa
