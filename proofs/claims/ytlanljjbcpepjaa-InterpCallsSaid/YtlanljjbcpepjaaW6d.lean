/- The interpreter: statements, one kind after the other. -/
import Derived.Test.YtlanljjbcpepjaaW6c
import Derived.Test.YtlanljjbcpepjaaRep6b
import Derived.Test.YtlanljjbcpepjaaSem6b
namespace Go.Proofs.Ytlanljjbcpepjaa
set_option linter.unusedSimpArgs false
set_option linter.unusedVariables false
set_option linter.unusedSectionVars false
set_option linter.defProp false
open Go Go.Ab
namespace tyW6d
def tyF := And.intro @sz2 (And.intro @pt2 (And.intro @bt2 (And.intro @zr2 (And.intro @sz3 (And.intro @pt3 (And.intro @bt3 (And.intro @zr3 (And.intro @sz9 (And.intro @pt9 (And.intro @bt9 (And.intro @zr9 (And.intro @ln9 (And.intro @ix9 (And.intro @sz25 (And.intro @pt25 (And.intro @bt25 (And.intro @zr25 (And.intro @fa25_0p (And.intro @fa25_0c (And.intro @fd25_0 (And.intro @fa25_1p (And.intro @fa25_1c (And.intro @fd25_1 (And.intro @sz36 (And.intro @pt36 (And.intro @bt36 (And.intro @zr36 (And.intro @ix36l (And.intro @ix36s (And.intro @ln36l (And.intro @ln36s (And.intro @ln36n (And.intro @sz37 (And.intro @pt37 (And.intro @bt37 (And.intro @zr37 (And.intro @ix37l (And.intro @ix37s (And.intro @ln37l (And.intro @ln37s (And.intro @ln37n (And.intro @sz39 (And.intro @pt39 (And.intro @bt39 (And.intro @zr39 (And.intro @fa39_0p (And.intro @fa39_0c (And.intro @fd39_0 (And.intro @fa39_1p (And.intro @fa39_1c (And.intro @fd39_1 (And.intro @fa39_2p (And.intro @fa39_2c (And.intro @fd39_2 (And.intro @fa39_3p (And.intro @fa39_3c (And.intro @fd39_3 (And.intro @fa39_4p (And.intro @fa39_4c (And.intro @fd39_4 (And.intro @sz46 (And.intro @pt46 (And.intro @bt46 (And.intro @zr46 (And.intro @fa46_0p (And.intro @fa46_0c (And.intro @fd46_0 (And.intro @fa46_1p (And.intro @fa46_1c (And.intro @fd46_1 (And.intro @fa46_2p (And.intro @fa46_2c (And.intro @fd46_2 (And.intro @fa46_3p (And.intro @fa46_3c (And.intro @fd46_3 (And.intro @fa46_4p (And.intro @fa46_4c (And.intro @fd46_4 (And.intro @fa46_5p (And.intro @fa46_5c (And.intro @fd46_5 (And.intro @fa46_6p (And.intro @fa46_6c (And.intro @fd46_6 (And.intro @fa46_7p (And.intro @fa46_7c (And.intro @fd46_7 (And.intro @fa46_8p (And.intro @fa46_8c (And.intro @fd46_8 (And.intro @sz52 (And.intro @pt52 (And.intro @bt52 (And.intro @zr52 (And.intro @ix52l (And.intro @ix52s (And.intro @ln52l (And.intro @ln52s (And.intro @ln52n (And.intro @sz85 (And.intro @pt85 (And.intro @bt85 (And.intro @zr85 (And.intro @sz86 (And.intro @pt86 (And.intro @bt86 (And.intro @zr86 (And.intro @sz88 (And.intro @pt88 (And.intro @bt88 (And.intro @zr88 (And.intro @fa88_0p (And.intro @fa88_0c (And.intro @fd88_0 (And.intro @fa88_1p (And.intro @fa88_1c (And.intro @fd88_1 (And.intro @fa88_2p (And.intro @fa88_2c (And.intro @fd88_2 (And.intro @fa88_3p (And.intro @fa88_3c (And.intro @fd88_3 (And.intro @fa88_4p (And.intro @fa88_4c (And.intro @fd88_4 (And.intro @fa88_5p (And.intro @fa88_5c (And.intro @fd88_5 (And.intro @fa88_6p (And.intro @fa88_6c (And.intro @fd88_6 (And.intro @sz123 (And.intro @pt123 (And.intro @bt123 (@zr123)))))))))))))))))))))))))))))))))))))))))))))))))))))))))))))))))))))))))))))))))))))))))))))))))))))))))))))))))))))))))))))))))))))))))
end tyW6d
open tyW6d

noncomputable def code99 : { c : SC // slim 154 (Try.f99.body.getD .skip) = c } := by
  refine ⟨?_, ?_⟩
  rotate_left
  · simp only [Try.f99, Option.getD_some, slim, slimR, slimL, slimD, slimG, Nat.blt, Nat.ble]
    rfl

def StmtPost (X : Mx) (rv : Nat) (ov : AV) (H : Hp) (r : List (Nm × Int) × MS) (v : AV) (H' : Hp) : Prop := ∃ ov', RepM X H' r.2 ov' ∧ VarOk X H' rv r.1 ov' ∧ FrS X (· = rv) ov H ov' H'
def PStmt (cfg : Cfg) (X : Mx) (N : Nat) : Prop := ∀ x vs s r, stmtM X.p X.fi N x vs s = some r → x.sz < 2 ^ 40 → r.2.out.length < 2 ^ 40 → ∀ rv ov H, RepM X H s ov → VarOk X H rv vs ov →
  WpCall Try.prog cfg 99 [.ptr X.rm 0, .agg x.cells, .map rv] H (StmtPost X rv ov H r)
def PStmts (cfg : Cfg) (X : Mx) (N : Nat) : Prop := ∀ l vs s r, stmtsM X.p X.fi N l vs s = some r → stmtsSz l < 2 ^ 40 → r.2.out.length < 2 ^ 40 → ∀ rv ov H, RepM X H s ov → VarOk X H rv vs ov →
  WpCall Try.prog cfg 78 [.ptr X.rm 0, .lst (l.map St.cells), .map rv] H (StmtPost X rv ov H r)
def PCall (cfg : Cfg) (X : Mx) (N : Nat) : Prop := ∀ k al s r, callM X.p X.fi N k al s = some r → r.2.out.length < 2 ^ 40 → al.length < 2 ^ 40 → ∀ av ov H, RepM X H s ov → ArgsV H av al → (∀ b, slB av b → b < H.next) →
  WpCall Try.prog cfg 43 [.ptr X.rm 0, .int .i64 k, av] H fun v H' => v = .int .i64 r.1 ∧ ∃ ov', RepM X H' r.2 ov' ∧ FrS X (fun _ => False) ov H ov' H'

theorem bs52 (H : Hp) (n : Int) : buildSliceA Try.prog H 52 1 [(0, .int .i64 n)] = some (.sl H.next 0 1 1, H.alloc (.cells [.int .i64 n] 0 true)) := by kernel_rfl
theorem CellV.congr {X : Mx} {s s' : MS} {nm : Nm} {lv : AV} (h : CellV X s nm lv) (e : s'.cells = s.cells) : CellV X s' nm lv := by unfold CellV; rw [e]; exact h

section
variable {cfg : Cfg} (hS : Std cfg) (X : Mx) {x : St} {vs : List (Nm × Int)} {s : MS} {rv : Nat} {ov : AV} {H : Hp}

/-- What holds when the statement lies in its box. -/
structure Boxed (X : Mx) (x : St) (vs : List (Nm × Int)) (s : MS) (rv : Nat) (ov : AV) (H H1 : Hp) : Prop where
  R : RepM X H1 s ov
  v : VarOk X H1 rv vs ov
  fr : FrS X (· = rv) ov H ov H1
  box : H1.get H.next = some (.cells x.cells 0 true)
  n : H.next + 1 ≤ H1.next
  m : H1.get X.rm = some (.cells (mc X s ov) 0 true)
theorem Boxed.start (hR : RepM X H s ov) (hv : VarOk X H rv vs ov) : Boxed X x vs s rv ov H (H.alloc (.cells x.cells 0 true)) where
  R := hR.alloc _
  v := hv.frE ((FrE.refl _ _).alloc _)
  fr := ((FrE.refl _ _).alloc _).toS _ _
  box := by rw [Hp.get_alloc, if_pos rfl]
  n := Nat.le_refl _
  m := (hR.alloc _).m
theorem Boxed.expr {H1 H2 : Hp} {s0 s2 : MS} (hR : RepM X H s0 ov) (b : Boxed X x vs s rv ov H H1) (hR2 : RepM X H2 s2 ov) (f : FrE X H1 H2) : Boxed X x vs s2 rv ov H H2 where
  R := hR2
  v := b.v.frE f
  fr := b.fr.trans (f.toS _ _)
  box := by rw [f.get _ (by have := b.n; omega) (by have := hR.lm; omega)]; exact b.box
  n := Nat.le_trans b.n f.next
  m := hR2.m

set_option maxRecDepth 100000 in
set_option maxHeartbeats 4000000 in
include hS in
theorem stmt1 (hk : x.kind = 1) {n : Nat} {r1 : Int × MS} (he : exprM n x.value vs s = some r1) (hR : RepM X H s ov) (hv : VarOk X H rv vs ov) :
    WpCall Try.prog cfg 99 [.ptr X.rm 0, .agg x.cells, .map rv] H (StmtPost X rv ov H (setV vs x.name r1.1, r1.2)) := by
  have b1 := Boxed.start (x := x) X hR hv
  have e1 : (X.rm == H.next) = false := beq_ne (Nat.ne_of_lt hR.lm)
  refine WpCall.slim (M := 154) (rs := []) ((hS.plain _ rfl).call _) (hS.plain _ rfl).ice (hS.plain _ rfl).froz Try.func99 rfl rfl code99.2 rfl ?_; dsimp only [code99, envOf, Nat.reduceAdd]
  repeat' (first
     | (refine WpL.nil (hK _ _ ?_); clear hK K; try dsimp only [thenQ, blockQ]) | (refine WpL.nil ?_; (try dsimp only []); (try intro _)) | (refine WpT.nil (hK _ _ _ ?_ ?_) <;> clear hK K <;> try dsimp only [thenQ, blockQ]) | refine Ry.move (hk := ?_) | refine Ry.assign (hk := ?_) | refine Ry.load (hk := ?_) | refine Ry.bin (hk := ?_) | refine Ry.fieldAddr (hk := ?_) | refine Ry.indexAddr (hk := ?_) | refine Ry.len (hk := ?_) | refine Ry.pick (hk := ?_) | refine Ry.nilCheck (hk := ?_) | refine Ry.box (hk := ?_) | refine Ry.alloc (hk := ?_) | refine Ry.store (hk := ?_) | refine Ry.lookup (hk := ?_) | refine Ry.mapUpdate (hk := ?_) | refine Ry.buildSlice (hk := ?_) | refine Ry.append (hk := ?_) | (refine Ry.guardU (hk := ?_); dsimp only [setO]) | (refine Ry.guard (h1 := fun hg => ?_) (h2 := fun hg => ?_) <;> (try simp only [Bool.not_true, Bool.not_false, reduceCtorEq] at hg) <;> (try (cases hg; done)) <;> (try have hgp := hg) <;> (try simp only [decide_eq_true_eq, decide_eq_false_iff_not] at hgp) <;> (try dsimp only [setO])) | (refine Ry.cond (h1 := fun hb => ?_) (h2 := fun hb => ?_) <;> (try simp only [Bool.not_true, Bool.not_false, reduceCtorEq] at hb) <;> (try (cases hb; done)) <;> (try have hbp := hb) <;> (try simp only [decide_eq_true_eq, decide_eq_false_iff_not] at hbp)) | refine Wp.seq ?_ | (refine Wp.ops' fun K hK => ?_)
     | refine Wp.drawT (id := 3) (need := [(2, 7), (2, 8), (5, 7)]) (by first | rfl | exact hplan _ | (rw [hS.plan]; rfl)) (by kernel_rfl) (by simp only [slimL, slimD, slimG, Nat.blt, Nat.ble]; rfl) (by kernel_rfl) fun K hK => ?_ | (refine Wp.drawT (id := 5) (need := [(4, 12), (4, 17), (4, 18), (6, 12), (6, 17), (6, 18), (7, 12), (7, 17), (7, 18), (10, 12), (15, 12), (15, 17)]) (by first | rfl | exact hplan _ | (rw [hS.plan]; rfl)) (by kernel_rfl) (by simp only [slimL, slimD, slimG, Nat.blt, Nat.ble]; rfl) (by kernel_rfl) fun K hK => ?_) | (refine Wp.drawT (id := 28) (need := [(2, 12), (2, 13), (7, 12), (9, 12), (10, 12)]) (by first | rfl | exact hplan _ | (rw [hS.plan]; rfl)) (by kernel_rfl) (by simp only [slimL, slimD, slimG, Nat.blt, Nat.ble]; rfl) (by kernel_rfl) fun K hK => ?_) | refine WpT.step ?_ | refine WpT.step0 rfl ?_ | (refine Ry.guardUT (hk := ?_); dsimp only [setO]) | (refine Ry.guardT (h1 := fun hg => ?_) (h2 := fun hg => ?_) <;> (try simp only [Bool.not_true, Bool.not_false, reduceCtorEq] at hg) <;> (try (cases hg; done)) <;> (try have hgp := hg) <;> (try simp only [decide_eq_true_eq, decide_eq_false_iff_not] at hgp) <;> (try dsimp only [setO])) | refine Wp.block ?_ | (refine Wp.skip ?_; try dsimp only [thenQ, blockQ]) | (refine Wp.ret ?_; try dsimp only [thenQ, blockQ]) | (refine Wp.exit ?_; try simp only [thenQ, blockQ, reduceIte]))
  refine WpL.call rfl (by (try simp only [sB, Nat.reduceBEq, *, -hK]); first | done | with_reducible rfl) (by (try simp only [sB, Nat.reduceBEq, aevals, List.cons_append, List.nil_append, *, -hK]); first | done | with_reducible rfl) ?_; simp only [List.cons_append, List.nil_append, List.append_nil]
  refine WpCall.mono ?_ (expr_wp hS X n x.value vs s r1 he rv ov _ b1.R b1.v.get b1.v.lt b1.v.nm)
  rintro v H2 ⟨rfl, hR2, hf2⟩
  have b2 := b1.expr X hR hR2 hf2
  have g2 := b2.box
  have hn2 := b2.n
  have hu := upd_vEs (P := Try.prog) Try.underlying123 keyS b2.v.get x.name r1.1
  dsimp only [setO]
  repeat' (first
     | (refine WpL.nil (hK _ _ ?_); clear hK K; try dsimp only [thenQ, blockQ]) | (refine WpL.nil ?_; (try dsimp only []); (try intro _)) | (refine WpT.nil (hK _ _ _ ?_ ?_) <;> clear hK K <;> try dsimp only [thenQ, blockQ]) | refine Rx.move (hk := ?_) | refine Rx.assign (hk := ?_) | refine Rx.load (hk := ?_) | refine Rx.bin (hk := ?_) | refine Rx.fieldAddr (hk := ?_) | refine Rx.indexAddr (hk := ?_) | refine Rx.len (hk := ?_) | refine Rx.pick (hk := ?_) | refine Rx.nilCheck (hk := ?_) | refine Rx.box (hk := ?_) | refine Rx.alloc (hk := ?_) | refine Rx.store (hk := ?_) | refine Rx.lookup (hk := ?_) | refine Rx.mapUpdate (hk := ?_) | refine Rx.buildSlice (hk := ?_) | refine Rx.append (hk := ?_) | (refine Rx.guardU (hk := ?_); dsimp only [setO]) | (refine Rx.guard (h1 := fun hg => ?_) (h2 := fun hg => ?_) <;> (try simp only [Bool.not_true, Bool.not_false, reduceCtorEq] at hg) <;> (try (cases hg; done)) <;> (try have hgp := hg) <;> (try simp only [decide_eq_true_eq, decide_eq_false_iff_not] at hgp) <;> (try dsimp only [setO])) | (refine Rx.cond (h1 := fun hb => ?_) (h2 := fun hb => ?_) <;> (try simp only [Bool.not_true, Bool.not_false, reduceCtorEq] at hb) <;> (try (cases hb; done)) <;> (try have hbp := hb) <;> (try simp only [decide_eq_true_eq, decide_eq_false_iff_not] at hbp)) | refine Wp.seq ?_ | (refine Wp.ops' fun K hK => ?_)
     | refine Wp.drawT (id := 3) (need := [(2, 7), (2, 8), (5, 7)]) (by first | rfl | exact hplan _ | (rw [hS.plan]; rfl)) (by kernel_rfl) (by simp only [slimL, slimD, slimG, Nat.blt, Nat.ble]; rfl) (by kernel_rfl) fun K hK => ?_ | (refine Wp.drawT (id := 5) (need := [(4, 12), (4, 17), (4, 18), (6, 12), (6, 17), (6, 18), (7, 12), (7, 17), (7, 18), (10, 12), (15, 12), (15, 17)]) (by first | rfl | exact hplan _ | (rw [hS.plan]; rfl)) (by kernel_rfl) (by simp only [slimL, slimD, slimG, Nat.blt, Nat.ble]; rfl) (by kernel_rfl) fun K hK => ?_) | (refine Wp.drawT (id := 28) (need := [(2, 12), (2, 13), (7, 12), (9, 12), (10, 12)]) (by first | rfl | exact hplan _ | (rw [hS.plan]; rfl)) (by kernel_rfl) (by simp only [slimL, slimD, slimG, Nat.blt, Nat.ble]; rfl) (by kernel_rfl) fun K hK => ?_) | refine WpT.step ?_ | refine WpT.step0 rfl ?_ | (refine Rx.guardUT (hk := ?_); dsimp only [setO]) | (refine Rx.guardT (h1 := fun hg => ?_) (h2 := fun hg => ?_) <;> (try simp only [Bool.not_true, Bool.not_false, reduceCtorEq] at hg) <;> (try (cases hg; done)) <;> (try have hgp := hg) <;> (try simp only [decide_eq_true_eq, decide_eq_false_iff_not] at hgp) <;> (try dsimp only [setO])) | refine Wp.block ?_ | (refine Wp.skip ?_; try dsimp only [thenQ, blockQ]) | (refine Wp.ret ?_; try dsimp only [thenQ, blockQ]) | (refine Wp.exit ?_; try simp only [thenQ, blockQ, reduceIte]))
  · (refine ⟨?_, ?_⟩ <;> simp only [List.nil_append, List.cons_append, List.append_assoc, List.getElem?_cons_succ, List.getElem?_cons_zero, List.getElem?_nil, List.forall_mem_cons, Hp.next_alloc, Hp.next_set, Nat.le_refl, true_and, and_true] <;> (repeat' apply And.intro) <;> first
      | (intro r hr; cases hr; done)
      | (refine sameT_at (by simp only [List.nil_append, List.cons_append, List.append_assoc, List.getElem?_cons_succ, List.getElem?_cons_zero, List.getElem?_nil]; rfl) (fun hd => ?_)
         simp only [heapT, List.nil_append, List.cons_append, List.append_assoc, List.getElem?_cons_succ, List.getElem?_cons_zero, List.getElem?_nil] at hd ⊢
         first
         | (cases hd; done)
         | exact same_load (by (try simp only [sB, Nat.reduceBEq, g2, e1, *]); first | done | with_reducible rfl) (by (try simp only [sB, sO, Nat.reduceBEq, Nat.reduceAdd, Nat.reduceLeDiff, tyF, g2, e1, *]); first | done | with_reducible rfl)
         | exact same_lookup (by (try simp only [sB, Nat.reduceBEq, g2, e1, *]); first | done | with_reducible rfl) (by (try simp only [sB, Nat.reduceBEq, g2, e1, *]); first | done | with_reducible rfl) (by (try simp only [sB, sO, Nat.reduceBEq, Nat.reduceAdd, Nat.reduceLeDiff, tyF, g2, e1, *]); first | done | with_reducible rfl)
         | exact same_len (by (try simp only [sB, Nat.reduceBEq, g2, e1, *]); first | done | with_reducible rfl) (by (try simp only [sB, sO, Nat.reduceBEq, Nat.reduceAdd, Nat.reduceLeDiff, tyF, g2, e1, *]); first | done | with_reducible rfl)
         | exact same_conv (by (try simp only [sB, Nat.reduceBEq, g2, e1, *]); first | done | with_reducible rfl) (by (try simp only [sB, sO, Nat.reduceBEq, Nat.reduceAdd, Nat.reduceLeDiff, tyF, g2, e1, *]); first | done | with_reducible rfl)
         | exact same_make rfl (by (try simp only [sB, sO, Nat.reduceBEq, Nat.reduceAdd, Nat.reduceLeDiff, tyF, g2, e1, *]); first | done | with_reducible rfl) (by (try simp only [sB, sO, Nat.reduceBEq, Nat.reduceAdd, Nat.reduceLeDiff, tyF, g2, e1, *]); first | done | with_reducible rfl)
         | skip)
      | exact Nat.le_refl _
      | assumption
      | omega
      | skip)
  · all_goals (refine ⟨by first | exact .inl rfl | exact .inr rfl | exact .inl trivial | exact .inr trivial, _, (by (try simp only [sB, Nat.reduceBEq, resultsA, resultA, *]); first | done | with_reducible rfl), ?_⟩; try simp only [oneOr])
    obtain ⟨q1, q2, q3⟩ := b2.R.setV b2.v (setV vs x.name r1.1)
    exact ⟨ov, q1, q2, b2.fr.trans q3⟩

set_option maxRecDepth 100000 in
set_option maxHeartbeats 4000000 in
include hS in
theorem stmt2 (hk : x.kind = 2) {n : Nat} {r1 r2 : Int × MS} (he : exprM n x.at_ vs s = some r1) (he2 : exprM n x.value vs r1.2 = some r2) (hR : RepM X H s ov) (hv : VarOk X H rv vs ov) :
    WpCall Try.prog cfg 99 [.ptr X.rm 0, .agg x.cells, .map rv] H (StmtPost X rv ov H (vs, storeM x.name r1.1 r2.1 r2.2)) := by
  have b1 := Boxed.start (x := x) X hR hv
  have e1 : (X.rm == H.next) = false := beq_ne (Nat.ne_of_lt hR.lm)
  have hm := hR.m
  unfold mc at hm
  obtain ⟨lv, hl1, hL⟩ := b1.R.look (P := Try.prog) Try.underlying85 keyS zSl x.name
  refine WpCall.slim (M := 154) (rs := []) ((hS.plain _ rfl).call _) (hS.plain _ rfl).ice (hS.plain _ rfl).froz Try.func99 rfl rfl code99.2 rfl ?_; dsimp only [code99, envOf, Nat.reduceAdd]
  repeat' (first
     | (refine WpL.nil (hK _ _ ?_); clear hK K; try dsimp only [thenQ, blockQ]) | (refine WpL.nil ?_; (try dsimp only []); (try intro _)) | (refine WpT.nil (hK _ _ _ ?_ ?_) <;> clear hK K <;> try dsimp only [thenQ, blockQ]) | refine Ry.move (hk := ?_) | refine Ry.assign (hk := ?_) | refine Ry.load (hk := ?_) | refine Ry.bin (hk := ?_) | refine Ry.fieldAddr (hk := ?_) | refine Ry.indexAddr (hk := ?_) | refine Ry.len (hk := ?_) | refine Ry.pick (hk := ?_) | refine Ry.nilCheck (hk := ?_) | refine Ry.box (hk := ?_) | refine Ry.alloc (hk := ?_) | refine Ry.store (hk := ?_) | refine Ry.lookup (hk := ?_) | refine Ry.mapUpdate (hk := ?_) | refine Ry.buildSlice (hk := ?_) | refine Ry.append (hk := ?_) | (refine Ry.guardU (hk := ?_); dsimp only [setO]) | (refine Ry.guard (h1 := fun hg => ?_) (h2 := fun hg => ?_) <;> (try simp only [Bool.not_true, Bool.not_false, reduceCtorEq] at hg) <;> (try (cases hg; done)) <;> (try have hgp := hg) <;> (try simp only [decide_eq_true_eq, decide_eq_false_iff_not] at hgp) <;> (try dsimp only [setO])) | (refine Ry.cond (h1 := fun hb => ?_) (h2 := fun hb => ?_) <;> (try simp only [Bool.not_true, Bool.not_false, reduceCtorEq] at hb) <;> (try (cases hb; done)) <;> (try have hbp := hb) <;> (try simp only [decide_eq_true_eq, decide_eq_false_iff_not] at hbp)) | refine Wp.seq ?_ | (refine Wp.ops' fun K hK => ?_)
     | refine Wp.drawT (id := 3) (need := [(2, 7), (2, 8), (5, 7)]) (by first | rfl | exact hplan _ | (rw [hS.plan]; rfl)) (by kernel_rfl) (by simp only [slimL, slimD, slimG, Nat.blt, Nat.ble]; rfl) (by kernel_rfl) fun K hK => ?_ | (refine Wp.drawT (id := 5) (need := [(4, 12), (4, 17), (4, 18), (6, 12), (6, 17), (6, 18), (7, 12), (7, 17), (7, 18), (10, 12), (15, 12), (15, 17)]) (by first | rfl | exact hplan _ | (rw [hS.plan]; rfl)) (by kernel_rfl) (by simp only [slimL, slimD, slimG, Nat.blt, Nat.ble]; rfl) (by kernel_rfl) fun K hK => ?_) | (refine Wp.drawT (id := 28) (need := [(2, 12), (2, 13), (7, 12), (9, 12), (10, 12)]) (by first | rfl | exact hplan _ | (rw [hS.plan]; rfl)) (by kernel_rfl) (by simp only [slimL, slimD, slimG, Nat.blt, Nat.ble]; rfl) (by kernel_rfl) fun K hK => ?_) | refine WpT.step ?_ | refine WpT.step0 rfl ?_ | (refine Ry.guardUT (hk := ?_); dsimp only [setO]) | (refine Ry.guardT (h1 := fun hg => ?_) (h2 := fun hg => ?_) <;> (try simp only [Bool.not_true, Bool.not_false, reduceCtorEq] at hg) <;> (try (cases hg; done)) <;> (try have hgp := hg) <;> (try simp only [decide_eq_true_eq, decide_eq_false_iff_not] at hgp) <;> (try dsimp only [setO])) | refine Wp.block ?_ | (refine Wp.skip ?_; try dsimp only [thenQ, blockQ]) | (refine Wp.ret ?_; try dsimp only [thenQ, blockQ]) | (refine Wp.exit ?_; try simp only [thenQ, blockQ, reduceIte]))
  refine WpL.call rfl (by (try simp only [sB, Nat.reduceBEq, *, -hK]); first | done | with_reducible rfl) (by (try simp only [sB, Nat.reduceBEq, aevals, List.cons_append, List.nil_append, *, -hK]); first | done | with_reducible rfl) ?_; simp only [List.cons_append, List.nil_append, List.append_nil]
  refine WpCall.mono ?_ (expr_wp hS X n x.at_ vs s r1 he rv ov _ b1.R b1.v.get b1.v.lt b1.v.nm)
  rintro v H2 ⟨rfl, hR2, hf2⟩
  have b2 := b1.expr X hR hR2 hf2
  have g2 := b2.box
  have m2 := b2.m
  unfold mc at m2
  have hn2 := b2.n
  have hl2 : lookupA Try.prog H2 85 (.map X.rc) (.str x.name) false = some lv := by
    rw [← hl1]
    exact lookup_congr (hf2.get _ b1.R.lc hR.mc'.symm) _ _ _
  dsimp only [setO]
  repeat' (first
     | (refine WpL.nil (hK _ _ ?_); clear hK K; try dsimp only [thenQ, blockQ]) | (refine WpL.nil ?_; (try dsimp only []); (try intro _)) | (refine WpT.nil (hK _ _ _ ?_ ?_) <;> clear hK K <;> try dsimp only [thenQ, blockQ]) | refine Rx.move (hk := ?_) | refine Rx.assign (hk := ?_) | refine Rx.load (hk := ?_) | refine Rx.bin (hk := ?_) | refine Rx.fieldAddr (hk := ?_) | refine Rx.indexAddr (hk := ?_) | refine Rx.len (hk := ?_) | refine Rx.pick (hk := ?_) | refine Rx.nilCheck (hk := ?_) | refine Rx.box (hk := ?_) | refine Rx.alloc (hk := ?_) | refine Rx.store (hk := ?_) | refine Rx.lookup (hk := ?_) | refine Rx.mapUpdate (hk := ?_) | refine Rx.buildSlice (hk := ?_) | refine Rx.append (hk := ?_) | (refine Rx.guardU (hk := ?_); dsimp only [setO]) | (refine Rx.guard (h1 := fun hg => ?_) (h2 := fun hg => ?_) <;> (try simp only [Bool.not_true, Bool.not_false, reduceCtorEq] at hg) <;> (try (cases hg; done)) <;> (try have hgp := hg) <;> (try simp only [decide_eq_true_eq, decide_eq_false_iff_not] at hgp) <;> (try dsimp only [setO])) | (refine Rx.cond (h1 := fun hb => ?_) (h2 := fun hb => ?_) <;> (try simp only [Bool.not_true, Bool.not_false, reduceCtorEq] at hb) <;> (try (cases hb; done)) <;> (try have hbp := hb) <;> (try simp only [decide_eq_true_eq, decide_eq_false_iff_not] at hbp)) | refine Wp.seq ?_ | (refine Wp.ops' fun K hK => ?_)
     | refine Wp.drawT (id := 3) (need := [(2, 7), (2, 8), (5, 7)]) (by first | rfl | exact hplan _ | (rw [hS.plan]; rfl)) (by kernel_rfl) (by simp only [slimL, slimD, slimG, Nat.blt, Nat.ble]; rfl) (by kernel_rfl) fun K hK => ?_ | (refine Wp.drawT (id := 5) (need := [(4, 12), (4, 17), (4, 18), (6, 12), (6, 17), (6, 18), (7, 12), (7, 17), (7, 18), (10, 12), (15, 12), (15, 17)]) (by first | rfl | exact hplan _ | (rw [hS.plan]; rfl)) (by kernel_rfl) (by simp only [slimL, slimD, slimG, Nat.blt, Nat.ble]; rfl) (by kernel_rfl) fun K hK => ?_) | (refine Wp.drawT (id := 28) (need := [(2, 12), (2, 13), (7, 12), (9, 12), (10, 12)]) (by first | rfl | exact hplan _ | (rw [hS.plan]; rfl)) (by kernel_rfl) (by simp only [slimL, slimD, slimG, Nat.blt, Nat.ble]; rfl) (by kernel_rfl) fun K hK => ?_) | refine WpT.step ?_ | refine WpT.step0 rfl ?_ | (refine Rx.guardUT (hk := ?_); dsimp only [setO]) | (refine Rx.guardT (h1 := fun hg => ?_) (h2 := fun hg => ?_) <;> (try simp only [Bool.not_true, Bool.not_false, reduceCtorEq] at hg) <;> (try (cases hg; done)) <;> (try have hgp := hg) <;> (try simp only [decide_eq_true_eq, decide_eq_false_iff_not] at hgp) <;> (try dsimp only [setO])) | refine Wp.block ?_ | (refine Wp.skip ?_; try dsimp only [thenQ, blockQ]) | (refine Wp.ret ?_; try dsimp only [thenQ, blockQ]) | (refine Wp.exit ?_; try simp only [thenQ, blockQ, reduceIte]))
  refine WpL.call rfl (by (try simp only [sB, Nat.reduceBEq, *, -hK]); first | done | with_reducible rfl) (by (try simp only [sB, Nat.reduceBEq, aevals, List.cons_append, List.nil_append, *, -hK]); first | done | with_reducible rfl) ?_; simp only [List.cons_append, List.nil_append, List.append_nil]
  refine WpCall.mono ?_ (expr_wp hS X n x.value vs r1.2 r2 he2 rv ov _ b2.R b2.v.get b2.v.lt b2.v.nm)
  rintro v H3 ⟨rfl, hR3, hf3⟩
  have b3 := b2.expr X hR hR3 hf3
  have g3 := b3.box
  have m3 := b3.m
  unfold mc at m3
  have hn3 := hf3.next
  have hl3 : lookupA Try.prog H3 85 (.map X.rc) (.str x.name) false = some lv := by
    rw [← hl2]
    exact lookup_congr (hf3.get _ b2.R.lc hR.mc'.symm) _ _ _
  have hc : r2.2.cells = s.cells := ((exprM_keep _ _ _ _ _ he2).2.1).trans (exprM_keep _ _ _ _ _ he).2.1
  dsimp only [setO]
  repeat' (first
     | (refine WpL.nil (hK _ _ ?_); clear hK K; try dsimp only [thenQ, blockQ]) | (refine WpL.nil ?_; (try dsimp only []); (try intro _)) | (refine WpT.nil (hK _ _ _ ?_ ?_) <;> clear hK K <;> try dsimp only [thenQ, blockQ]) | refine Rx.move (hk := ?_) | refine Rx.assign (hk := ?_) | refine Rx.load (hk := ?_) | refine Rx.bin (hk := ?_) | refine Rx.fieldAddr (hk := ?_) | refine Rx.indexAddr (hk := ?_) | refine Rx.len (hk := ?_) | refine Rx.pick (hk := ?_) | refine Rx.nilCheck (hk := ?_) | refine Rx.box (hk := ?_) | refine Rx.alloc (hk := ?_) | refine Rx.store (hk := ?_) | refine Rx.lookup (hk := ?_) | refine Rx.mapUpdate (hk := ?_) | refine Rx.buildSlice (hk := ?_) | refine Rx.append (hk := ?_) | (refine Rx.guardU (hk := ?_); dsimp only [setO]) | (refine Rx.guard (h1 := fun hg => ?_) (h2 := fun hg => ?_) <;> (try simp only [Bool.not_true, Bool.not_false, reduceCtorEq] at hg) <;> (try (cases hg; done)) <;> (try have hgp := hg) <;> (try simp only [decide_eq_true_eq, decide_eq_false_iff_not] at hgp) <;> (try dsimp only [setO])) | (refine Rx.cond (h1 := fun hb => ?_) (h2 := fun hb => ?_) <;> (try simp only [Bool.not_true, Bool.not_false, reduceCtorEq] at hb) <;> (try (cases hb; done)) <;> (try have hbp := hb) <;> (try simp only [decide_eq_true_eq, decide_eq_false_iff_not] at hbp)) | refine Wp.seq ?_ | (refine Wp.ops' fun K hK => ?_)
     | refine Wp.drawT (id := 3) (need := [(2, 7), (2, 8), (5, 7)]) (by first | rfl | exact hplan _ | (rw [hS.plan]; rfl)) (by kernel_rfl) (by simp only [slimL, slimD, slimG, Nat.blt, Nat.ble]; rfl) (by kernel_rfl) fun K hK => ?_ | (refine Wp.drawT (id := 5) (need := [(4, 12), (4, 17), (4, 18), (6, 12), (6, 17), (6, 18), (7, 12), (7, 17), (7, 18), (10, 12), (15, 12), (15, 17)]) (by first | rfl | exact hplan _ | (rw [hS.plan]; rfl)) (by kernel_rfl) (by simp only [slimL, slimD, slimG, Nat.blt, Nat.ble]; rfl) (by kernel_rfl) fun K hK => ?_) | (refine Wp.drawT (id := 28) (need := [(2, 12), (2, 13), (7, 12), (9, 12), (10, 12)]) (by first | rfl | exact hplan _ | (rw [hS.plan]; rfl)) (by kernel_rfl) (by simp only [slimL, slimD, slimG, Nat.blt, Nat.ble]; rfl) (by kernel_rfl) fun K hK => ?_) | refine WpT.step ?_ | refine WpT.step0 rfl ?_ | (refine Rx.guardUT (hk := ?_); dsimp only [setO]) | (refine Rx.guardT (h1 := fun hg => ?_) (h2 := fun hg => ?_) <;> (try simp only [Bool.not_true, Bool.not_false, reduceCtorEq] at hg) <;> (try (cases hg; done)) <;> (try have hgp := hg) <;> (try simp only [decide_eq_true_eq, decide_eq_false_iff_not] at hgp) <;> (try dsimp only [setO])) | refine Wp.block ?_ | (refine Wp.skip ?_; try dsimp only [thenQ, blockQ]) | (refine Wp.ret ?_; try dsimp only [thenQ, blockQ]) | (refine Wp.exit ?_; try simp only [thenQ, blockQ, reduceIte]))
  refine WpL.call rfl (by (try simp only [sB, Nat.reduceBEq, *, -hK]); first | done | with_reducible rfl) (by (try simp only [sB, Nat.reduceBEq, aevals, List.cons_append, List.nil_append, *, -hK]); first | done | with_reducible rfl) ?_; simp only [List.cons_append, List.nil_append, List.append_nil]
  refine WpCall.mono ?_ (store_wp hS X r2.2 ov x.name lv r1.1 r2.1 H3 hR3 (CellV.congr hL hc))
  rintro v H4 ⟨hR4, hf4⟩
  have hn4 := hf4.next
  have f4 : FrS X (· = rv) ov H ov H4 := b3.fr.trans (hf4.toS _ _)
  have g4 : H4.get H.next = some (.cells x.cells 0 true) := by
    rw [(hf4.toS (· = rv) ov).keep hR (Nat.le_refl _) (by omega) (fun e => by have := hv.lt; omega)]; exact g3
  have m4 := hR4.m
  unfold mc at m4
  have hl4 : lookupA Try.prog H4 85 (.map X.rc) (.str x.name) false = some lv := by
    rw [← hl3]
    refine lookup_congr (hf4.get _ b3.R.lc ?_) _ _ _
    rintro (e | e)
    · exact hR.mc' e.symm
    · exact hR.cs e
  dsimp only [setO]
  repeat' (first
     | (refine WpL.nil (hK _ _ ?_); clear hK K; try dsimp only [thenQ, blockQ]) | (refine WpL.nil ?_; (try dsimp only []); (try intro _)) | (refine WpT.nil (hK _ _ _ ?_ ?_) <;> clear hK K <;> try dsimp only [thenQ, blockQ]) | refine Rx.move (hk := ?_) | refine Rx.assign (hk := ?_) | refine Rx.load (hk := ?_) | refine Rx.bin (hk := ?_) | refine Rx.fieldAddr (hk := ?_) | refine Rx.indexAddr (hk := ?_) | refine Rx.len (hk := ?_) | refine Rx.pick (hk := ?_) | refine Rx.nilCheck (hk := ?_) | refine Rx.box (hk := ?_) | refine Rx.alloc (hk := ?_) | refine Rx.store (hk := ?_) | refine Rx.lookup (hk := ?_) | refine Rx.mapUpdate (hk := ?_) | refine Rx.buildSlice (hk := ?_) | refine Rx.append (hk := ?_) | (refine Rx.guardU (hk := ?_); dsimp only [setO]) | (refine Rx.guard (h1 := fun hg => ?_) (h2 := fun hg => ?_) <;> (try simp only [Bool.not_true, Bool.not_false, reduceCtorEq] at hg) <;> (try (cases hg; done)) <;> (try have hgp := hg) <;> (try simp only [decide_eq_true_eq, decide_eq_false_iff_not] at hgp) <;> (try dsimp only [setO])) | (refine Rx.cond (h1 := fun hb => ?_) (h2 := fun hb => ?_) <;> (try simp only [Bool.not_true, Bool.not_false, reduceCtorEq] at hb) <;> (try (cases hb; done)) <;> (try have hbp := hb) <;> (try simp only [decide_eq_true_eq, decide_eq_false_iff_not] at hbp)) | refine Wp.seq ?_ | (refine Wp.ops' fun K hK => ?_)
     | refine Wp.drawT (id := 3) (need := [(2, 7), (2, 8), (5, 7)]) (by first | rfl | exact hplan _ | (rw [hS.plan]; rfl)) (by kernel_rfl) (by simp only [slimL, slimD, slimG, Nat.blt, Nat.ble]; rfl) (by kernel_rfl) fun K hK => ?_ | (refine Wp.drawT (id := 5) (need := [(4, 12), (4, 17), (4, 18), (6, 12), (6, 17), (6, 18), (7, 12), (7, 17), (7, 18), (10, 12), (15, 12), (15, 17)]) (by first | rfl | exact hplan _ | (rw [hS.plan]; rfl)) (by kernel_rfl) (by simp only [slimL, slimD, slimG, Nat.blt, Nat.ble]; rfl) (by kernel_rfl) fun K hK => ?_) | (refine Wp.drawT (id := 28) (need := [(2, 12), (2, 13), (7, 12), (9, 12), (10, 12)]) (by first | rfl | exact hplan _ | (rw [hS.plan]; rfl)) (by kernel_rfl) (by simp only [slimL, slimD, slimG, Nat.blt, Nat.ble]; rfl) (by kernel_rfl) fun K hK => ?_) | refine WpT.step ?_ | refine WpT.step0 rfl ?_ | (refine Rx.guardUT (hk := ?_); dsimp only [setO]) | (refine Rx.guardT (h1 := fun hg => ?_) (h2 := fun hg => ?_) <;> (try simp only [Bool.not_true, Bool.not_false, reduceCtorEq] at hg) <;> (try (cases hg; done)) <;> (try have hgp := hg) <;> (try simp only [decide_eq_true_eq, decide_eq_false_iff_not] at hgp) <;> (try dsimp only [setO])) | refine Wp.block ?_ | (refine Wp.skip ?_; try dsimp only [thenQ, blockQ]) | (refine Wp.ret ?_; try dsimp only [thenQ, blockQ]) | (refine Wp.exit ?_; try simp only [thenQ, blockQ, reduceIte]))
  · (refine ⟨?_, ?_⟩ <;> simp only [List.nil_append, List.cons_append, List.append_assoc, List.getElem?_cons_succ, List.getElem?_cons_zero, List.getElem?_nil, List.forall_mem_cons, Hp.next_alloc, Hp.next_set, Nat.le_refl, true_and, and_true] <;> (repeat' apply And.intro) <;> first
      | (intro r hr; cases hr; done)
      | (refine sameT_at (by simp only [List.nil_append, List.cons_append, List.append_assoc, List.getElem?_cons_succ, List.getElem?_cons_zero, List.getElem?_nil]; rfl) (fun hd => ?_)
         simp only [heapT, List.nil_append, List.cons_append, List.append_assoc, List.getElem?_cons_succ, List.getElem?_cons_zero, List.getElem?_nil] at hd ⊢
         first
         | (cases hd; done)
         | exact same_load (by (try simp only [sB, Nat.reduceBEq, hl1, hl2, hl3, hl4, g2, m2, g3, m3, g4, m4, e1, *]); first | done | with_reducible rfl) (by (try simp only [sB, sO, Nat.reduceBEq, Nat.reduceAdd, Nat.reduceLeDiff, tyF, hl1, hl2, hl3, hl4, g2, m2, g3, m3, g4, m4, e1, *]); first | done | with_reducible rfl)
         | exact same_lookup (by (try simp only [sB, Nat.reduceBEq, hl1, hl2, hl3, hl4, g2, m2, g3, m3, g4, m4, e1, *]); first | done | with_reducible rfl) (by (try simp only [sB, Nat.reduceBEq, hl1, hl2, hl3, hl4, g2, m2, g3, m3, g4, m4, e1, *]); first | done | with_reducible rfl) (by (try simp only [sB, sO, Nat.reduceBEq, Nat.reduceAdd, Nat.reduceLeDiff, tyF, hl1, hl2, hl3, hl4, g2, m2, g3, m3, g4, m4, e1, *]); first | done | with_reducible rfl)
         | exact same_len (by (try simp only [sB, Nat.reduceBEq, hl1, hl2, hl3, hl4, g2, m2, g3, m3, g4, m4, e1, *]); first | done | with_reducible rfl) (by (try simp only [sB, sO, Nat.reduceBEq, Nat.reduceAdd, Nat.reduceLeDiff, tyF, hl1, hl2, hl3, hl4, g2, m2, g3, m3, g4, m4, e1, *]); first | done | with_reducible rfl)
         | exact same_conv (by (try simp only [sB, Nat.reduceBEq, hl1, hl2, hl3, hl4, g2, m2, g3, m3, g4, m4, e1, *]); first | done | with_reducible rfl) (by (try simp only [sB, sO, Nat.reduceBEq, Nat.reduceAdd, Nat.reduceLeDiff, tyF, hl1, hl2, hl3, hl4, g2, m2, g3, m3, g4, m4, e1, *]); first | done | with_reducible rfl)
         | exact same_make rfl (by (try simp only [sB, sO, Nat.reduceBEq, Nat.reduceAdd, Nat.reduceLeDiff, tyF, hl1, hl2, hl3, hl4, g2, m2, g3, m3, g4, m4, e1, *]); first | done | with_reducible rfl) (by (try simp only [sB, sO, Nat.reduceBEq, Nat.reduceAdd, Nat.reduceLeDiff, tyF, hl1, hl2, hl3, hl4, g2, m2, g3, m3, g4, m4, e1, *]); first | done | with_reducible rfl)
         | skip)
      | exact Nat.le_refl _
      | assumption
      | omega
      | skip)
  · all_goals (refine ⟨by first | exact .inl rfl | exact .inr rfl | exact .inl trivial | exact .inr trivial, _, (by (try simp only [sB, Nat.reduceBEq, resultsA, resultA, *]); first | done | with_reducible rfl), ?_⟩; try simp only [oneOr])
    exact ⟨ov, hR4, b3.v.frA hf4, f4⟩
end
end Go.Proofs.Ytlanljjbcpepjaa
