/- Parts: G2s, LawB. -/
import Derived.Test.YtjkmbpieknaekaaICP
set_option linter.unusedSimpArgs false
set_option linter.unusedVariables false
set_option linter.unusedSectionVars false
set_option linter.defProp false
namespace Go.Proofs.Ytjkmbpieknaekaa
set_option maxRecDepth 20000
set_option linter.unusedSimpArgs false
set_option linter.unusedVariables false
set_option linter.unusedSectionVars false
set_option linter.defProp false
open Go Go.Ab
theorem RowOwn.pushL {P : Program} {t u e : TypeId} {z b : Nat} {zz : List AV} (ht : P.underlying t = some (.slice e)) (hs : sizeA P e = some z) (hb : bytesA P e = some b) (hz : zeroA P e = some zz) (hzz : zz.length = z) (hsrc : srcType P u = true)
    {lo n : Nat} {H : Hp} {v : AV} {ws : List (List AV)} (h : RowOwn (fun k => lo ≤ k) n H z v ws) (hlo : lo ≤ H.next) {x : AV} {rows w : List (List AV)} (hx : srcCells H z x = some (rows.length, rows.flatten)) (hone : rows.flatten.all AV.one = true)
    (hw : RowsW (fun k => lo ≤ k ∧ ∀ o m z', v ≠ .sl k o m z') n H z rows w) (hb1 : (ws.length + rows.length) * b ≤ maxRoom) (hb2 : ws.length + rows.length ≤ maxRoom) :
    ∃ v' H', appendA P false H t u v x = some (v', H') ∧ RowOwn (fun k => lo ≤ k) n H' z v' (ws ++ w) ∧ H.next ≤ H'.next ∧ H'.next ≤ H.next + 1 ∧ (∀ k, k < H.next → (∀ o m z', v ≠ .sl k o m z') → H'.get k = H.get k) ∧ (∀ k o m z', v' = .sl k o m z' → k = H.next ∨ v' = v) ∧ (v' = .nilS → v = .nilS) := by
  have hwl2 : rows.length = w.length := All2.len hw
  by_cases h0 : rows = []
  · subst h0
    have hw0 : w = [] := List.eq_nil_of_length_eq_zero (by simpa using hwl2.symm)
    subst hw0
    refine ⟨v, H, ?_, by rw [List.append_nil]; exact h, Nat.le_refl _, Nat.le_succ _, fun _ _ _ => rfl, fun _ _ _ _ _ => .inr rfl, fun e => e⟩
    rcases h with ⟨rfl, rfl⟩ | ⟨q, imm', rows, rfl, h1, h2, h3, h4, h5⟩ <;>
    · simp only [List.length_nil] at hx
      simp only [appendA, ht, hs, hb, hz, hsrc, hx]
  · have hpos : 0 < rows.length := List.length_pos_iff.2 h0
    obtain ⟨m, hm⟩ : ∃ m, rows.length = m + 1 := ⟨rows.length - 1, by omega⟩
    rcases h with ⟨rfl, rfl⟩ | ⟨q, imm', rows', rfl, h1, h2, h3, h4, h5⟩
    · have hb1' : rows.length * b ≤ maxRoom := by simpa using hb1
      have hb2' : rows.length ≤ maxRoom := by simpa using hb2
      refine ⟨.sl H.next 0 rows.length z, H.alloc (.cells rows.flatten 0 true), ?_, .inr ⟨H.next, 0, rows, rfl, hlo, Nat.lt_succ_self _, by rw [Hp.get_alloc, if_pos rfl], Nat.zero_le _, ?_⟩, Nat.le_succ _, Nat.le_refl _, fun k hk _ => by rw [Hp.get_alloc, if_neg (by omega)], fun k o m z' e => ?_, fun e => by cases e⟩
      · rw [hm] at hx hb1' hb2' ⊢
        simp only [appendA, ht, hs, hb, hz, hsrc, hx, hone, hzz, and_self, if_true, trimA, appendOnto, hb1', hb2']
      · exact RowsW.keep2 hw (fun k h1 h2 => ⟨h2.1, by omega⟩) (Nat.le_succ _) fun k h1 h2 => by rw [Hp.get_alloc, if_neg (by omega)]
      · simp only [AV.sl.injEq] at e
        exact .inl e.1.symm
    · have hrl := rows_len (RowsW.len h5)
      have hwl : rows'.length = ws.length := All2.len h5
      have htr : trimA false H z (.sl q 0 rows'.length z) = H := by
        unfold trimA
        simp only [h3, Nat.zero_add]
        have : Nat.blt (rows'.length * z) rows'.flatten.length = false := by
          cases hb : Nat.blt (rows'.length * z) rows'.flatten.length with
          | false => rfl
          | true => rw [Nat.blt_eq] at hb; omega
        simp only [Bool.not_false, Bool.true_and, this, Bool.false_and]
      refine ⟨.sl H.next 0 (rows'.length + rows.length) z, (H.kill q).alloc (.cells (rows'.flatten ++ rows.flatten) (imm' - 0) true), ?_, .inr ⟨H.next, imm' - 0, rows' ++ rows, by simp, hlo, Nat.lt_succ_self _, ?_, by rw [List.flatten_append, List.length_append]; omega, ?_⟩, Nat.le_succ _, Nat.le_refl _, fun k hk hno => ?_, fun k o m z' e => ?_, fun e => by cases e⟩
      · rw [hm] at hx hb1 hb2 ⊢
        simp only [appendA, ht, hs, hb, hz, hsrc, hx, hone, htr, hzz, and_self, if_true, appendOnto, h3, Nat.zero_add, List.drop_zero, Bool.false_eq_true, if_false]
        rw [if_pos ⟨by rw [hwl]; exact hb1, by rw [hwl]; exact hb2, by omega, trivial, h4⟩]
      · show ((H.kill q).alloc _).get (H.kill q).next = _
        rw [Hp.get_alloc, if_pos rfl]; simp
      · have hold : ∀ k, k < H.next → k ≠ q → ((H.kill q).alloc (.cells (rows'.flatten ++ rows.flatten) (imm' - 0) true)).get k = H.get k := fun k h6 h7 => by rw [Hp.get_alloc, if_neg (by simp only [Hp.next_kill]; omega), Hp.get_kill, if_neg h7]
        refine All2.append (h5.keep2 (fun k h6 h7 => ⟨h7.1, by omega⟩) (Nat.le_succ _) fun k h6 h7 => hold k h7 h6.2) (RowsW.keep2 hw (fun k h6 h7 => ⟨h7.1, by omega⟩) (Nat.le_succ _) fun k h6 h7 => hold k h7 fun e => h6.2 0 rows'.length z (by rw [e]))
      · rw [Hp.get_alloc, if_neg (by simp only [Hp.next_kill]; omega), Hp.get_kill, if_neg (fun e => hno 0 rows'.length z (by rw [e]))]
      · simp only [AV.sl.injEq] at e
        exact .inl e.1.symm
theorem src_rows {z : Nat} {H : Hp} {rows : List (List AV)} (h : ∀ r ∈ rows, r.length = z) : srcCells H z (.lst rows) = some (rows.length, rows.flatten) := by
  simp only [srcCells]
  rw [if_pos (by rw [List.all_eq_true]; intro r hr; simp [h r hr])]
theorem CellsW.pure {S : Nat → Prop} {n : Nat} {H : Hp} {cs : List AV} (h : ∀ c ∈ cs, flatA c ∧ ∀ m, n ≤ m → wkN m c = c) (hn : 0 < n) : CellsW S n H cs cs := by
  obtain ⟨n, rfl⟩ : ∃ k, n = k + 1 := ⟨n - 1, by omega⟩
  refine ⟨cs, All2.refl fun c hc => Ic.flat (h c hc).1, fun m hm => ?_⟩
  have : cs.map (wkN m) = cs.map id := List.map_congr_left fun c hc => (h c hc).2 m hm
  rw [this, List.map_id]
theorem Ex.wk : ∀ (m : Nat) (x : Ex), x.cells.map (wkN m) = x.cells
  | 0, x => by rw [show wkN 0 = id from rfl, List.map_id]
  | m + 1, x => by
    rw [Ex.cells_eq]
    simp only [List.map_cons, List.map_nil, wkN, List.map_map]
    have : (fun row => List.map (wkN m) row) ∘ Ex.cells = Ex.cells := funext fun y => Ex.wk m y
    rw [this]
theorem wk_exs (l : List Ex) (m : Nat) : wkN m (.lst (l.map Ex.cells)) = .lst (l.map Ex.cells) := by
  cases m with
  | zero => rfl
  | succ m =>
    simp only [wkN, List.map_map]
    have : (fun row => List.map (wkN m) row) ∘ Ex.cells = Ex.cells := funext fun y => Ex.wk m y
    rw [this]
theorem St.wk : ∀ (m : Nat) (x : St), x.cells.map (wkN m) = x.cells
  | 0, x => by rw [show wkN 0 = id from rfl, List.map_id]
  | m + 1, x => by
    rw [St.cells_eq]
    simp only [List.map_cons, List.map_nil, wkN, List.map_map]
    have h1 : (fun row => List.map (wkN m) row) ∘ Ex.cells = Ex.cells := funext fun y => Ex.wk m y
    have h2 : (fun row => List.map (wkN m) row) ∘ St.cells = St.cells := funext fun y => St.wk m y
    rw [h1, h2]
theorem wk_sts (l : List St) (m : Nat) : wkN m (.lst (l.map St.cells)) = .lst (l.map St.cells) := by
  cases m with
  | zero => rfl
  | succ m =>
    simp only [wkN, List.map_map]
    have : (fun row => List.map (wkN m) row) ∘ St.cells = St.cells := funext fun y => St.wk m y
    rw [this]
theorem RdW.exs {S : Nat → Prop} {n : Nat} {H : Hp} (l : List Ex) : RdW S (n + 1) H (.lst (l.map Ex.cells)) (.lst (l.map Ex.cells)) := .flat ⟨exs_pure l, trivial⟩ (wk_exs l)
theorem RdW.sts {S : Nat → Prop} {n : Nat} {H : Hp} (l : List St) : RdW S (n + 1) H (.lst (l.map St.cells)) (.lst (l.map St.cells)) := .flat ⟨sts_pure l, trivial⟩ (wk_sts l)
theorem CellsW.ex {S : Nat → Prop} {n : Nat} {H : Hp} (x : Ex) : CellsW S (n + 1) H x.cells x.cells := by
  rw [Ex.cells_eq]
  exact .cons (.int _ _) (.cons (.int _ _) (.cons (.str _) (.cons (.int _ _) (.cons (.exs _) .nil))))
theorem CellsW.st {S : Nat → Prop} {n : Nat} {H : Hp} (x : St) : CellsW S (n + 1) H x.cells x.cells := by
  rw [St.cells_eq]
  exact .cons (.int _ _) (.cons (.str _) (.cons (.str _) (.cons (.int _ _) (.cons (.int _ _) (.cons (.int _ _) (.cons (.str _) (.cons (.int _ _) (.cons (.exs _) (.cons (.int _ _) (.cons (.int _ _) (.cons (.str _) (.cons (.int _ _) (.cons (.exs _) (.cons (.exs _) (.cons (.sts _) (.cons (.sts _) .nil))))))))))))))))
theorem CellsW.fu {S : Nat → Prop} {n : Nat} {H : Hp} (x : Fu) : CellsW S (n + 1) H x.cells x.cells :=
  .cons (.str _) (.cons (.lstS _) (.cons (.lstS _) (.cons (.sts _) (.cons (.int _ _) (.cons (.int _ _) (.cons (.str _) (.cons (.int _ _) (.cons (.exs _) .nil))))))))
theorem CellsW.ar {S : Nat → Prop} {n : Nat} {H : Hp} (x : Ar) : CellsW S (n + 1) H x.cells x.cells := .cons (.str _) (.cons (.int _ _) .nil)
theorem RowsW.ars {S : Nat → Prop} {n : Nat} {H : Hp} : ∀ l : List Ar, RowsW S (n + 1) H 2 (l.map Ar.cells) (l.map Ar.cells)
  | [] => trivial
  | a :: l => ⟨⟨rfl, CellsW.ar a⟩, RowsW.ars l⟩
theorem ars_one : ∀ l : List Ar, (l.map Ar.cells).flatten.all AV.one = true
  | [] => rfl
  | a :: l => by rw [List.map_cons, List.flatten_cons, List.all_append, a.one, ars_one l]; rfl
theorem wk_strs (l : List (List UInt8)) (m : Nat) : wkN m (lstS l) = lstS l := by
  cases m with
  | zero => rfl
  | succ m =>
    show AV.lst ((l.map fun s => [AV.str s]).map fun row => row.map (wkN m)) = _
    rw [List.map_map]
    congr 1
    exact List.map_congr_left fun s _ => by cases m <;> rfl
theorem wk_int (m : Nat) (k : IntKind) (n : Int) : wkN m (.int k n) = .int k n := by cases m <;> rfl
theorem wk_str (m : Nat) (s : List UInt8) : wkN m (.str s) = .str s := by cases m <;> rfl
theorem Fu.wk (m : Nat) (x : Fu) : x.cells.map (wkN m) = x.cells := by
  rw [Fu.cells_eq]
  simp only [List.map_cons, List.map_nil, wk_str, wk_int, wk_strs, wk_sts, wk_exs]
theorem Ar.wk (m : Nat) (x : Ar) : x.cells.map (wkN m) = x.cells := by
  rw [Ar.cells_eq]
  simp only [List.map_cons, List.map_nil, wk_str, wk_int]
theorem wk_rows {α : Type} {f : α → List AV} (h : ∀ m x, (f x).map (wkN m) = f x) (l : List α) (m : Nat) : wkN m (.lst (l.map f)) = .lst (l.map f) := by
  cases m with
  | zero => rfl
  | succ m =>
    simp only [wkN, List.map_map]
    have : (fun row => List.map (wkN m) row) ∘ f = f := funext fun y => h m y
    rw [this]
theorem Pr.wk (m : Nat) (x : Pr) : x.cells.map (wkN m) = x.cells := by
  rw [Pr.cells_eq]
  simp only [List.map_cons, List.map_nil, wk_rows Ar.wk, wk_rows Fu.wk]
theorem wk_agg {cs : List AV} (h : ∀ m, cs.map (wkN m) = cs) (m : Nat) : wkN m (.agg cs) = .agg cs := by
  cases m with
  | zero => rfl
  | succ m => show AV.agg (cs.map (wkN m)) = _; rw [h]
theorem wk_ints (l : List Int) (m : Nat) : wkN m (.lst (l.map fun n => [AV.int .i64 n])) = .lst (l.map fun n => [AV.int .i64 n]) := wk_rows (f := fun n : Int => [AV.int .i64 n]) (fun m x => by simp only [List.map_cons, List.map_nil, wk_int]) l m
theorem RdW.agg {S : Nat → Prop} {n : Nat} {H : Hp} {cs ws : List AV} (h : CellsW S n H cs ws) : RdW S (n + 1) H (.agg cs) (.agg ws) := by
  obtain ⟨us, h1, h2⟩ := h
  refine ⟨.agg us, ⟨us, h1, rfl⟩, fun m hm => ?_⟩
  obtain ⟨m, rfl⟩ : ∃ k, m = k + 1 := ⟨m - 1, by omega⟩
  show AV.agg (us.map (wkN m)) = _
  rw [h2 m (by omega)]
theorem RdW.intsM {S : Nat → Prop} {n : Nat} {H : Hp} {q imm : Nat} {tip : Bool} (l : List Int) (hS : S q) (hq : q < H.next) (hg : H.get q = some (.cells (l.map fun n => .int .i64 n) imm tip)) (hi : imm ≤ l.length) : RdW S (n + 2) H (.sl q 0 l.length 1) (.lst (l.map fun n => [.int .i64 n])) := by
  have hf : (l.map fun n => [AV.int .i64 n]).flatten = l.map fun n => AV.int .i64 n := by
    clear hg hi
    induction l with
    | nil => rfl
    | cons a l ih => rw [List.map_cons, List.flatten_cons, ih]; rfl
  have hr : ∀ l : List Int, RowsW S (n + 1) H 1 (l.map fun n => [AV.int .i64 n]) (l.map fun n => [AV.int .i64 n]) := fun l => by
    induction l with
    | nil => trivial
    | cons a l ih => exact ⟨⟨rfl, .cons (.int _ _) .nil⟩, ih⟩
  have := RdW.rows (n := n + 1) (a := l.map fun n => [AV.int .i64 n]) (imm := imm) (tip := tip) hS hq (by rw [hf]; exact hg) (by rw [hf, List.length_map]; exact hi) (hr l)
  rw [List.length_map] at this
  exact this
/-- A known call, its arguments in memory. -/
theorem enM_wp {P : Program} {pls : List (Nat × Nat × Plan)} {l : List En} {α : Type} {ok : α → Prop} {enc : α → List AV} {out : α → AV} (inj : ∀ x y, enc x = enc y → x = y) {g : FuncId} {x : α} (hl : ∀ ar, lookN l g ar = spP ok enc out (ar.map (wkN 60))) (hi : iceN l g = true) (hx : ok x)
    {S : Nat → Prop} {n : Nat} {H : Hp} {args : List AV} (hn : n ≤ 60) (hc : CellsW S n H args (enc x)) (hno : ∀ y, ok y → enc y ≠ args.map (wkN 60)) : WpCall P (cfgN pls l) g args H fun v H' => v = out x ∧ Icy S H H' := by
  obtain ⟨us, h1, h2⟩ := hc
  obtain ⟨H', h4, h5⟩ := Ic.iceL (h1.mono fun a b k => Ic.up (m := 100) k (by omega))
  refine WpCall.iced (r := out x) ?_ hi rfl h4 ?_ ⟨rfl, h5⟩
  · show lookN l g args = none
    rw [hl]
    exact spP_none hno
  · show lookN l g us = _
    rw [hl, h2 60 hn]
    exact spP_enc inj hx
/-- .. its arguments values. -/
theorem enV_wp {P : Program} {pls : List (Nat × Nat × Plan)} {l : List En} {α : Type} {ok : α → Prop} {enc : α → List AV} {out : α → AV} (inj : ∀ x y, enc x = enc y → x = y) {g : FuncId} {x : α} (hl : ∀ ar, lookN l g ar = spP ok enc out (ar.map (wkN 60))) (hw : (enc x).map (wkN 60) = enc x) (hx : ok x) {H : Hp} : WpCall P (cfgN pls l) g (enc x) H fun v H' => v = out x ∧ H' = H :=
  WpCall.kn (by show lookN l g (enc x) = _; rw [hl, hw]; exact spP_enc inj hx)
end Go.Proofs.Ytjkmbpieknaekaa
namespace Go.Proofs.Ytjkmbpieknaekaa
set_option maxRecDepth 20000
set_option linter.unusedSimpArgs false
set_option linter.unusedVariables false
set_option linter.unusedSectionVars false
set_option linter.defProp false
open Go Go.Ab
/-- The calls of f that a list names. -/
def enK (f : FuncId) (l : List (FuncId × List AV × AV)) : En := ⟨f, false, fun args => lookK l f args⟩
theorem enK_ok {ρ : Nat → Int} (f : FuncId) {l : List (FuncId × List AV × AV)} (h : KOk Try.prog ρ l) : EnOk Try.prog ρ (enK f l) := fun args r hr => lookK_ok h f args r hr
/-- The examples of chapter 6. -/
def enEx6 : En := enK 23 knEx.list
theorem enEx6_ok (ρ : Nat → Int) : EnOk Try.prog ρ enEx6 := enK_ok _ (knEx.ok ρ)
theorem maxLen_lt {n : Nat} (h : n ≤ maxLen) : n < 2 ^ 63 := Nat.lt_of_le_of_lt h (by decide)
theorem wk_sl' (n q o m z : Nat) : wkN n (.sl q o m z) = .sl q o m z := by cases n <;> rfl
noncomputable def enRunW : En := enW enRun
theorem enRunW_ok (ρ : Nat → Int) : EnOk Try.prog ρ enRunW := enW_ok (enRun_ok ρ)
noncomputable def lev6 (l : List En) : List En := enProg :: enArgs :: enFuel :: enRunW :: enSame :: enEx6 :: l
theorem lev6_ok (ρ : Nat → Int) {l : List En} (h : EnsOk Try.prog ρ l) : EnsOk Try.prog ρ (lev6 l) := ⟨enProg_ok ρ, enArgs_ok ρ, enFuel_ok ρ, enRunW_ok ρ, enSame_ok ρ, enEx6_ok ρ, h⟩
section
variable {l6 : List En}
theorem kProg (l : List Int) (hl : l.length < 2 ^ 63) (H : Hp) : WpCall Try.prog (cfgN pls (lev6 l6)) 12 [intRows l] H fun v H' => v = .agg (genP l).cells ∧ H' = H :=
  WpCall.en (x := l) (enc := fun l => [intRows l]) (out := fun l => .agg (genP l).cells) (fun x y h => intRows_inj (by simpa using h)) rfl hl
theorem kArgs (a b w : Int) (H : Hp) : WpCall Try.prog (cfgN pls (lev6 l6)) 19 [.int .i64 a, .int .i64 b, .int .i64 w] H fun v H' => v = .lst [[.int .i64 (wordG a w)], [.int .i64 (wordG b w)]] ∧ H' = H :=
  WpCall.en (x := (⟨a, b, w⟩ : WordA)) (enc := waE) (out := fun x => intRows (argsW x)) waE_inj rfl trivial
theorem kFuel (n : Int) (H : Hp) : WpCall Try.prog (cfgN pls (lev6 l6)) 20 [.int .i64 n] H fun v H' => v = .int .i64 (pickG n 12) ∧ H' = H :=
  WpCall.en (x := n) (enc := fun n : Int => [.int .i64 n]) (out := fun n => .int .i64 (pickG n 12)) (fun x y h => by simpa using h) rfl trivial
theorem runE_wk (x : RunA) : (runE x).map (wkN 60) = runE x := by
  simp only [runE, intRows, List.map_cons, List.map_nil, wk_agg (fun m => Pr.wk m x.p), wk_str, wk_int, wk_ints]
theorem kRun (p : Pr) (nm : Nm) (al : List Int) (fuel : Int) (hx : RunA.ok ⟨p, nm, al, fuel⟩) (H : Hp) : WpCall Try.prog (cfgN pls (lev6 l6)) 21 [.agg p.cells, .str nm, intRows al, .int .i64 fuel] H fun v H' => v = ocV (runG ⟨p, nm, al, fuel⟩) ∧ H' = H :=
  enV_wp (x := (⟨p, nm, al, fuel⟩ : RunA)) (enc := runE) (out := fun x => ocV (runG x)) runE_inj (fun _ => rfl) (runE_wk _) hx
theorem ocE_inj (x y : Oc) (h : [ocV x, ocV x] = [ocV y, ocV y]) : x = y := by
  obtain ⟨a, b, c, d⟩ := x
  obtain ⟨a', b', c', d'⟩ := y
  simp only [ocV, List.cons.injEq, AV.agg.injEq, AV.int.injEq, and_true, true_and] at h
  obtain ⟨⟨rfl, rfl, h3, rfl⟩, _⟩ := h
  rw [intRows_inj h3]
theorem kSame (o : Oc) (ho : o.out.length < 2 ^ 60) (H : Hp) : WpCall Try.prog (cfgN pls (lev6 l6)) 22 [ocV o, ocV o] H fun v H' => v = .bool true ∧ H' = H :=
  WpCall.en (x := o) (enc := fun o => [ocV o, ocV o]) (out := fun _ => .bool true) ocE_inj rfl ho
theorem kEx6 (H : Hp) : WpCall Try.prog (cfgN pls (lev6 l6)) 23 [] H fun v H' => v = .bool true ∧ H' = H := WpCall.kn rfl
end
theorem ag2 (a b : AV) : aggA 2 [a, b] = some (.agg [a, b]) := rfl
theorem ag4 (a b c d : AV) : aggA 4 [a, b, c, d] = some (.agg [a, b, c, d]) := rfl
theorem cells_int : Try.prog.cellsOf 3 = 1 := by kernel_rfl
set_option maxRecDepth 100000 in
/-- A slice of numbers, an argument of a law. -/
theorem seeds_arg {H : Type} {enc : TypeId × Value → H} {W : World} {v0 : Value} {r : Reach} {b0 : Nat} (k0 : Value.okWide Try.prog W r b0 26 v0) {d : DataW H} {ps : List MemPlace} {sp : Nat → Bool} {held : Bool} (h0 : DataW.Trod enc Try.prog W 0 sp held 26 v0 d ps) : ∃ l : List Int, VR ⟨fun _ => none, memF W, fun _ => 0⟩ (intRows l) v0 ∧ l.length < 2 ^ 63 := by
  obtain ⟨l, hv, hl⟩ := arg_ints Try.underlying26 Try.underlying3 cells_int k0 h0 (fun _ => none) (fun _ => 0)
  exact ⟨l, hv, maxLen_lt hl⟩
theorem slA1 (x y : Int) : sliceA Try.prog 52 (.lst [[.int .i64 x], [.int .i64 y]]) none (some (.int .i64 1)) = some (.lst [[.int .i64 x]]) := by kernel_rfl
end Go.Proofs.Ytjkmbpieknaekaa
