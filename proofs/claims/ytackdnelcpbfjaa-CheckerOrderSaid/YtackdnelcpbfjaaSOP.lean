/- Parts: MuQf, MuQ, SemT, SemV, SemW, OrdZ, GSw, OrdM, AbArg, Seeds. -/
import Derived.Deep.Slices
import Derived.Test.YtackdnelcpbfjaaSOO
import Derived.WideKeyArgs
import Derived.WideShapes
set_option linter.unusedSimpArgs false
set_option linter.unusedVariables false
set_option linter.unusedSectionVars false
set_option linter.defProp false
namespace Go.Proofs.Ytackdnelcpbfjaa
set_option maxRecDepth 20000
set_option linter.unusedSimpArgs false
set_option linter.unusedVariables false
set_option linter.unusedSectionVars false
set_option linter.defProp false
set_option maxRecDepth 20000
open Go Go.Ab
namespace tyMuQf
def tyF := And.intro @tq2 (And.intro @tq3 (And.intro @tq5 (And.intro @tq9 (And.intro @tq22 (And.intro @tq23 (And.intro @tq25 (And.intro @tq35 (And.intro @tq36 (And.intro @tq37 (And.intro @tq39 (And.intro @tq41 (And.intro @tq44 (And.intro @tq46 (And.intro @tq84 (And.intro @cv3_5 (And.intro @bsU1M (And.intro @bEn (@aggE5))))))))))))))))))
end tyMuQf
open tyMuQf
theorem bAr2 (s : List UInt8) (n : Int) : buildA Try.prog 44 [(0, .str s), (1, .int .i64 n)] = some (.agg [.str s, .int .i64 n]) := bldAr s n
theorem bsA1 (H : Hp) (s : List UInt8) (n : Int) : buildSliceA Try.prog H 22 1 [(0, .agg [.str s, .int .i64 n])] = some (.sl H.next 0 1 2, H.alloc (.cells [.str s, .int .i64 n] 0 true)) := by kernel_rfl
theorem bF1 (s : List UInt8) : buildA Try.prog 41 [(0, .str s)] = some (.agg [.str s, .nilS, .nilS, .nilS, .int .i64 0, .int .i64 0, .str [], .int .i64 0, .nilS]) := by kernel_rfl
theorem bF2 (s : List UInt8) (a b c d e : AV) : buildA Try.prog 41 [(0, .str s), (4, .agg [a, b, c, d, e])] = some (.agg [.str s, .nilS, .nilS, .nilS, a, b, c, d, e]) := by kernel_rfl
theorem bsFx (H : Hp) (a0 a1 a2 a3 a4 a5 a6 a7 a8 : AV) : buildSliceA Try.prog H 23 1 [(0, .agg [a0, a1, a2, a3, a4, a5, a6, a7, a8])] = some (.sl H.next 0 1 9, H.alloc (.cells [a0, a1, a2, a3, a4, a5, a6, a7, a8] 0 true)) := by kernel_rfl
theorem bs2s (H : Hp) (a b : List UInt8) : buildSliceA Try.prog H 35 2 [(0, .str a), (1, .str b)] = some (.sl H.next 0 2 1, H.alloc (.cells ([a, b].map .str) 0 true)) := by kernel_rfl
theorem fu_w {S : Nat → Prop} {n : Nat} {H : Hp} (s : List UInt8) (k x o : Int) (nm : List UInt8) : CellsW S (n + 1) H [.str s, .nilS, .nilS, .nilS, .int .i64 k, .int .i64 x, .str nm, .int .i64 o, .nilS] (Fu.mk s [] [] [] (.mk k x nm o [])).cells :=
  fu_node (p := .nilS) (l := .nilS) (b := .nilS) (v := [.int .i64 k, .int .i64 x, .str nm, .int .i64 o, .nilS]) s rfl .nilS .nilS .nilS (ex_leaf k x o nm)
/-- A function is appended to the program's functions. -/
theorem fns_push {lo P r n N : Nat} {H Hb : Hp} {vb : AV} {fs : List Fu} (h : RowOwn (fun q => lo ≤ q ∧ q ≠ r ∧ q ≠ P) n H 9 vb (fs.map Fu.cells)) (hlo : lo ≤ H.next) (hPl : P < H.next) (hrl : r < H.next) (hn : H.next ≤ Hb.next) (hk : ∀ q, q < H.next → Hb.get q = H.get q) {t : Nat} {row : List AV} {w : Fu} (hg : Hb.get t = some (.cells row 0 true)) (hrow : row.length = 9) (hone : row.all AV.one = true) (hw : ∀ H', CellsW (fun q => H.next ≤ q ∧ q < Hb.next) n H' row w.cells) (hN : fs.length = N) (hl : N < 2 ^ 30) :
    ∃ H', appendA Try.prog false Hb 23 23 vb (.sl t 0 1 9) = some (.sl Hb.next 0 (N + 1) 9, H') ∧ H'.next = Hb.next + 1 ∧ (∀ q, q < H.next → (q < lo ∨ q = r ∨ q = P) → H'.get q = H.get q) ∧
      ∀ H'' : Hp, H''.next = H'.next → (∀ q, q ≠ P → H''.get q = H'.get q) → RowOwn (fun q => lo ≤ q ∧ q ≠ r ∧ q ≠ P) n H'' 9 (.sl Hb.next 0 (N + 1) 9) ((fs ++ [w]).map Fu.cells) := by
  classical
  have h' : RowOwn (fun q => (if lo ≤ q ∧ q ≠ r ∧ q ≠ P then 1 else 0) = 1) n H 9 vb (fs.map Fu.cells) := h.keep (fun q _ hq => if_pos hq) (Nat.le_refl _) fun _ _ _ => rfl
  have hz : ∃ zz, zeroA Try.prog 41 = some zz ∧ zz.length = 9 := ⟨_, zr41, rfl⟩
  obtain ⟨zz, hz, hzz⟩ := hz
  obtain ⟨H', flat, imm', a1, b1, b2, b3, a2, a3, a4⟩ := RowOwn.pushX (P := Try.prog) (t := 23) Try.underlying23 sz41 bt41 hz hzz (by kernel_rfl) h' hn (fun q h4 _ => hk q h4) hg hrow hone (by rw [List.length_map, hN, show maxRoom = 70368744177664 from rfl]; omega) (by rw [List.length_map, hN, show maxRoom = 70368744177664 from rfl]; omega)
  rw [List.length_map, hN] at a1 a4 b1 b2
  refine ⟨H', a1, a2, fun q h1 h2 => ?_, fun H'' h4 h5 => ?_⟩
  · rw [a3 q (by omega) (.inr (by rw [if_neg (by omega)]; decide)), hk q h1]
  · have := a4 H'' P row w.cells (by omega) (fun q h6 _ => h5 q h6) (by rw [if_neg (fun h => h.2.2 rfl)]; decide) hPl (by rw [h5 _ (by omega)]; exact b3) hrow (hw Hb)
    rw [List.map_append, List.map_cons, List.map_nil]
    refine this.keep (fun q _ hq => ?_) (Nat.le_refl _) fun _ _ _ => rfl
    by_cases hc : H.next ≤ q
    · exact ⟨by omega, by omega, by omega⟩
    · rw [if_neg hc] at hq
      by_cases hd : lo ≤ q ∧ q ≠ r ∧ q ≠ P
      · exact hd
      · rw [if_neg hd] at hq; cases hq
theorem fnsSz_app : ∀ a b : List Fu, fnsSz (a ++ b) = fnsSz a + fnsSz b
  | [], b => by rw [List.nil_append, fnsSz]; omega
  | x :: a, b => by rw [List.cons_append, fnsSz, fnsSz, fnsSz_app a b]; omega
theorem arrsSz_app : ∀ a b : List Ar, arrsSz (a ++ b) = arrsSz a + arrsSz b
  | [], b => by rw [List.nil_append, arrsSz]; omega
  | x :: a, b => by rw [List.cons_append, arrsSz, arrsSz, arrsSz_app a b]; omega
theorem ordP_good {i : Nat} {x y : Int} {f g : Fu} (h1 : f.sz < 2 ^ 24) (h2 : g.sz < 2 ^ 24) (h3 : f.name ≠ zzN) (h4 : g.name ≠ zzN) : (ordP i x y f g).sz < 2 ^ 26 ∧ (∀ f' ∈ (ordP i x y f g).funcs, f'.name ≠ zzN) ∧ ∀ a ∈ (ordP i x y f g).arrays, a.name ≠ zzN := by
  refine ⟨?_, ?_, ?_⟩
  · cases i <;> simp only [ordP, pr2, arG2, Pr.sz, arrsSz, fnsSz, List.length_cons, List.length_nil] <;> omega
  · intro f' hf'
    cases i <;> simp only [ordP, pr2, List.mem_cons, List.not_mem_nil, or_false] at hf' <;> rcases hf' with rfl | rfl <;> assumption
  · intro a ha
    cases i <;> simp only [ordP, pr2, arG2, List.mem_cons, List.not_mem_nil, or_false] at ha <;> rcases ha with rfl | rfl <;> (intro e; cases e)
theorem good_addF {p : Pr} {l : List Fu} (h : p.sz < 2 ^ 26 ∧ (∀ f' ∈ p.funcs, f'.name ≠ zzN) ∧ ∀ a ∈ p.arrays, a.name ≠ zzN) (h1 : fnsSz l < 2 ^ 20) (h2 : ∀ f' ∈ l, f'.name ≠ zzN) : MutG ⟨p.arrays, p.funcs ++ l⟩ := by
  refine ⟨?_, fun f hf => ?_, h.2.2⟩
  · have h3 := h.1
    simp only [Pr.sz, fnsSz_app] at h3 ⊢; omega
  · rcases List.mem_append.1 hf with hf | hf
    · exact h.2.1 f hf
    · exact h2 f hf
theorem good_addA {p : Pr} {a : Ar} (h : p.sz < 2 ^ 26 ∧ (∀ f' ∈ p.funcs, f'.name ≠ zzN) ∧ ∀ a ∈ p.arrays, a.name ≠ zzN) (h1 : a.name.length ≤ 17) (h2 : a.name ≠ zzN) : MutG ⟨p.arrays ++ [a], p.funcs⟩ := by
  refine ⟨?_, h.2.1, fun f hf => ?_⟩
  · have h3 := h.1
    simp only [Pr.sz, arrsSz_app, arrsSz] at h3 ⊢; omega
  · rcases List.mem_append.1 hf with hf | hf
    · exact h.2.2 f hf
    · simp at hf; subst hf; exact h2
def vFs (j : Nat) : List Fu := (List.range j).map fun j => ⟨[104, UInt8.ofNat (97 + j)], [], [], [], .mk 1 0 [] 0 []⟩
theorem vFs_succ (j : Nat) : vFs (j + 1) = vFs j ++ [⟨[104, UInt8.ofNat (97 + j)], [], [], [], .mk 1 0 [] 0 []⟩] := by simp [vFs, List.range_succ]
theorem vFs_len (j : Nat) : (vFs j).length = j := by simp [vFs]
theorem vFs_sz : ∀ j, fnsSz (vFs j) ≤ 30 * j
  | 0 => by simp [vFs, fnsSz]
  | j + 1 => by
    have := vFs_sz j
    rw [vFs_succ, fnsSz_app]
    simp only [fnsSz, Fu.sz, strsSz, stmtsSz, Ex.sz, exprsSz, List.length_cons, List.length_nil]
    omega
theorem vFs_nm (j : Nat) : ∀ f ∈ vFs j, f.name ≠ zzN := by
  intro f hf
  simp only [vFs, List.mem_map, List.mem_range] at hf
  obtain ⟨k, _, rfl⟩ := hf
  intro e
  simp [zzN] at e
theorem ordP_len {i : Nat} {x y : Int} {f g : Fu} : (ordP i x y f g).funcs.length = 2 := by cases i <;> rfl
theorem ordP_lenA {i : Nat} {x y : Int} {f g : Fu} : (ordP i x y f g).arrays.length = 2 := by cases i <;> rfl
set_option maxRecDepth 100000 in
set_option maxHeartbeats 32000000 in
theorem mp6 {lG : List En} (hG : MutL lG) {i : Nat} {a h k : Int} {lo m P : Nat} {Hs H : Hp} {ra rf : Nat} {x y : Int} {f g : Fu} {pf lf bf : AV} {vf : List AV} {pg lg bg : AV} {vg : List AV} {E : Env} (hat : AtM i a h k lo m P Hs H ra rf x y f g pf lf bf vf pg lg bg vg E) (hh : h = 6) : Wp Try.prog (cfgN pls lG) 12 285 mpBody E H (TailM lo m P Hs) := by
  obtain ⟨⟨pt, b, b', hX, hPt⟩, hi, hm, loP, ltP, gp, old, fs, gs, fn, gn, hpi, k2, k6, k7, k8, k9, k27⟩ := hat
  have hkeep : (cfgN pls lG).keep 12 = false := rfl
  subst hh
  obtain ⟨v0, v1, v2, v3, v4, rfl⟩ := len5 hX.F.len
  obtain ⟨w0, w1, w2, w3, w4, rfl⟩ := len5 hX.G.len
  obtain ⟨z0, z1, z2, z3, z4⟩ := all5 hX.F.one
  have ltA := hX.ltA
  have ltF := hX.ltF
  have hlo := hX.hlo
  have hbb := hX.hb
  have lrf := hX.lrf
  have lra := hX.lra
  have rfP : rf ≠ P := fun e => by rw [e] at lrf; omega
  have raP : ra ≠ P := fun e => by rw [e] at lra; omega
  have hrr := hX.ne
  have lof := hX.lo_of (q := rf) (by omega)
  have loa := hX.lo_of (q := ra) (by omega)
  have e1 : (rf == H.next) = false := ne_beq (by omega)
  have e2 : (rf == H.next + 1) = false := ne_beq (by omega)
  have e3 : (rf == H.next + 2) = false := ne_beq (by omega)
  have e4 : (H.next == rf) = false := ne_beq (by omega)
  have e5 : (rf == P) = false := ne_beq rfP
  have e6 : (P == rf) = false := ne_beq (Ne.symm rfP)
  have e7 : (P == H.next) = false := ne_beq (by omega)
  have e8 : (P == H.next + 1) = false := ne_beq (by omega)
  have e9 : (ra == H.next) = false := ne_beq (by omega)
  have e10 : (ra == H.next + 1) = false := ne_beq (by omega)
  have hr := pickG_range (n := k) (m := 5) (by omega) (by omega)
  have hr0 := hr.1
  have hnm := nm_at nmsF6 (n := pickG k 5) (by show _ < 5; omega)
  have hix := fun r => ixSt r 5 hr.1 (by omega)
  have hbs := fun H => bs5s H [97] [99] [120] [102] [111, 117, 116]
  change ∀ H, buildSliceA _ H _ _ _ = some (_, H.alloc (.cells (nmsF6.map .str) 0 true)) at hbs
  have hgood := ordP_good (i := i) (x := x) (y := y) fs gs fn gn
  have hA := (hX.arsP.keep (S' := fun q => lo ≤ q ∧ q = ra) (fun q _ hq => ⟨by omega, hq⟩) (Nat.le_refl _) fun _ _ _ => rfl).up (show 14 + 1 ≤ 50 by omega)
  have hFn := (hX.fnsP.keep (S' := fun q => lo ≤ q ∧ q ≠ ra ∧ q ≠ P) (fun q _ hq => ⟨hX.lo_of hq.1, hq.2, fun e => hq.1 (by rw [e]; exact hPt)⟩) (Nat.le_refl _) fun _ _ _ => rfl).up (show 14 + 1 ≤ 50 by omega)
  have hnl := nmx_len (l := nmsF6) (by decide) (pickG k 5).toNat
  have hnz := nmx_ne (l := nmsF6) (by decide) (pickG k 5).toNat
  generalize hs : nmsF6.getD (pickG k 5).toNat [] = s at *
  classical
  have h' : RowOwn (fun q => (if q = ra then 1 else 0) = 1) 15 H 2 (.sl ra 0 2 2) ((ordP i x y f g).arrays.map Ar.cells) := hX.arsP.keep (fun q _ hq => if_pos hq) (Nat.le_refl _) fun _ _ _ => rfl
  obtain ⟨zz, hz, hzz⟩ : ∃ zz, zeroA Try.prog 44 = some zz ∧ zz.length = 2 := ⟨_, zr44, rfl⟩
  obtain ⟨H', flat, imm', a1, b1, b2, b3, a2, a3, a4⟩ := RowOwn.pushX (P := Try.prog) (t := 22) Try.underlying22 sz44 bt44 hz hzz (by kernel_rfl) h' (Hb := (H.alloc (.cells (nmsF6.map .str) 0 true)).alloc (.cells [.str s, .int .i64 3] 0 true)) (by simp only [Hp.next_alloc]; omega) (fun q h1 _ => by rw [alloc_old (by simp only [Hp.next_alloc]; omega), alloc_old h1]) (r := H.next + 1) (row := [.str s, .int .i64 3]) (by rw [Hp.get_alloc, if_pos (by rfl)]) rfl rfl (by rw [List.length_map, ordP_lenA, show maxRoom = 70368744177664 from rfl]; decide +kernel) (by rw [List.length_map, ordP_lenA, show maxRoom = 70368744177664 from rfl]; decide)
  rw [List.length_map, ordP_lenA] at a1 a4 b1 b2
  simp only [Hp.next_alloc, Nat.add_assoc, Nat.reduceAdd] at a1 a2 a3 a4 b3
  have fr : ∀ q, q < H.next → q ≠ ra → H'.get q = H.get q := fun q h1 h2 => by
    rw [a3 q (by omega) (.inr (by rw [if_neg h2]; decide)), alloc_old (by simp only [Hp.next_alloc]; omega), alloc_old h1]
  have gr := (fr P ltP (Ne.symm raP)).trans gp
  rcases hi with rfl | rfl
  all_goals
    simp only [Nat.mul_zero, Nat.mul_one] at k8
    first | have gf := hX.gf0 | have gf := hX.gf1
    dsimp only [mpBody, scB, scL, scR, code12]
    have gh0 := @bAr2
    have gh1 := @bsA1
    repeat' (first
       | (apply Rx.nl ?_; clear hK K) | apply Ry.o ?_ | apply Ry.on ?_ | (apply Ry.call ?_; first | refine Rx.k (pick_en hG.pick k 5 (by decide) _) ?_) | (apply Ry.cd (fun hb hbp => ?_) (fun hb hbp => ?_) <;> try (cases hb; done)) | apply Wp.seq ?_ | (apply Wp.ops' fun K hK => ?_) | (apply Rx.dT 19 [(1, 4), (1, 9), (2, 4), (2, 9), (6, 9), (8, 9)] fun K hK => ?_) | (apply Rx.nq ?_; try intro _) | (apply Rx.nt ?_ ?_ <;> clear hK K) | apply WpT.step ?_ | apply WpT.step0 rfl ?_ | apply Wp.block ?_ | apply Rx.sk ?_ | apply Rx.rt ?_ | apply Rx.xt ?_)
    · exact eK
    generalize hH7 : Hp.set H' P _ = H7
    have n7 : H7.next = H'.next := by rw [← hH7]; rfl
    have o7 : ∀ q, q ≠ P → H7.get q = H'.get q := fun q hq => by rw [← hH7, Hp.get_set, if_neg hq]
    have g7 := show H7.get P = some _ by rw [← hH7, Hp.get_set, if_pos rfl]
    have hA7 := a4 H7 P [.str s, .int .i64 3] [.str s, .int .i64 3] (by omega) (fun q h1 _ => o7 q h1) (by rw [if_neg (Ne.symm raP)]; decide) ltP (by rw [o7 _ (by omega)]; exact b3) rfl (.cons (.str _) (.cons (.int _ _) .nil))
    clear hH7
    refine ⟨rfl, eE, eE, _, _, ⟨(ordP _ x y f g).arrays ++ [⟨s, 3⟩], (ordP _ x y f g).funcs⟩, fun q => H.next ≤ q ∨ q = ra, g7, by omega, ⟨by omega, ?_, ?_, good_addA hgood hnl hnz⟩, ?_⟩
    · rw [List.map_append]
      refine (hA7.keep (fun q h1 h2 => ?_) (Nat.le_refl _) fun _ _ _ => rfl).up (by omega)
      by_cases hc : H.next ≤ q
      · exact ⟨by omega, .inl hc⟩
      · rw [if_neg hc] at h2
        by_cases hd : q = ra
        · exact ⟨by omega, .inr hd⟩
        · rw [if_neg hd] at h2; cases h2
    · exact hFn.keep (fun q h1 h2 => ⟨h2.1, fun h => h.elim (fun h => by omega) h2.2.1, h2.2.2⟩) (by omega) fun q h1 h2 => by rw [o7 q h1.2.2, fr q h2 h1.2.1]
    · intro q h1; rw [o7 q (by omega), fr q (by omega) (by omega)]; exact old q h1
set_option maxRecDepth 100000 in
set_option maxHeartbeats 32000000 in
theorem mp17 {lG : List En} (hG : MutL lG) {i : Nat} {a h k : Int} {lo m P : Nat} {Hs H : Hp} {ra rf : Nat} {x y : Int} {f g : Fu} {pf lf bf : AV} {vf : List AV} {pg lg bg : AV} {vg : List AV} {E : Env} (hat : AtM i a h k lo m P Hs H ra rf x y f g pf lf bf vf pg lg bg vg E) (hh : h = 17) : Wp Try.prog (cfgN pls lG) 12 285 mpBody E H (TailM lo m P Hs) := by
  obtain ⟨⟨pt, b, b', hX, hPt⟩, hi, hm, loP, ltP, gp, old, fs, gs, fn, gn, hpi, k2, k6, k7, k8, k9, k27⟩ := hat
  have hkeep : (cfgN pls lG).keep 12 = false := rfl
  subst hh
  obtain ⟨v0, v1, v2, v3, v4, rfl⟩ := len5 hX.F.len
  obtain ⟨w0, w1, w2, w3, w4, rfl⟩ := len5 hX.G.len
  obtain ⟨z0, z1, z2, z3, z4⟩ := all5 hX.F.one
  have ltA := hX.ltA
  have ltF := hX.ltF
  have hlo := hX.hlo
  have hbb := hX.hb
  have lrf := hX.lrf
  have lra := hX.lra
  have rfP : rf ≠ P := fun e => by rw [e] at lrf; omega
  have raP : ra ≠ P := fun e => by rw [e] at lra; omega
  have hrr := hX.ne
  have lof := hX.lo_of (q := rf) (by omega)
  have loa := hX.lo_of (q := ra) (by omega)
  have e1 : (rf == H.next) = false := ne_beq (by omega)
  have e2 : (rf == H.next + 1) = false := ne_beq (by omega)
  have e3 : (rf == H.next + 2) = false := ne_beq (by omega)
  have e4 : (H.next == rf) = false := ne_beq (by omega)
  have e5 : (rf == P) = false := ne_beq rfP
  have e6 : (P == rf) = false := ne_beq (Ne.symm rfP)
  have e7 : (P == H.next) = false := ne_beq (by omega)
  have e8 : (P == H.next + 1) = false := ne_beq (by omega)
  have e9 : (ra == H.next) = false := ne_beq (by omega)
  have e10 : (ra == H.next + 1) = false := ne_beq (by omega)
  have hr := pickG_range (n := k) (m := 2) (by omega) (by omega)
  have hr0 := hr.1
  have hnm := nm_at nmsF17 (n := pickG k 2) (by show _ < 2; omega)
  have hix := fun r => ixSt r 2 hr.1 (by omega)
  have hbs := fun H => bs2s H [102] [104]
  change ∀ H, buildSliceA _ H _ _ _ = some (_, H.alloc (.cells (nmsF17.map .str) 0 true)) at hbs
  have hgood := ordP_good (i := i) (x := x) (y := y) fs gs fn gn
  have hA := (hX.arsP.keep (S' := fun q => lo ≤ q ∧ q = ra) (fun q _ hq => ⟨by omega, hq⟩) (Nat.le_refl _) fun _ _ _ => rfl).up (show 14 + 1 ≤ 50 by omega)
  have hFn := (hX.fnsP.keep (S' := fun q => lo ≤ q ∧ q ≠ ra ∧ q ≠ P) (fun q _ hq => ⟨hX.lo_of hq.1, hq.2, fun e => hq.1 (by rw [e]; exact hPt)⟩) (Nat.le_refl _) fun _ _ _ => rfl).up (show 14 + 1 ≤ 50 by omega)
  have hnl := nmx_len (l := nmsF17) (by decide) (pickG k 2).toNat
  have hnz := nmx_ne (l := nmsF17) (by decide) (pickG k 2).toNat
  generalize hs : nmsF17.getD (pickG k 2).toNat [] = s at *
  obtain ⟨H', a1, a2, a3, a4⟩ := fns_push hFn hlo ltP ltA (Hb := (H.alloc (.cells (nmsF17.map .str) 0 true)).alloc (.cells [.str s, .nilS, .nilS, .nilS, .int .i64 0, .int .i64 0, .str [], .int .i64 0, .nilS] 0 true)) (by simp only [Hp.next_alloc]; omega) (fun q h1 => by rw [alloc_old (by simp only [Hp.next_alloc]; omega), alloc_old h1]) (t := H.next + 1) (row := [.str s, .nilS, .nilS, .nilS, .int .i64 0, .int .i64 0, .str [], .int .i64 0, .nilS]) (w := ⟨s, [], [], [], .mk 0 0 [] 0 []⟩) (by rw [Hp.get_alloc, if_pos (by rfl)]) rfl rfl (fun H' => fu_w (n := 49) s 0 0 0 []) ordP_len (by omega)
  simp only [Hp.next_alloc, Nat.add_assoc, Nat.reduceAdd] at a1 a2 a3 a4
  have gr := (a3 P ltP (.inr (.inr rfl))).trans gp
  rcases hi with rfl | rfl
  all_goals
    simp only [Nat.mul_zero, Nat.mul_one] at k8
    first | have gf := hX.gf0 | have gf := hX.gf1
    dsimp only [mpBody, scB, scL, scR, code12]
    have gh0 := @bF1
    have gh1 := @bsFx
    repeat' (first
       | (apply Rx.nl ?_; clear hK K) | apply Ry.o ?_ | apply Ry.on ?_ | (apply Ry.call ?_; first | refine Rx.k (pick_en hG.pick k 2 (by decide) _) ?_) | (apply Ry.cd (fun hb hbp => ?_) (fun hb hbp => ?_) <;> try (cases hb; done)) | apply Wp.seq ?_ | (apply Wp.ops' fun K hK => ?_) | (apply Rx.dT 52 [(1, 4), (1, 9), (2, 4), (2, 9), (6, 9), (8, 9)] fun K hK => ?_) | (apply Rx.nq ?_; try intro _) | (apply Rx.nt ?_ ?_ <;> clear hK K) | apply WpT.step ?_ | apply WpT.step0 rfl ?_ | apply Wp.block ?_ | apply Rx.sk ?_ | apply Rx.rt ?_ | apply Rx.xt ?_)
    · exact eK
    generalize hH7 : Hp.set H' P _ = H7
    have n7 : H7.next = H'.next := by rw [← hH7]; rfl
    have o7 : ∀ q, q ≠ P → H7.get q = H'.get q := fun q hq => by rw [← hH7, Hp.get_set, if_neg hq]
    have g7 := show H7.get P = some _ by rw [← hH7, Hp.get_set, if_pos rfl]
    have hF7 := a4 H7 n7 o7
    clear hH7
    refine ⟨rfl, eE, eE, _, _, ⟨(ordP _ x y f g).arrays, (ordP _ x y f g).funcs ++ [⟨s, [], [], [], .mk 0 0 [] 0 []⟩]⟩, fun q => q = ra, g7, by omega, ⟨Ne.symm raP, ?_, hF7, good_addF hgood (by simp only [fnsSz, Fu.sz, strsSz, stmtsSz, Ex.sz, exprsSz, List.length_nil]; omega) (by intro f' hf'; simp at hf'; subst hf'; exact hnz)⟩, ?_⟩
    · exact hA.keep (fun _ _ h => h) (by omega) fun q h1 h2 => by rw [o7 q (by omega), a3 q h2 (.inr (.inl h1.2))]
    · intro q h1; rw [o7 q (by omega), a3 q (by omega) (.inl h1)]; exact old q h1
set_option maxRecDepth 100000 in
set_option maxHeartbeats 32000000 in
theorem mp18 {lG : List En} (hG : MutL lG) {i : Nat} {a h k : Int} {lo m P : Nat} {Hs H : Hp} {ra rf : Nat} {x y : Int} {f g : Fu} {pf lf bf : AV} {vf : List AV} {pg lg bg : AV} {vg : List AV} {E : Env} (hat : AtM i a h k lo m P Hs H ra rf x y f g pf lf bf vf pg lg bg vg E) (hh : h = 18) : Wp Try.prog (cfgN pls lG) 12 285 mpBody E H (TailM lo m P Hs) := by
  obtain ⟨⟨pt, b, b', hX, hPt⟩, hi, hm, loP, ltP, gp, old, fs, gs, fn, gn, hpi, k2, k6, k7, k8, k9, k27⟩ := hat
  have hkeep : (cfgN pls lG).keep 12 = false := rfl
  subst hh
  obtain ⟨v0, v1, v2, v3, v4, rfl⟩ := len5 hX.F.len
  obtain ⟨w0, w1, w2, w3, w4, rfl⟩ := len5 hX.G.len
  obtain ⟨z0, z1, z2, z3, z4⟩ := all5 hX.F.one
  have ltA := hX.ltA
  have ltF := hX.ltF
  have hlo := hX.hlo
  have hbb := hX.hb
  have lrf := hX.lrf
  have lra := hX.lra
  have rfP : rf ≠ P := fun e => by rw [e] at lrf; omega
  have raP : ra ≠ P := fun e => by rw [e] at lra; omega
  have hrr := hX.ne
  have lof := hX.lo_of (q := rf) (by omega)
  have loa := hX.lo_of (q := ra) (by omega)
  have e1 : (rf == H.next) = false := ne_beq (by omega)
  have e2 : (rf == H.next + 1) = false := ne_beq (by omega)
  have e3 : (rf == H.next + 2) = false := ne_beq (by omega)
  have e4 : (H.next == rf) = false := ne_beq (by omega)
  have e5 : (rf == P) = false := ne_beq rfP
  have e6 : (P == rf) = false := ne_beq (Ne.symm rfP)
  have e7 : (P == H.next) = false := ne_beq (by omega)
  have e8 : (P == H.next + 1) = false := ne_beq (by omega)
  have e9 : (ra == H.next) = false := ne_beq (by omega)
  have e10 : (ra == H.next + 1) = false := ne_beq (by omega)
  have hpr := pickG_range (n := k) (m := 8) (by omega) (by omega)
  obtain ⟨M, hM⟩ : ∃ M : Nat, pickG k 8 = (M : Int) := ⟨(pickG k 8).toNat, by omega⟩
  have hMl : M < 8 := by omega
  have kp := fun H => pick_en hG.pick k 8 (by decide) H
  rw [hM] at kp
  have hgood := ordP_good (i := i) (x := x) (y := y) fs gs fn gn
  have hA := (hX.arsP.keep (S' := fun q => lo ≤ q ∧ q = ra) (fun q _ hq => ⟨by omega, hq⟩) (Nat.le_refl _) fun _ _ _ => rfl).up (show 14 + 1 ≤ 50 by omega)
  have hFn := (hX.fnsP.keep (S' := fun q => lo ≤ q ∧ q ≠ ra ∧ q ≠ P) (fun q _ hq => ⟨hX.lo_of hq.1, hq.2, fun e => hq.1 (by rw [e]; exact hPt)⟩) (Nat.le_refl _) fun _ _ _ => rfl).up (show 14 + 1 ≤ 50 by omega)
  have gp0 := gp
  clear gp
  rcases hi with rfl | rfl
  all_goals
    simp only [Nat.mul_zero, Nat.mul_one] at k8
    first | have gf := hX.gf0 | have gf := hX.gf1
    dsimp only [mpBody, scB, scL, scR, code12]
    have gp := gp0
    repeat' (first
       | (apply Rx.nl ?_; clear hK K) | apply Ry.o ?_ | apply Ry.on ?_ | (apply Ry.cd (fun hb hbp => ?_) (fun hb hbp => ?_) <;> try (cases hb; done)) | apply Wp.seq ?_ | (apply Wp.ops' fun K hK => ?_) | (apply Rx.nq ?_; try intro _) | (apply Rx.nt ?_ ?_ <;> clear hK K) | apply WpT.step ?_ | apply WpT.step0 rfl ?_ | apply Wp.block ?_ | apply Rx.sk ?_ | apply Rx.rt ?_ | apply Rx.xt ?_)
    refine Wp.forI [2, 6, 7, 8, 9] [] 16 M (fun j E H3 => ∃ vb, H3.get P = some (.cells [.sl ra 0 2 2, vb] 0 true) ∧ RowOwn (fun q => lo ≤ q ∧ q ≠ ra ∧ q ≠ P) 50 H3 9 vb (((ordP _ x y f g).funcs ++ vFs j).map Fu.cells) ∧ (∀ q, q < H.next → (q < lo ∨ q = ra) → H3.get q = H.get q)) eE ⟨.sl rf 0 2 9, gp, by rw [show (ordP _ x y f g).funcs ++ vFs 0 = (ordP _ x y f g).funcs from List.append_nil _]; exact hFn, fun _ _ _ => rfl⟩ ?_
    rintro j E H3 hj hcE hrH hnH hsI ⟨vb, gp3, hF3, hf3⟩
    (try simp only [forall_cons, forall_nil, and_true, sB, sO, Nat.reduceBEq, Nat.reduceAdd, Nat.reduceLeDiff, tyF, *] at hcE)
    (try simp only [forall_cons, forall_nil, and_true, sB, sO, Nat.reduceBEq, Nat.reduceAdd, Nat.reduceLeDiff, tyF, *] at hrH)
    (try simp only [Hp.next_alloc, Hp.next_set, H0_next, Nat.zero_add, Nat.reduceAdd] at hnH)
    clear gp
    have hnx : H.next ≤ H3.next := by simpa using hnH
    have f1 : (rf == H3.next) = false := ne_beq (by omega)
    have f2 : (rf == H3.next + 1) = false := ne_beq (by omega)
    have f3 : (rf == H3.next + 2) = false := ne_beq (by omega)
    have f4 : (P == H3.next) = false := ne_beq (by omega)
    have f5 : (P == H3.next + 1) = false := ne_beq (by omega)
    obtain ⟨o1, o2⟩ := hF3.one
    repeat' (first
       | (apply Rx.nl ?_; clear hK K) | apply Ry.o ?_ | apply Ry.on ?_ | (apply Ry.call ?_; first | refine Rx.k (kp _) ?_) | (apply Ry.cd (fun hb hbp => ?_) (fun hb hbp => ?_) <;> try (cases hb; done)) | apply Wp.seq ?_ | (apply Wp.ops' fun K hK => ?_) | (apply Rx.nq ?_; try intro _) | (apply Rx.nt ?_ ?_ <;> clear hK K) | apply WpT.step ?_ | apply WpT.step0 rfl ?_ | apply Wp.block ?_ | apply Rx.sk ?_ | apply Rx.rt ?_ | apply Rx.xt ?_)
    · have hlt : j < M := by omega
      have hw97 : IntKind.wrap .i64 (97 + (j : Int)) = 97 + (j : Int) := i64_id (by omega) (by omega)
      have hcv := fun H => cv3_5 H .i64 (97 + (j : Int))
      generalize hmm : IntKind.wrap .u8 (97 + (j : Int)) = mm at hcv
      have hmc : UInt8.ofNat mm.toNat = UInt8.ofNat (97 + j) := by rw [← hmm]; exact u8_atM (by omega)
      have hg3 : (H3.alloc (.cells [.int .u8 mm] 0 true)).get H3.next = some (.cells [.int .u8 mm] 0 true) := by rw [Hp.get_alloc, if_pos rfl]
      have hcu := cvUM hg3
      rw [hmc] at hcu
      have hcat : ∀ D t, binA Try.prog D .add t (.str [104]) (.str [UInt8.ofNat (97 + j)]) = some (.str [104, UInt8.ofNat (97 + j)]) := fun D t => bin_sadd (by simp [maxRoom])
      obtain ⟨H', a1, a2, a3, a4⟩ := fns_push hF3 (by omega) (by omega) (by omega) (Hb := (H3.alloc (.cells [.int .u8 mm] 0 true)).alloc (.cells [.str [104, UInt8.ofNat (97 + j)], .nilS, .nilS, .nilS, .int .i64 1, .int .i64 0, .str [], .int .i64 0, .nilS] 0 true)) (by simp only [Hp.next_alloc]; omega) (fun q h1 => by rw [alloc_old (by simp only [Hp.next_alloc]; omega), alloc_old h1]) (t := H3.next + 1) (row := [.str [104, UInt8.ofNat (97 + j)], .nilS, .nilS, .nilS, .int .i64 1, .int .i64 0, .str [], .int .i64 0, .nilS]) (w := ⟨[104, UInt8.ofNat (97 + j)], [], [], [], .mk 1 0 [] 0 []⟩) (by rw [Hp.get_alloc, if_pos (by rfl)]) rfl rfl (fun H' => fu_w (n := 49) [104, UInt8.ofNat (97 + j)] 1 0 0 []) (by rw [List.length_append, ordP_len, vFs_len]) (by omega)
      simp only [Hp.next_alloc, Nat.add_assoc, Nat.reduceAdd] at a1 a2 a3 a4
      have gr := (a3 P (by omega) (.inr (.inr rfl))).trans gp3
      have n1 : H3.next ≤ H'.next := by omega
      have gh0 := @bF2
      have gh1 := @bsFx
      repeat' (first
         | (apply Rx.nl ?_; clear hK K) | apply Rx.o ?_ | apply Rx.on ?_ | (apply Rx.cd (fun hb hbp => ?_) (fun hb hbp => ?_) <;> try (cases hb; done)) | apply Wp.seq ?_ | (apply Wp.ops' fun K hK => ?_) | (apply Rx.nq ?_; try intro _) | (apply Rx.nt ?_ ?_ <;> clear hK K) | apply WpT.step ?_ | apply WpT.step0 rfl ?_ | apply Wp.block ?_ | apply Rx.sk ?_ | apply Rx.rt ?_ | apply Rx.xt ?_)
      refine ⟨by omega, eL, eL, eN, (by simp only [sB, Nat.reduceBEq, *]; exact i64_succ (n := M) (by omega) (by omega)), ?_⟩
      refine ⟨_, by rw [Hp.get_set, if_pos rfl], ?_, ?_⟩
      · rw [vFs_succ, ← List.append_assoc]
        exact a4 _ rfl (fun q hq => by rw [Hp.get_set, if_neg hq])
      · intro q h1 h2
        rw [Hp.get_set, if_neg (by omega), a3 q (by omega) (by omega)]; exact hf3 q h1 h2
    · have hje : j = M := by omega
      subst hje
      refine ⟨rfl, eE, eE, _, _, ⟨(ordP _ x y f g).arrays, (ordP _ x y f g).funcs ++ vFs j⟩, fun q => q = ra, gp3, by omega, ⟨Ne.symm raP, ?_, hF3, good_addF hgood (by have := vFs_sz j; omega) (vFs_nm j)⟩, ?_⟩
      · exact hA.keep (fun _ _ h => h) hnx fun q h1 h2 => hf3 q h2 (.inr h1.2)
      · intro q h1; rw [hf3 q (by omega) (.inl h1)]; exact old q h1
end Go.Proofs.Ytackdnelcpbfjaa
namespace Go.Proofs.Ytackdnelcpbfjaa
set_option maxRecDepth 20000
set_option linter.unusedSimpArgs false
set_option linter.unusedVariables false
set_option linter.unusedSectionVars false
set_option linter.defProp false
set_option maxRecDepth 20000
open Go Go.Ab
namespace tyMuQ
def tyF := And.intro @tq2 (And.intro @tq3 (And.intro @tq5 (And.intro @tq9 (And.intro @tq22 (And.intro @tq23 (And.intro @tq25 (And.intro @tq35 (And.intro @tq36 (And.intro @tq37 (And.intro @tq39 (And.intro @tq41 (And.intro @tq44 (And.intro @tq46 (And.intro @tq84 (And.intro @cv3_5 (And.intro @bin_quo (@aggP2)))))))))))))))))
end tyMuQ
open tyMuQ
theorem mp_all {lG : List En} (hG : MutL lG) {i : Nat} {a h k : Int} {lo m P : Nat} {Hs H : Hp} {ra rf : Nat} {x y : Int} {f g : Fu} {pf lf bf : AV} {vf : List AV} {pg lg bg : AV} {vg : List AV} {E : Env} (hat : AtM i a h k lo m P Hs H ra rf x y f g pf lf bf vf pg lg bg vg E) : Wp Try.prog (cfgN pls lG) 12 285 mpBody E H (TailM lo m P Hs) := by
  by_cases c1 : h = 1
  · exact mp1 hG hat c1
  by_cases c2 : h = 2
  · exact mp2 hG hat c2
  by_cases c3 : h = 3
  · exact mp3 hG hat c3
  by_cases c4 : h = 4
  · exact mp4 hG hat c4
  by_cases c5 : h = 5
  · exact mp5 hG hat c5
  by_cases c6 : h = 6
  · exact mp6 hG hat c6
  by_cases c7 : h = 7
  · exact mp7 hG hat c7
  by_cases c8 : h = 8
  · exact mp8 hG hat c8
  by_cases c9 : h = 9
  · exact mp9 hG hat c9
  by_cases c10 : h = 10
  · exact mp10 hG hat c10
  by_cases c11 : h = 11
  · exact mp11 hG hat c11
  by_cases c12 : h = 12
  · exact mpE hG hat ⟨by omega, by omega⟩
  by_cases c13 : h = 13
  · exact mpE hG hat ⟨by omega, by omega⟩
  by_cases c14 : h = 14
  · exact mpE hG hat ⟨by omega, by omega⟩
  by_cases c15 : h = 15
  · exact mpE hG hat ⟨by omega, by omega⟩
  by_cases c16 : h = 16
  · exact mpE hG hat ⟨by omega, by omega⟩
  by_cases c17 : h = 17
  · exact mp17 hG hat c17
  by_cases c18 : h = 18
  · exact mp18 hG hat c18
  refine mpNone hG hat ?_
  simp only [List.forall_mem_cons, List.not_mem_nil, false_implies, implies_true, and_true]
  exact ⟨c1, c2, c3, c4, c5, c6, c7, c8, c9, c10, c11, c12, c13, c14, c15, c16, c17, c18⟩
theorem at_start {i : Nat} {pt : Nat → Nat} {lo b b' m P : Nat} {ra rf : Nat} {x y a : Int} {f g : Fu} {pf lf bf : AV} {vf : List AV} {pg lg bg : AV} {vg : List AV} {Hq : Hp} (h : ProgX i (fun q => if Hq.next ≤ q then 0 else pt q) lo b b' 14 ((Hq.alloc (.cells [.nilS, .nilS] 0 true)).set Hq.next (.cells [.sl ra 0 2 2, .sl rf 0 2 9] 0 true)) ra rf x y f g pf lf bf vf pg lg bg vg) (hi : i = 0 ∨ i = 1) (hP : P = Hq.next) (hlo : lo ≤ Hq.next) (fs : f.sz < 2 ^ 24) (gs : g.sz < 2 ^ 24) (fn : f.name ≠ zzN) (gn : g.name ≠ zzN) (hpi : pickG a 2 = i) (hm : m < lo) {E : Env} {hh k : Int}
    (k2 : E.at 2 = .int .i64 a) (k6 : E.at 6 = .ptr m 0) (k7 : E.at 7 = .ptr P 0) (k8 : E.at 8 = .ptr rf (9 * i)) (k9 : E.at 9 = .int .i64 k) (k27 : E.at 27 = .int .i64 hh) :
    AtM i a hh k lo m P ((Hq.alloc (.cells [.nilS, .nilS] 0 true)).set Hq.next (.cells [.sl ra 0 2 2, .sl rf 0 2 9] 0 true)) ((Hq.alloc (.cells [.nilS, .nilS] 0 true)).set Hq.next (.cells [.sl ra 0 2 2, .sl rf 0 2 9] 0 true)) ra rf x y f g pf lf bf vf pg lg bg vg E :=
  ⟨⟨_, b, b', h, by rw [hP, if_pos (Nat.le_refl _)]⟩, hi, hm, by omega, by rw [hP]; exact Nat.lt_succ_self _, by rw [hP, Hp.get_set, if_pos rfl], fun _ _ => rfl, fs, gs, fn, gn, hpi, k2, k6, k7, k8, k9, k27⟩
theorem ixF2a (r : Nat) : indexAddrA Try.prog 23 (.sl r 0 2 9) (.int .i64 0) = some (.ptr r 0) := by kernel_rfl
theorem ixF2b (r : Nat) : indexAddrA Try.prog 23 (.sl r 0 2 9) (.int .i64 1) = some (.ptr r 9) := by kernel_rfl
set_option maxRecDepth 100000 in
set_option maxHeartbeats 32000000 in
theorem mutProgram_wp {lG : List En} (hG : MutL lG) (hst : StAll lG) (l : List Int) (hl : l.length < 2 ^ 63) (how a : Int) (H : Hp) :
    WpCall Try.prog (cfgN pls lG) 12 [.lst (l.map fun n => [AV.int .i64 n]), .int .i64 how, .int .i64 a] H fun v H' => ∃ va vb p R P, v = .agg [va, vb] ∧ MutR (H.next + 1) P 50 H' va vb p R ∧ H.next ≤ H'.next ∧ ∀ q, q < H.next → H'.get q = H.get q := by
  have hw : Plain (cfgN pls lG) 12 := plainN hG.plm.1 hG.plm.2
  have hkeep : (cfgN pls lG).keep 12 = false := rfl
  have hsz := genP_szS l
  have hq24 : (24 : Int) ≠ 0 := by decide
  have hpr := pickG_range (n := a) (m := 2) (by omega) (by omega)
  have kp2 := pick_en hG.pick a 2 (by decide)
  refine WpCall.slim (M := 285) (rs := [.cell 6 25]) (hw.call _) hw.ice hw.froz Try.func12 rfl rfl code12.2 rfl ?_; dsimp only [code12, envOf, Nat.reduceAdd]
  repeat' (first
     | (apply Rx.nl ?_; clear hK K) | apply Rx.o ?_ | apply Rx.on ?_ | (apply Rx.cd (fun hb hbp => ?_) (fun hb hbp => ?_) <;> try (cases hb; done)) | apply Wp.seq ?_ | (apply Wp.ops' fun K hK => ?_) | (apply Rx.dT 2 [(1, 3), (1, 6)] fun K hK => ?_) | (apply Rx.dT 8 [(4, 7), (4, 11), (5, 7), (5, 11), (9, 11), (10, 11)] fun K hK => ?_) | (apply Rx.dT 10 [(4, 7), (4, 11), (5, 7), (5, 11), (9, 11), (10, 11)] fun K hK => ?_) | (apply Rx.dT 15 [(4, 12), (7, 12), (8, 12), (9, 12), (11, 12)] fun K hK => ?_) | (apply Rx.dT 17 [(1, 3), (1, 5), (1, 9)] fun K hK => ?_) | (apply Rx.dT 19 [(1, 4), (1, 9), (2, 4), (2, 9), (6, 9), (8, 9)] fun K hK => ?_) | (apply Rx.dT 50 [(3, 14), (3, 16), (8, 14), (11, 14)] fun K hK => ?_) | (apply Rx.dT 52 [(1, 4), (1, 9), (2, 4), (2, 9), (6, 9), (8, 9)] fun K hK => ?_) | (apply Rx.nq ?_; try intro _) | (apply Rx.nt ?_ ?_ <;> clear hK K) | apply WpT.step ?_ | apply WpT.step0 rfl ?_ | apply Wp.block ?_ | apply Rx.sk ?_ | apply Rx.rt ?_ | apply Rx.xt ?_)
  refine WpL.call rfl eVk eAk ?_; simp only [List.cons_append, List.nil_append, List.append_nil]
  refine WpCall.mono ?_ (program_wp hG.toGenL hst l hl _)
  rintro _ Hq ⟨ra, rf, x, y, cf, cg, rfl, _, hnx, hold, hra, pt, pf, lf, bf, vf, pg, lg, bg, vg, rfl, rfl, hP, hA, hlab⟩
  simp only [Hp.next_alloc] at hnx hold hra hlab
  have hm0 : Hq.get H.next = some (.cells [.nilS, .nilS] 0 true) := by rw [hold _ (by omega), Hp.get_alloc, if_pos rfl]
  have ltA := hP.ltA
  have ltF := hP.ltF
  obtain ⟨X0, X1⟩ := hP.toX (lo := H.next + 1) (by omega) (fun q hq => hlab q hq)
  have hzf : (genF (l.take 60)).sz < 2 ^ 24 ∧ (genGf (l.take 60)).sz < 2 ^ 24 := by
    rw [genP] at hsz
    simp only [Pr.sz, fnsSz] at hsz
    omega
  dsimp only [setO]
  rcases (by omega : pickG a 2 = 0 ∨ pickG a 2 = 1) with hi | hi
  all_goals
    rw [hi] at kp2
    have gh0 := @ixF2a
    have gh1 := @ixF2b
    repeat' (first
       | (apply Rx.nl ?_; clear hK K) | apply Rx.o ?_ | apply Rx.on ?_ | (apply Rx.call ?_; first | refine Rx.k (kp2 _) ?_) | (apply Rx.cd (fun hb hbp => ?_) (fun hb hbp => ?_) <;> try (cases hb; done)) | apply Wp.seq ?_ | (apply Wp.ops' fun K hK => ?_) | (apply Rx.dT 2 [(1, 3), (1, 6)] fun K hK => ?_) | (apply Rx.dT 8 [(4, 7), (4, 11), (5, 7), (5, 11), (9, 11), (10, 11)] fun K hK => ?_) | (apply Rx.dT 10 [(4, 7), (4, 11), (5, 7), (5, 11), (9, 11), (10, 11)] fun K hK => ?_) | (apply Rx.dT 15 [(4, 12), (7, 12), (8, 12), (9, 12), (11, 12)] fun K hK => ?_) | (apply Rx.dT 17 [(1, 3), (1, 5), (1, 9)] fun K hK => ?_) | (apply Rx.dT 19 [(1, 4), (1, 9), (2, 4), (2, 9), (6, 9), (8, 9)] fun K hK => ?_) | (apply Rx.dT 50 [(3, 14), (3, 16), (8, 14), (11, 14)] fun K hK => ?_) | (apply Rx.dT 52 [(1, 4), (1, 9), (2, 4), (2, 9), (6, 9), (8, 9)] fun K hK => ?_) | (apply Rx.nq ?_; try intro _) | (apply Rx.nt ?_ ?_ <;> clear hK K) | apply WpT.step ?_ | apply WpT.step0 rfl ?_ | apply Wp.block ?_ | apply Rx.sk ?_ | apply Rx.rt ?_ | apply Rx.xt ?_)
    · exact eK
    refine WpL.call rfl eVk eAk ?_; simp only [List.cons_append, List.nil_append, List.append_nil]
    refine WpCall.mono ?_ (pick_en hG.pick how 24 (by decide) _)
    rintro _ _ ⟨rfl, rfl⟩
    dsimp only [setO]
    refine WpL.nil (hK _ _ ?_)
    clear hK K
    dsimp only [thenQ, blockQ]
    first
    | refine Wp.mono (fun x E' H' h => ?_) (mp_all hG (at_start (m := H.next) (X0.mv0 (H' := (Hq.alloc (.cells [.nilS, .nilS] 0 true)).set Hq.next (.cells [.sl ra 0 2 2, .sl rf 0 2 9] 0 true)) (by simp only [Hp.next_set, Hp.next_alloc]; omega) (fun q _ h1 => by rw [Hp.get_set, if_neg (by omega), alloc_old h1])) (P := Hq.next) (a := a) (.inl rfl) rfl (by omega) hzf.1 hzf.2 (by intro e; cases e) (by intro e; cases e) hi (Nat.lt_succ_self _) eE eE eE eE eE eE))
    | refine Wp.mono (fun x E' H' h => ?_) (mp_all hG (at_start (m := H.next) (X1.mv0 (H' := (Hq.alloc (.cells [.nilS, .nilS] 0 true)).set Hq.next (.cells [.sl ra 0 2 2, .sl rf 0 2 9] 0 true)) (by simp only [Hp.next_set, Hp.next_alloc]; omega) (fun q _ h1 => by rw [Hp.get_set, if_neg (by omega), alloc_old h1])) (P := Hq.next) (a := a) (.inr rfl) rfl (by omega) hzf.2 hzf.1 (by intro e; cases e) (by intro e; cases e) hi (Nat.lt_succ_self _) eE eE eE eE eE eE))
    obtain ⟨rfl, k6, k7, va, vb, p, R, hgP, hPl, hM, hold'⟩ := h
    have hm1 : H'.get H.next = some (.cells [.nilS, .nilS] 0 true) := by
      rw [hold' _ (by omega), Hp.get_set, if_neg (by omega), alloc_old (by omega)]; exact hm0
    dsimp only [thenQ, blockQ]
    have e1 : (Hq.next == H.next) = false := ne_beq (by omega)
    have e2 : (H.next == Hq.next) = false := ne_beq (by omega)
    have o1 : AV.one va = true := by
      rcases hM.ars with ⟨rfl, _⟩ | ⟨q, imm, rows, rfl, _⟩ <;> rfl
    have o2 : AV.one vb = true := by
      rcases hM.fns with ⟨rfl, _⟩ | ⟨q, imm, rows, rfl, _⟩ <;> rfl
    repeat' (first
       | (apply Rx.nl ?_; clear hK K) | apply Rx.o ?_ | apply Rx.on ?_ | (apply Rx.cd (fun hb hbp => ?_) (fun hb hbp => ?_) <;> try (cases hb; done)) | apply Wp.seq ?_ | (apply Wp.ops' fun K hK => ?_) | (apply Rx.dT 2 [(1, 3), (1, 6)] fun K hK => ?_) | (apply Rx.dT 8 [(4, 7), (4, 11), (5, 7), (5, 11), (9, 11), (10, 11)] fun K hK => ?_) | (apply Rx.dT 10 [(4, 7), (4, 11), (5, 7), (5, 11), (9, 11), (10, 11)] fun K hK => ?_) | (apply Rx.dT 15 [(4, 12), (7, 12), (8, 12), (9, 12), (11, 12)] fun K hK => ?_) | (apply Rx.dT 17 [(1, 3), (1, 5), (1, 9)] fun K hK => ?_) | (apply Rx.dT 19 [(1, 4), (1, 9), (2, 4), (2, 9), (6, 9), (8, 9)] fun K hK => ?_) | (apply Rx.dT 50 [(3, 14), (3, 16), (8, 14), (11, 14)] fun K hK => ?_) | (apply Rx.dT 52 [(1, 4), (1, 9), (2, 4), (2, 9), (6, 9), (8, 9)] fun K hK => ?_) | (apply Rx.nq ?_; try intro _) | (apply Rx.nt ?_ ?_ <;> clear hK K) | apply WpT.step ?_ | apply WpT.step0 rfl ?_ | apply Wp.block ?_ | apply Rx.sk ?_ | apply Rx.rt ?_ | apply Rx.xt ?_)
    refine ⟨eI, _, (by (try simp only [sB, sO, Nat.reduceBEq, Nat.reduceAdd, Nat.reduceLeDiff, tyF, resultsA, resultA, aggP2, *]); first | done | with_reducible rfl), ?_⟩; try simp only [oneOr]
    refine ⟨va, vb, p, R, Hq.next, rfl, ⟨hM.ne, hM.ars.keep (fun _ _ h => h) (Nat.le_refl _) fun q h1 _ => by rw [Hp.get_set, if_neg (by have := h1.1; omega)], hM.fns.keep (fun _ _ h => h) (Nat.le_refl _) fun q h1 _ => by rw [Hp.get_set, if_neg (by have := h1.1; omega)], hM.good⟩, by rw [Hp.next_set]; omega, fun q h1 => ?_⟩
    rw [Hp.get_set, if_neg (by omega), hold' q (by omega), Hp.get_set, if_neg (by omega), alloc_old (by omega), hold q (by omega), alloc_old h1]
end Go.Proofs.Ytackdnelcpbfjaa
namespace Go.Proofs.Ytackdnelcpbfjaa
set_option maxRecDepth 20000
set_option linter.unusedSimpArgs false
set_option linter.unusedVariables false
set_option linter.unusedSectionVars false
set_option linter.defProp false
open Go Go.Ab
/-- Statements that are in order: well-formed, not deep, what they use is defined. -/
structure EsOk (p : Pr) (l : List St) : Prop where
  wf : wfSs l = true
  dp : deepS l = false
  ch : ∃ c : Sc, c.p = p ∧ chkS c false l = true ∧ chkS c true l = true
structure EOk (p : Pr) (x : St) : Prop where
  wf : wfSt x = true
  dp : deep1 x = false
  ch : ∃ c : Sc, c.p = p ∧ chk1 c false x = true ∧ chk1 c true x = true
section
variable (p : Pr) (fi : List (Nm × Int))
end
structure PrOk (p : Pr) (fi : List (Nm × Int)) : Prop where
  body : ∀ f ∈ p.funcs, EsOk p f.body ∧ nS f.body ≤ 200 ∧ wfE f.value = true ∧ depE f.value < 22
  fn : ∀ s, 0 ≤ findF p.funcs s 0 → lkV fi s = findF p.funcs s 0
end Go.Proofs.Ytackdnelcpbfjaa
namespace Go.Proofs.Ytackdnelcpbfjaa
set_option maxRecDepth 20000
set_option linter.unusedSimpArgs false
set_option linter.unusedVariables false
set_option linter.unusedSectionVars false
set_option linter.defProp false
open Go Go.Ab
/-- What a valid program is. -/
structure Valid (p : Pr) : Prop where
  ex : exB p = false
  wf : wfP p = true
  du : dupP p = false
  un : p.funcs.any (undFn p) = false
  ba : p.funcs.any (badFn p) = false
theorem nodup_of : ∀ (l seen : List (List UInt8)), dupFrom seen l = false → l.Nodup
  | [], _, _ => List.nodup_nil
  | s :: l, seen, h => by
    rw [dupFrom, Bool.or_eq_false_iff] at h
    refine List.nodup_cons.2 ⟨fun hm => ?_, nodup_of l _ h.2⟩
    have := dupFrom_not _ _ h.2 s (by rw [hasS_append, hasS_one, decide_eq_true rfl, Bool.or_true])
    rw [hasS, List.any_eq_false] at this
    exact this s hm (by simp)
end Go.Proofs.Ytackdnelcpbfjaa
namespace Go.Proofs.Ytackdnelcpbfjaa
set_option maxRecDepth 20000
set_option linter.unusedSimpArgs false
set_option linter.unusedVariables false
set_option linter.unusedSectionVars false
set_option linter.defProp false
open Go Go.Ab
def swapP (p : Pr) : Pr := ⟨p.arrays, p.funcs.reverse⟩
theorem dupFrom_nil : ∀ (l seen : List (List UInt8)), l.Nodup → (∀ s ∈ l, s ∉ seen) → dupFrom seen l = false
  | [], _, _, _ => rfl
  | s :: l, seen, h, k => by
    obtain ⟨h1, h2⟩ := List.nodup_cons.1 h
    rw [dupFrom, Bool.or_eq_false_iff]
    refine ⟨?_, dupFrom_nil l _ h2 fun t ht hm => ?_⟩
    · rw [hasS, List.any_eq_false]
      intro x hx e
      simp only [decide_eq_true_eq] at e
      exact k s List.mem_cons_self (e ▸ hx)
    · rcases List.mem_append.1 hm with hm | hm
      · exact k t (List.mem_cons_of_mem _ ht) hm
      · simp only [List.mem_singleton] at hm
        exact h1 (hm ▸ ht)
theorem dupFrom_iff (l : List (List UInt8)) : dupFrom [] l = false ↔ l.Nodup := ⟨nodup_of l [], fun h => dupFrom_nil l [] h fun _ _ => by simp⟩
theorem nodup_rev {l : List (List UInt8)} (h : l.Nodup) : l.reverse.Nodup := List.pairwise_reverse.2 (List.Pairwise.imp (fun h => Ne.symm h) h)
theorem dupFrom_rev (l : List (List UInt8)) : dupFrom [] l.reverse = dupFrom [] l := by
  cases h : dupFrom [] l
  · rw [dupFrom_iff] at h ⊢; exact nodup_rev h
  · cases h2 : dupFrom [] l.reverse
    · rw [dupFrom_iff] at h2; have h3 := nodup_rev h2; rw [List.reverse_reverse, ← dupFrom_iff, h] at h3; exact h3.symm
    · rfl
theorem findF_spec (s : List UInt8) : ∀ (l : List Fu) (i : Nat), (findF l s i = -1 ∧ ∀ f ∈ l, f.name ≠ s) ∨ ∃ k f, l[k]? = some f ∧ f.name = s ∧ findF l s i = ((i + k : Nat) : Int)
  | [], i => .inl ⟨rfl, fun f h => by simp at h⟩
  | f :: l, i => by
    by_cases e : f.name = s
    · exact .inr ⟨0, f, rfl, e, by rw [findF, if_pos e]; simp⟩
    · have hf : findF (f :: l) s i = findF l s ((i + 1 : Nat) : Int) := by rw [findF, if_neg e]; rfl
      rw [hf]
      rcases findF_spec s l (i + 1) with ⟨h1, h2⟩ | ⟨k, g, h1, h2, h3⟩
      · exact .inl ⟨h1, fun g hg => by
          rcases List.mem_cons.1 hg with rfl | hg
          · exact e
          · exact h2 g hg⟩
      · exact .inr ⟨k + 1, g, by simpa using h1, h2, by rw [h3]; congr 1; omega⟩
theorem findF_mem {l : List Fu} {s : List UInt8} : 0 ≤ findF l s 0 ↔ ∃ f ∈ l, f.name = s := by
  rcases findF_spec s l 0 with ⟨h1, h2⟩ | ⟨k, f, h1, h2, h3⟩
  · have h1 : findF l s 0 = -1 := h1
    rw [h1]
    exact ⟨fun h => by omega, fun ⟨f, hf, e⟩ => absurd e (h2 f hf)⟩
  · have h3 : findF l s 0 = ((0 + k : Nat) : Int) := h3
    rw [h3]
    exact ⟨fun _ => ⟨f, List.mem_of_getElem? h1, h2⟩, fun _ => by omega⟩
theorem findF_get {l : List Fu} {s : List UInt8} (h : 0 ≤ findF l s 0) : ∃ f, l[(findF l s 0).toNat]? = some f ∧ f.name = s := by
  rcases findF_spec s l 0 with ⟨h1, h2⟩ | ⟨k, f, h1, h2, h3⟩
  · have h1 : findF l s 0 = -1 := h1
    omega
  · have h3 : findF l s 0 = ((0 + k : Nat) : Int) := h3
    exact ⟨f, by rw [h3, show (((0 + k : Nat) : Int)).toNat = k by omega]; exact h1, h2⟩
theorem name_one : ∀ {l : List Fu}, (l.map (·.name)).Nodup → ∀ {f g : Fu}, f ∈ l → g ∈ l → f.name = g.name → f = g
  | [], _, _, _, h, _, _ => by simp at h
  | x :: l, hn, f, g, hf, hg, e => by
    rw [List.map_cons, List.nodup_cons] at hn
    rcases List.mem_cons.1 hf with h1 | h1 <;> rcases List.mem_cons.1 hg with h2 | h2
    · rw [h1, h2]
    · exact absurd (List.mem_map.2 ⟨g, h2, by rw [← e, h1]⟩) hn.1
    · exact absurd (List.mem_map.2 ⟨f, h1, by rw [e, h2]⟩) hn.1
    · exact name_one hn.2 h1 h2 e
/-- The function of a name is the same in the swapped program. -/
theorem swap_find {p : Pr} {s : List UInt8} (hn : (fnNms p).Nodup) (h : 0 ≤ findF p.funcs s 0) : 0 ≤ findF (swapP p).funcs s 0 ∧ p.funcs[(findF p.funcs s 0).toNat]? = (swapP p).funcs[(findF (swapP p).funcs s 0).toNat]? := by
  have h2 : 0 ≤ findF (swapP p).funcs s 0 := by
    obtain ⟨f, hf, e⟩ := findF_mem.1 h
    exact findF_mem.2 ⟨f, List.mem_reverse.2 hf, e⟩
  obtain ⟨f, h3, e⟩ := findF_get h
  obtain ⟨g, h4, e'⟩ := findF_get h2
  refine ⟨h2, ?_⟩
  rw [h3, h4]
  exact congrArg some (name_one hn (List.mem_of_getElem? h3) (List.mem_reverse.1 (List.mem_of_getElem? h4)) (by rw [e, e']))
theorem swap_has {p : Pr} {s : List UInt8} : (0 ≤ findF (swapP p).funcs s 0) = (0 ≤ findF p.funcs s 0) := by
  rw [findF_mem, findF_mem]
  simp [swapP]
section
variable {c c' : Sc}
mutual
theorem chk1_und (hv : c.vars = c'.vars) (ha : c.an = c'.an) (hf : ∀ s, (0 ≤ findF c.p.funcs s 0) = (0 ≤ findF c'.p.funcs s 0)) : ∀ x : St, chk1 c false x = chk1 c' false x
  | .mk k nm to n a v args th el => by
    rw [chk1, chk1, chkS_und hv ha hf th, chkS_und hv ha hf el]
    simp only [cond_false, defStX, defStK, hv, ha, hf]
theorem chkS_und (hv : c.vars = c'.vars) (ha : c.an = c'.an) (hf : ∀ s, (0 ≤ findF c.p.funcs s 0) = (0 ≤ findF c'.p.funcs s 0)) : ∀ l : List St, chkS c false l = chkS c' false l
  | [] => by rw [chkS, chkS]
  | x :: l => by rw [chkS, chkS, chk1_und hv ha hf x, chkS_und hv ha hf l]
end
theorem arK_eq {p p' : Pr} {x : St} (h : x.kind = 6 → parN p x.to = parN p' x.to) : arK p x = arK p' x := by
  unfold arK
  by_cases hk : x.kind = 6
  · rw [h hk]
  · simp [hk]
mutual
theorem chk1_ar (hf : ∀ s, 0 ≤ findF c.p.funcs s 0 → parN c.p s = parN c'.p s) : ∀ x : St, cal1 c.p x = true → chk1 c true x = chk1 c' true x
  | .mk k nm to n a v args th el, h => by
    rw [cal1, Bool.and_eq_true, Bool.and_eq_true] at h
    rw [chk1, chk1, chkS_ar hf th h.1.2, chkS_ar hf el h.2]
    have h2 : (St.mk k nm to n a v args th el).kind = 6 → parN c.p (St.mk k nm to n a v args th el).to = parN c'.p (St.mk k nm to n a v args th el).to := fun hk => by
      have h1 := h.1.1
      change k = 6 at hk
      rw [decide_eq_true hk, Bool.not_true, Bool.false_or, decide_eq_true_eq] at h1
      exact hf _ h1
    rw [arK_eq h2]; rfl
theorem chkS_ar (hf : ∀ s, 0 ≤ findF c.p.funcs s 0 → parN c.p s = parN c'.p s) : ∀ l : List St, calS c.p l = true → chkS c true l = chkS c' true l
  | [], _ => by rw [chkS, chkS]
  | x :: l, h => by
    rw [calS, Bool.and_eq_true] at h
    rw [chkS, chkS, chk1_ar hf x h.1, chkS_ar hf l h.2]
end
end
theorem swap_par {p : Pr} {s : List UInt8} (hn : (fnNms p).Nodup) (h : 0 ≤ findF p.funcs s 0) : parN p s = parN (swapP p) s := by
  rw [parN, parN, (swap_find hn h).2]
theorem refCheck_swap (p : Pr) : refCheck (swapP p) = refCheck p := by
  have e1 : exB (swapP p) = exB p := by
    show (_ || decide ((8 : Int) < p.funcs.reverse.length) || _ || p.funcs.reverse.any exFn) = _
    rw [List.length_reverse, List.any_reverse]; rfl
  have e2 : wfP (swapP p) = wfP p := by
    show (_ && p.funcs.reverse.all wfFn) = _
    rw [List.all_reverse]; rfl
  have e3 : dupP (swapP p) = dupP p := by
    rw [dupP, dupP, dupFns_eq, dupFns_eq]
    have : (swapP p).funcs.map (·.name) = (p.funcs.map (·.name)).reverse := by simp [swapP]
    rw [this, dupFrom_rev]
    show (dupFrom [] (arNames p) || (_ || p.funcs.reverse.any _)) = _
    rw [List.any_reverse]; rfl
  rw [refCheck, refCheck, e1, e2, e3]
  by_cases h3 : dupP p = true
  · rw [if_pos h3, if_pos h3]
  have hn : (fnNms p).Nodup := by
    rw [dupP, dupFns_eq] at h3
    simp only [Bool.not_eq_true, Bool.or_eq_false_iff] at h3
    exact nodup_of _ _ h3.2.1
  have e4 : ∀ f, undFn (swapP p) f = undFn p f := fun f => by
    rw [undFn, undFn, chkS_und (c := scOf (swapP p) f) (c' := scOf p f) rfl rfl (fun s => swap_has)]; rfl
  have e5 : (swapP p).funcs.any (undFn (swapP p)) = p.funcs.any (undFn p) := by
    show p.funcs.reverse.any _ = _
    rw [List.any_reverse, show undFn (swapP p) = undFn p from funext e4]
  rw [if_neg h3, if_neg h3, e5]
  by_cases h4 : p.funcs.any (undFn p) = true
  · rw [if_pos h4, if_pos h4]
  rw [if_neg h4, if_neg h4]
  have e6 : ∀ f ∈ p.funcs, badFn (swapP p) f = badFn p f := fun f hf => by
    have h5 := List.any_eq_false.1 (by simpa using h4) f hf
    simp only [undFn, Bool.not_eq_true, Bool.not_eq_false', Bool.and_eq_true] at h5
    rw [badFn, badFn, ← chkS_ar (c := scOf p f) (c' := scOf (swapP p) f) (fun s hs => swap_par hn hs) f.body (chkS_cal f.body h5.1)]
  have e7 : (swapP p).funcs.any (badFn (swapP p)) = p.funcs.any (badFn p) := by
    show p.funcs.reverse.any _ = _
    rw [List.any_reverse]
    have : ∀ l : List Fu, (∀ f ∈ l, badFn (swapP p) f = badFn p f) → l.any (badFn (swapP p)) = l.any (badFn p) := by
      intro l
      induction l with
      | nil => intro _; rfl
      | cons x l ih => intro h; rw [List.any_cons, List.any_cons, h x List.mem_cons_self, ih fun f hf => h f (List.mem_cons_of_mem _ hf)]
    exact this _ e6
  rw [e7]
section
variable {p p' : Pr} {fi fi' : List (Nm × Int)}
end
theorem fnsSz_append : ∀ a b : List Fu, fnsSz (a ++ b) = fnsSz a + fnsSz b
  | [], b => by simp [fnsSz]
  | f :: a, b => by simp only [List.cons_append, fnsSz, fnsSz_append a b]; omega
theorem fnsSz_rev : ∀ a : List Fu, fnsSz a.reverse = fnsSz a
  | [] => rfl
  | f :: a => by rw [List.reverse_cons, fnsSz_append, fnsSz_rev a]; simp only [fnsSz]; omega
theorem swap_sz (p : Pr) : (swapP p).sz = p.sz := by simp only [Pr.sz, swapP, fnsSz_rev]
end Go.Proofs.Ytackdnelcpbfjaa
namespace Go.Proofs.Ytackdnelcpbfjaa
set_option maxRecDepth 20000
set_option linter.unusedSimpArgs false
set_option linter.unusedVariables false
set_option linter.unusedSectionVars false
set_option linter.defProp false
open Go Go.Ab
def zzF : Fu := ⟨zzN, [zzN], [], [], .mk 2 0 zzN 0 []⟩
theorem findF_app : ∀ (l l' : List Fu) (s : List UInt8) (i : Int), 0 ≤ i → 0 ≤ findF l s i → findF (l ++ l') s i = findF l s i
  | [], _, _, _, _, h => by simp [findF] at h
  | f :: l, l', s, i, h0, h => by
    rw [List.cons_append, findF, findF]
    rw [findF] at h
    split
    · rfl
    · rename_i hn
      rw [if_neg hn] at h
      exact findF_app l l' s (i + 1) (by omega) h
section
variable {c c' : Sc}
mutual
theorem chk1_mono (hv : c.vars = c'.vars) (ha : c.an = c'.an) (hf : ∀ s, 0 ≤ findF c.p.funcs s 0 → 0 ≤ findF c'.p.funcs s 0) : ∀ x : St, chk1 c false x = true → chk1 c' false x = true
  | .mk k nm to n a v args th el, h => by
    rw [chk1, Bool.and_eq_true, Bool.and_eq_true] at h ⊢
    refine ⟨⟨?_, chkS_mono hv ha hf th h.1.2⟩, chkS_mono hv ha hf el h.2⟩
    have h1 := h.1.1
    simp only [cond_false, defStX, defStK, ← hv, ← ha, Bool.and_eq_true] at h1 ⊢
    refine ⟨h1.1, ?_⟩
    have h2 := h1.2
    revert h2
    split
    · exact id
    · split
      · intro h2
        rw [Bool.and_eq_true, decide_eq_true_eq] at h2 ⊢
        exact ⟨h2.1, hf _ h2.2⟩
      · exact id
theorem chkS_mono (hv : c.vars = c'.vars) (ha : c.an = c'.an) (hf : ∀ s, 0 ≤ findF c.p.funcs s 0 → 0 ≤ findF c'.p.funcs s 0) : ∀ l : List St, chkS c false l = true → chkS c' false l = true
  | [], _ => by rw [chkS]
  | x :: l, h => by
    rw [chkS, Bool.and_eq_true] at h ⊢
    exact ⟨chk1_mono hv ha hf x h.1, chkS_mono hv ha hf l h.2⟩
end
end
theorem refCheck_zero {p : Pr} (h : refCheck p = 0) : exB p = false ∧ wfP p = true ∧ dupP p = false ∧ p.funcs.any (undFn p) = false ∧ p.funcs.any (badFn p) = false := by
  rw [refCheck] at h
  (repeat' split at h) <;> simp_all
theorem add_zz {p : Pr} (h : refCheck p = 0) (hl : p.funcs.length < 8) (hf : ∀ f ∈ p.funcs, f.name ≠ zzN) (ha : ∀ a ∈ p.arrays, a.name ≠ zzN) : refCheck ⟨p.arrays, p.funcs ++ [zzF]⟩ = 0 := by
  obtain ⟨h1, h2, h3, h4, h5⟩ := refCheck_zero h
  have hext : exFn zzF = false := by kernel_rfl
  have hwf : wfFn zzF = true := by kernel_rfl
  have e1 : exB ⟨p.arrays, p.funcs ++ [zzF]⟩ = false := by
    simp only [exB, Bool.or_eq_false_iff] at h1 ⊢
    refine ⟨⟨⟨h1.1.1.1, ?_⟩, h1.1.2⟩, ?_⟩
    · rw [decide_eq_false_iff_not, List.length_append]; simp; omega
    · rw [List.any_append, h1.2]; simp [hext]
  have e2 : wfP ⟨p.arrays, p.funcs ++ [zzF]⟩ = true := by
    simp only [wfP, Bool.and_eq_true] at h2 ⊢
    refine ⟨h2.1, ?_⟩
    rw [List.all_append, h2.2]; simp [hwf]
  have nf : hasS (p.funcs.map (·.name)) zzN = false := by
    rw [hasS, List.any_eq_false]
    intro s hs
    obtain ⟨f, hf', rfl⟩ := List.mem_map.1 hs
    simpa using hf f hf'
  have na : hasS (arNames p) zzN = false := by
    rw [hasS, List.any_eq_false]
    intro s hs
    obtain ⟨a, ha', rfl⟩ := List.mem_map.1 hs
    simpa using ha a ha'
  have e3 : dupP ⟨p.arrays, p.funcs ++ [zzF]⟩ = false := by
    rw [dupP, dupFns_eq] at h3 ⊢
    simp only [Bool.or_eq_false_iff] at h3 ⊢
    refine ⟨h3.1, ?_, ?_⟩
    · rw [List.map_append, dupFrom_append, h3.2.1, Bool.false_or]
      show (hasS ([] ++ p.funcs.map (·.name)) zzN || false) = false
      rw [List.nil_append, nf]; rfl
    · rw [List.any_append]
      rw [Bool.or_eq_false_iff]
      refine ⟨h3.2.2, ?_⟩
      show ((hasS (arNames p) zzN || false) || false) = false
      rw [na]; rfl
  have hmono : ∀ s, 0 ≤ findF p.funcs s 0 → 0 ≤ findF (p.funcs ++ [zzF]) s 0 := fun s hs => by rw [findF_app _ _ _ _ (by omega) hs]; exact hs
  have hund : ∀ f ∈ p.funcs, undFn p f = false := fun f hf' => by
    have := List.any_eq_false.1 h4 f hf'
    simpa using this
  have hbad : ∀ f ∈ p.funcs, badFn p f = false := fun f hf' => by
    have := List.any_eq_false.1 h5 f hf'
    simpa using this
  have e4 : (p.funcs ++ [zzF]).any (undFn ⟨p.arrays, p.funcs ++ [zzF]⟩) = false := by
    rw [List.any_append, Bool.or_eq_false_iff]
    refine ⟨List.any_eq_false.2 fun f hf' => ?_, ?_⟩
    · have h6 := hund f hf'
      simp only [undFn, Bool.not_eq_false', Bool.and_eq_true] at h6
      have h7 : undFn ⟨p.arrays, p.funcs ++ [zzF]⟩ f = false := by
        simp only [undFn, Bool.not_eq_false', Bool.and_eq_true]
        exact ⟨chkS_mono (c := scOf p f) (c' := scOf ⟨p.arrays, p.funcs ++ [zzF]⟩ f) rfl rfl hmono f.body h6.1, h6.2⟩
      rw [h7]; simp
    · have : undFn ⟨p.arrays, p.funcs ++ [zzF]⟩ zzF = false := by kernel_rfl
      simp [this]
  have e5 : (p.funcs ++ [zzF]).any (badFn ⟨p.arrays, p.funcs ++ [zzF]⟩) = false := by
    rw [List.any_append, Bool.or_eq_false_iff]
    refine ⟨List.any_eq_false.2 fun f hf' => ?_, ?_⟩
    · have h6 := hund f hf'
      simp only [undFn, Bool.not_eq_false', Bool.and_eq_true] at h6
      have h7 : badFn ⟨p.arrays, p.funcs ++ [zzF]⟩ f = false := by
        rw [← hbad f hf', badFn, badFn, chkS_ar (c := scOf p f) (c' := scOf ⟨p.arrays, p.funcs ++ [zzF]⟩ f) (fun s hs => ?_) f.body (chkS_cal f.body h6.1)]
        show parN p s = parN ⟨p.arrays, p.funcs ++ [zzF]⟩ s
        obtain ⟨k, hk1, hk2⟩ := findF_lt p.funcs s 0 hs
        have e : findF (p.funcs ++ [zzF]) s 0 = findF p.funcs s 0 := findF_app _ _ _ _ (by omega) hs
        have hk3 : (findF p.funcs s 0).toNat = k := by
          have : findF p.funcs s ((0 : Nat) : Int) = findF p.funcs s 0 := rfl
          rw [this] at hk2; omega
        show _ = (((p.funcs ++ [zzF])[(findF (p.funcs ++ [zzF]) s 0).toNat]?).map fun f => f.params.length).getD 0
        rw [e, parN, hk3, List.getElem?_append_left hk1]
      rw [h7]; simp
    · have : badFn ⟨p.arrays, p.funcs ++ [zzF]⟩ zzF = false := by kernel_rfl
      simp [this]
  rw [refCheck, e1, e2, e3, e4, e5]; rfl
end Go.Proofs.Ytackdnelcpbfjaa
namespace Go.Proofs.Ytackdnelcpbfjaa
set_option maxRecDepth 20000
set_option linter.unusedSimpArgs false
set_option linter.unusedVariables false
set_option linter.unusedSectionVars false
set_option linter.defProp false
set_option maxRecDepth 20000
open Go Go.Ab
namespace tyGSw
def tyF := And.intro @tq3 (And.intro @tq9 (And.intro @tq22 (And.intro @tq23 (And.intro @tq25 (And.intro @tq35 (And.intro @tq36 (And.intro @tq39 (And.intro @tq41 (@tq44)))))))))
end tyGSw
open tyGSw
noncomputable def code17 : { c : SC // slim 29 (Try.f17.body.getD .skip) = c } := by
  refine ⟨?_, ?_⟩
  rotate_left
  · simp only [Try.f17, Option.getD_some, slim, slimR, slimL, slimD, slimG, Nat.blt, Nat.ble]
    rfl
theorem bsA0 (H : Hp) : buildSliceA Try.prog H 22 0 [] = some (.sl H.next 0 0 2, H.alloc (.cells [] 0 true)) := by kernel_rfl
theorem bPa (q n : Nat) : buildA Try.prog 25 [(0, .sl q 0 n 2)] = some (.agg [.sl q 0 n 2, .nilS]) := by kernel_rfl
theorem bsF1' (H : Hp) (x : Fu) : buildSliceA Try.prog H 23 1 [(0, .agg x.cells)] = some (.sl H.next 0 1 9, H.alloc (.cells x.cells 0 true)) := by
  rw [Fu.cells_eq]; kernel_rfl
theorem rev_at {p : Pr} {i : Nat} (hi : i < p.funcs.length) : p.funcs.reverse[i]? = p.funcs[p.funcs.length - 1 - i]? := List.getElem?_reverse hi
set_option maxRecDepth 100000 in
set_option maxHeartbeats 8000000 in
theorem swapped_con (ρ : Nat → Int) (p : Pr) (hl : p.sz < 2 ^ 36) : Con Try.prog ρ 17 (prE p) (.agg (swapP p).cells) := by
  refine con_of_wk2 (n := 60) (cfg := cfgN pls []) fit (noDec ρ) (fun g ar r hg => EnsOk.look (l := []) trivial g ar r hg) (.cons (.agg p.pure) .nil) ?_
  have hw := plain0 17
  have hkeep : (cfgN pls []).keep 17 = false := rfl
  have hpz : p.sz = 1 + arrsSz p.arrays + fnsSz p.funcs := rfl
  have hla := arrsSz_len p.arrays
  have hlf := fnsSz_len p.funcs
  rw [prE]
  refine WpCall.slim (M := 29) (rs := [.cell 2 25]) (hw.call _) hw.ice hw.froz Try.func17 rfl rfl code17.2 rfl ?_; dsimp only [code17, envOf, Nat.reduceAdd]
  have gh0 := @bsA0
  repeat' (first
     | (apply Rx.nl ?_; clear hK K) | apply Rx.o ?_ | apply Rx.on ?_ | (apply Rx.cd (fun hb hbp => ?_) (fun hb hbp => ?_) <;> try (cases hb; done)) | apply Wp.seq ?_ | (apply Wp.ops' fun K hK => ?_) | (apply Rx.dT 5 [(1, 8), (3, 8), (6, 8), (7, 8)] fun K hK => ?_) | (apply Rx.nq ?_; try intro _) | (apply Rx.nt ?_ ?_ <;> clear hK K) | apply WpT.step ?_ | apply WpT.step0 rfl ?_ | apply Wp.block ?_ | apply Rx.sk ?_ | apply Rx.rt ?_ | apply Rx.xt ?_)
  generalize hHb : Hp.alloc (Hp.alloc (Hp.alloc H0 _) _) _ = Hb
  have nb : Hb.next = 3 := by rw [← hHb]; rfl
  have g0 : Hb.get 0 = some (.cells p.cells 0 true) := by rw [← hHb]; simp [Hp.get_alloc, Hp.next_alloc, H0_next]
  have g1 : Hb.get 1 = some (.cells [.nilS, .nilS] 0 true) := by rw [← hHb]; simp [Hp.get_alloc, Hp.next_alloc, H0_next]
  have g2 : Hb.get 2 = some (.cells [] 0 true) := by rw [← hHb]; simp [Hp.get_alloc, Hp.next_alloc, H0_next]
  clear hHb
  obtain ⟨v8, H8, a8, s8, n8, n8', f8, q8, z8⟩ := RowOwn.pushL (P := Try.prog) (t := 22) (u := 22) Try.underlying22 sz44 bt44 zr44 rfl (by kernel_rfl) (lo := 2) (n := 1) (H := Hb) (v := .sl 2 0 0 2) (ws := []) (.inr ⟨2, 0, [], rfl, Nat.le_refl _, by omega, g2, Nat.zero_le _, trivial⟩) (by omega) (src_rows (rows := p.arrays.map Ar.cells) fun r hr => by obtain ⟨a, _, rfl⟩ := List.mem_map.1 hr; rfl) (ars_one _) (RowsW.ars _) (by simp [maxRoom]; omega) (by simp [maxRoom]; omega)
  rw [List.nil_append] at s8
  have h80 : H8.get 0 = some (.cells p.cells 0 true) := by rw [f8 _ (by omega) (fun o m z' e => by simp at e)]; exact g0
  have h81 : H8.get 1 = some (.cells [.nilS, .nilS] 0 true) := by rw [f8 _ (by omega) (fun o m z' e => by simp at e)]; exact g1
  obtain ⟨qa, na, rfl⟩ : ∃ q m, v8 = .sl q 0 m 2 := by
    rcases s8 with ⟨e, _⟩ | ⟨q, _, rows, e, _⟩
    · have := z8 e; cases this
    · exact ⟨q, rows.length, e⟩
  clear f8 q8 z8 g0 g1 g2
  have e0 : (0 == H8.next) = false := ne_beq (by omega)
  have e1 : (1 == H8.next) = false := ne_beq (by omega)
  have hwl : IntKind.wrap .i64 ((p.funcs.length : Int) - 1) = (p.funcs.length : Int) - 1 := i64_id (by omega) (by omega)
  have gh0 := @bPa
  repeat' (first
     | (apply Rx.nl ?_; clear hK K) | apply Rx.o ?_ | apply Rx.on ?_ | (apply Rx.cd (fun hb hbp => ?_) (fun hb hbp => ?_) <;> try (cases hb; done)) | apply Wp.seq ?_ | (apply Wp.ops' fun K hK => ?_) | (apply Rx.dT 5 [(1, 8), (3, 8), (6, 8), (7, 8)] fun K hK => ?_) | (apply Rx.nq ?_; try intro _) | (apply Rx.nt ?_ ?_ <;> clear hK K) | apply WpT.step ?_ | apply WpT.step0 rfl ?_ | apply Wp.block ?_ | apply Rx.sk ?_ | apply Rx.rt ?_ | apply Rx.xt ?_)
  generalize hH9 : Hp.set (Hp.alloc H8 _) H8.next _ = H9
  have n9 : H9.next = H8.next + 1 := by rw [← hH9]; rfl
  have g9 : H9.get H8.next = some (.cells [.sl qa 0 na 2, .nilS] 0 true) := by rw [← hH9, Hp.get_set, if_pos rfl]
  have f9 : ∀ k, k < H8.next → H9.get k = H8.get k := fun k hk => by rw [← hH9, Hp.get_set, if_neg (by omega), Hp.get_alloc, if_neg (by omega)]
  clear hH9 e0 e1
  generalize hr3 : H8.next = r3 at *
  refine Wp.loopN (fun i E H => E.at 1 = .ptr 0 0 ∧ E.at 2 = .ptr 1 0 ∧ E.at 3 = .ptr r3 0 ∧ E.at 4 = .int .i64 ((p.funcs.length : Int) - 1 - i) ∧ (∀ k, k < r3 → H.get k = H8.get k) ∧ r3 < H.next ∧ ∃ lv, H.get r3 = some (.cells [.sl qa 0 na 2, lv] 0 true) ∧ RowOwn (fun q => r3 + 1 ≤ q) 1 H 9 lv ((p.funcs.reverse.take i).map Fu.cells)) p.funcs.length ?_ ?_
  · rintro i E H hi ⟨k1, k2, k3, k4, fr, hlt, lv, gr, hrow⟩
    obtain ⟨p1, p2⟩ := hrow.one
    have gp : H.get 0 = some (.cells p.cells 0 true) := by rw [fr 0 (by omega)]; exact h80
    have gq : H.get 1 = some (.cells [.nilS, .nilS] 0 true) := by rw [fr 1 (by omega)]; exact h81
    repeat' (first
       | (apply Rx.nl ?_; clear hK K) | apply Rx.o ?_ | apply Rx.on ?_ | (apply Rx.cd (fun hb hbp => ?_) (fun hb hbp => ?_) <;> try (cases hb; done)) | apply Wp.seq ?_ | (apply Wp.ops' fun K hK => ?_) | (apply Rx.dT 5 [(1, 8), (3, 8), (6, 8), (7, 8)] fun K hK => ?_) | (apply Rx.nq ?_; try intro _) | (apply Rx.nt ?_ ?_ <;> clear hK K) | apply WpT.step ?_ | apply WpT.step0 rfl ?_ | apply Wp.block ?_ | apply Rx.sk ?_ | apply Rx.rt ?_ | apply Rx.xt ?_)
    · have hlt2 : i < p.funcs.length := by omega
      obtain ⟨f, hf⟩ : ∃ f, p.funcs[((p.funcs.length : Int) - 1 - i).toNat]? = some f := ⟨p.funcs[((p.funcs.length : Int) - 1 - i).toNat], List.getElem?_eq_getElem (by omega)⟩
      have hrf : p.funcs.reverse[i]? = some f := by rw [rev_at hlt2, ← hf]; congr 1; omega
      have hnn : 0 ≤ (p.funcs.length : Int) - 1 - i := by omega
      have hw2 : IntKind.wrap .i64 ((p.funcs.length : Int) - 1 - i - 1) = (p.funcs.length : Int) - 1 - ((i + 1 : Nat) : Int) := by rw [i64_id (by omega) (by omega)]; omega
      have hb2 := bsF1' H f
      have er : ∀ k, k < H.next → (H.alloc (.cells f.cells 0 true)).get k = H.get k := fun k hk => by rw [Hp.get_alloc, if_neg (by omega)]
      have gr2 : (H.alloc (.cells f.cells 0 true)).get r3 = some (.cells [.sl qa 0 na 2, lv] 0 true) := by rw [er _ hlt]; exact gr
      have hln : (p.funcs.reverse.take i).length ≤ p.funcs.length := by simp; omega
      obtain ⟨v5, H5, a5, s5, n5, f5, q5⟩ := RowOwn.push (P := Try.prog) (t := 23) Try.underlying23 sz41 bt41 zr41 rfl (by kernel_rfl) (hrow.keep (H' := H.alloc (.cells f.cells 0 true)) (fun _ _ h => h) (Nat.le_succ _) fun q h1 h2 => er q h2) (by simp only [Hp.next_alloc]; omega) (r := H.next) (imm := 0) (row := f.cells) (w := f.cells) (by rw [Hp.get_alloc, if_pos rfl]) f.clen f.one (CellsW.fu f) (by simp [maxRoom]; omega) (by simp [maxRoom]; omega)
      have hlv : ∀ q o m z', lv = .sl q o m z' → r3 + 1 ≤ q := fun q o m z' e => by
        rcases hrow with ⟨rfl, _⟩ | ⟨q', imm, rows, rfl, e1, e2, _⟩
        · cases e
        · simp only [AV.sl.injEq] at e
          rw [← e.1]; exact e1
      have g5 : H5.get r3 = some (.cells [.sl qa 0 na 2, lv] 0 true) := by rw [f5 _ (by simp only [Hp.next_alloc]; omega) (fun o m z' e => by have := hlv _ o m z' e; omega)]; exact gr2
      have o5 : ∀ k, k < r3 → H5.get k = H8.get k := fun k hk => by rw [f5 _ (by simp only [Hp.next_alloc]; omega) (fun o m z' e => by have := hlv _ o m z' e; omega), er _ (by omega)]; exact fr k hk
      obtain ⟨t1, t2⟩ := s5.one
      simp only [Hp.next_alloc] at n5
      have n5' : r3 < H5.next := by omega
      have n5c : H.next + 1 ≤ H5.next := by omega
      clear f5 q5 n5 hlv er gr2 hrow hln fr
      repeat' (first
         | (apply Rx.nl ?_; clear hK K) | apply Rx.o ?_ | apply Rx.on ?_ | (apply Rx.cd (fun hb hbp => ?_) (fun hb hbp => ?_) <;> try (cases hb; done)) | apply Wp.seq ?_ | (apply Wp.ops' fun K hK => ?_) | (apply Rx.dT 5 [(1, 8), (3, 8), (6, 8), (7, 8)] fun K hK => ?_) | (apply Rx.nq ?_; try intro _) | (apply Rx.nt ?_ ?_ <;> clear hK K) | apply WpT.step ?_ | apply WpT.step0 rfl ?_ | apply Wp.block ?_ | apply Rx.sk ?_ | apply Rx.rt ?_ | apply Rx.xt ?_)
      · have e3 : (r3 == H.next) = false := ne_beq (by omega)
        have e00 : (0 == H.next) = false := ne_beq (by omega)
        exact eK
      refine ⟨hlt2, eE, eE, eE, eE, fun k hk => by rw [Hp.get_set, if_neg (by omega)]; exact o5 k hk, n5', v5, by rw [Hp.get_set, if_pos rfl], ?_⟩
      have hnm : (p.funcs.reverse.take (i + 1)).map Fu.cells = (p.funcs.reverse.take i).map Fu.cells ++ [f.cells] := by rw [List.take_add_one, hrf]; simp
      rw [hnm]
      exact s5.keep (H' := Hp.set H5 r3 (.cells [.sl qa 0 na 2, v5] 0 true)) (fun _ _ h => h) (Nat.le_refl _) fun q h1 h2 => by rw [Hp.get_set, if_neg (by omega)]
    · have hie : i = p.funcs.length := by omega
      subst hie
      have ha2 : ∀ a b : AV, aggA 2 [a, b] = some (.agg [a, b]) := fun _ _ => rfl
      repeat' (first
         | (apply Rx.nl ?_; clear hK K) | apply Rx.o ?_ | apply Rx.on ?_ | (apply Rx.cd (fun hb hbp => ?_) (fun hb hbp => ?_) <;> try (cases hb; done)) | apply Wp.seq ?_ | (apply Wp.ops' fun K hK => ?_) | (apply Rx.dT 5 [(1, 8), (3, 8), (6, 8), (7, 8)] fun K hK => ?_) | (apply Rx.nq ?_; try intro _) | (apply Rx.nt ?_ ?_ <;> clear hK K) | apply WpT.step ?_ | apply WpT.step0 rfl ?_ | apply Wp.block ?_ | apply Rx.sk ?_ | apply Rx.rt ?_ | apply Rx.xt ?_)
      refine ⟨eI, _, (by (try simp only [sB, sO, Nat.reduceBEq, Nat.reduceAdd, Nat.reduceLeDiff, tyF, resultsA, resultA, ha2, *]); first | done | with_reducible rfl), ?_⟩; try simp only [oneOr]
      have ht : (List.take p.funcs.length p.funcs.reverse) = p.funcs.reverse := List.take_of_length_le (by simp)
      rw [ht] at hrow
      have hA : RdW (fun _ => True) 2 (H.set 1 (.cells [.sl qa 0 na 2, lv] 0 true)) (.sl qa 0 na 2) (.lst (p.arrays.map Ar.cells)) := s8.rd.keep2 (fun _ _ _ => trivial) (by show H8.next ≤ H.next; omega) fun k h1 h2 => by rw [Hp.get_set, if_neg (by omega), fr k (by omega)]
      have hF : RdW (fun _ => True) 2 (H.set 1 (.cells [.sl qa 0 na 2, lv] 0 true)) lv (.lst (p.funcs.reverse.map Fu.cells)) := hrow.rd.keep2 (fun _ _ _ => trivial) (Nat.le_refl _) fun k h1 h2 => by rw [Hp.get_set, if_neg (by omega)]
      obtain ⟨us, h1, h2⟩ := CellsW.cons hA (CellsW.cons hF .nil)
      have h3 : Ic (fun _ => True) 100 (H.set 1 (.cells [.sl qa 0 na 2, lv] 0 true)) (.agg [.sl qa 0 na 2, lv]) (.agg us) := Ic.up (n := 3) ⟨us, h1, rfl⟩ (by omega)
      obtain ⟨m0, hm⟩ := Ic.iceV h3
      refine ⟨m0, .agg us, hm m0 (Nat.le_refl _), ?_⟩
      show AV.agg (us.map (wkN 59)) = _
      rw [h2 59 (by omega)]; rfl
  · refine ⟨eE, eE, eE, by rw [show ((p.funcs.length : Int) - 1 - ((0 : Nat) : Int)) = (p.funcs.length : Int) - 1 from by omega]; exact eE, f9, by omega, .nilS, g9, .inl ⟨rfl, rfl⟩⟩
end Go.Proofs.Ytackdnelcpbfjaa
namespace Go.Proofs.Ytackdnelcpbfjaa
set_option maxRecDepth 20000
set_option linter.unusedSimpArgs false
set_option linter.unusedVariables false
set_option linter.unusedSectionVars false
set_option linter.defProp false
open Go Go.Ab
theorem prE_ns (p : Pr) : (prE p).any (hasSl 90) = false := rfl
theorem chkX {l : List En} (hl : ∀ ar, lookN l 13 ar = (enW enChkP).sp ar) (hi : iceN l 13 = true) {S : Nat → Prop} {n : Nat} {H : Hp} {cs : List AV} {p : Pr} (hn : n < 59) (hc : CellsW S n H cs p.cells) (hz : p.sz < 2 ^ 36) :
    WpCall Try.prog (cfgN pls l) 13 [.agg cs] H fun v H' => v = .int .i64 (refCheck p) ∧ Icy S H H' := by
  obtain ⟨us, h1, h2⟩ := hc
  refine WpCall.enX (x := p) (enc := prE) (ok := fun p => p.sz < 2 ^ 36) (out := fun p => .int .i64 (refCheck p)) (us := [.agg us]) (n := n + 1) prE_inj (fun ar => by rw [hl]; rfl) hi prE_ns hz (by omega) ⟨⟨us, h1, rfl⟩, trivial⟩ ?_
  show [AV.agg (us.map (wkN 59))] = _
  rw [h2 59 (by omega)]; rfl
noncomputable def enSwapI : En := ⟨17, true, spP (fun p => p.sz < 2 ^ 36) prE fun p => .agg (swapP p).cells⟩
theorem enSwapI_ok (ρ : Nat → Int) : EnOk Try.prog ρ enSwapI := spP_ok fun p hp => swapped_con ρ p hp
theorem swapX {l : List En} (hl : ∀ ar, lookN l 17 ar = (enW enSwapI).sp ar) (hi : iceN l 17 = true) {S : Nat → Prop} {n : Nat} {H : Hp} {cs : List AV} {p : Pr} (hn : n < 59) (hc : CellsW S n H cs p.cells) (hz : p.sz < 2 ^ 36) :
    WpCall Try.prog (cfgN pls l) 17 [.agg cs] H fun v H' => v = .agg (swapP p).cells ∧ Icy S H H' := by
  obtain ⟨us, h1, h2⟩ := hc
  refine WpCall.enX (x := p) (enc := prE) (ok := fun p => p.sz < 2 ^ 36) (out := fun p => .agg (swapP p).cells) (us := [.agg us]) (n := n + 1) prE_inj (fun ar => by rw [hl]; rfl) hi prE_ns hz (by omega) ⟨⟨us, h1, rfl⟩, trivial⟩ ?_
  show [AV.agg (us.map (wkN 59))] = _
  rw [h2 59 (by omega)]; rfl
theorem RowOwn.icy {S : Nat → Prop} {n z : Nat} {H H' : Hp} {v : AV} {ws : List (List AV)} (h : RowOwn S n H z v ws) (hn : H.next ≤ H'.next) (hf : ∀ k, S k → k < H.next → SameB (H.get k) (H'.get k)) : RowOwn S n H' z v ws := by
  rcases h with h | ⟨q, imm, rows, e, h1, h2, h3, h4, h5⟩
  · exact .inl h
  · rcases hf q h1 h2 with h6 | ⟨cs, i, j, tip, h6, h7, h8⟩
    · exact .inr ⟨q, imm, rows, e, h1, by omega, by rw [← h6]; exact h3, h4, h5.icy hn fun k h6 h7 => hf k h6.1 h7⟩
    · rw [h3] at h6
      simp only [Option.some.injEq, HB.cells.injEq] at h6
      obtain ⟨rfl, rfl, rfl⟩ := h6
      exact .inr ⟨q, j, rows, e, h1, by omega, h7, h8 h4, h5.icy hn fun k h6 h7 => hf k h6.1 h7⟩
theorem swap_pr {p : Pr} : (swapP p).sz = p.sz := swap_sz p
/-- A program's slices, read. -/
theorem MutR.rd {lo P n : Nat} {H : Hp} {va vb : AV} {p : Pr} {R : Nat → Prop} (h : MutR lo P n H va vb p R) : CellsW (fun q => lo ≤ q ∧ q ≠ P ∧ q < H.next) (n + 1) H [va, vb] p.cells := by
  have e : p.cells = [.lst (p.arrays.map Ar.cells), .lst (p.funcs.map Fu.cells)] := by cases p; rfl
  rw [e]
  exact .cons (h.ars.rd.keep2 (fun k h1 h2 => ⟨h2.1, fun e => h.ne (by rw [← e]; exact h2.2), h1⟩) (Nat.le_refl _) fun _ _ _ => rfl) (.cons (h.fns.rd.keep2 (fun k h1 h2 => ⟨h2.1, h2.2.2, h1⟩) (Nat.le_refl _) fun _ _ _ => rfl) .nil)
theorem MutR.one {lo P n : Nat} {H : Hp} {va vb : AV} {p : Pr} {R : Nat → Prop} (h : MutR lo P n H va vb p R) : AV.one va = true ∧ AV.one vb = true := ⟨h.ars.one.1, h.fns.one.1⟩
/-- A function is appended to the program's functions, then the block P is set anew. -/
theorem fns_pushR {lo P n N : Nat} {R : Nat → Prop} {H Hb : Hp} {vb : AV} {fs : List Fu} (h : RowOwn (fun q => lo ≤ q ∧ ¬ R q ∧ q ≠ P) n H 9 vb (fs.map Fu.cells)) (hlo : lo ≤ H.next) (hPl : P < H.next) (hrl : ∀ q, R q → q < H.next) (hn : H.next ≤ Hb.next) (hk : ∀ q, q < H.next → Hb.get q = H.get q) {t : Nat} {row : List AV} {w : Fu} (hg : Hb.get t = some (.cells row 0 true)) (hrow : row.length = 9) (hone : row.all AV.one = true) (hw : CellsW (fun q => H.next ≤ q ∧ q < Hb.next) n Hb row w.cells) (hN : fs.length = N) (hl : N < 2 ^ 30) :
    ∃ H', appendA Try.prog false Hb 23 23 vb (.sl t 0 1 9) = some (.sl Hb.next 0 (N + 1) 9, H') ∧ H'.next = Hb.next + 1 ∧ (∀ q, q < H.next → (q < lo ∨ R q ∨ q = P) → H'.get q = H.get q) ∧
      ∀ H'' : Hp, H''.next = H'.next → (∀ q, q ≠ P → H''.get q = H'.get q) → RowOwn (fun q => lo ≤ q ∧ ¬ R q ∧ q ≠ P) n H'' 9 (.sl Hb.next 0 (N + 1) 9) ((fs ++ [w]).map Fu.cells) := by
  classical
  have h' : RowOwn (fun q => (if lo ≤ q ∧ ¬ R q ∧ q ≠ P then 1 else 0) = 1) n H 9 vb (fs.map Fu.cells) := h.keep (fun q _ hq => if_pos hq) (Nat.le_refl _) fun _ _ _ => rfl
  have hz : ∃ zz, zeroA Try.prog 41 = some zz ∧ zz.length = 9 := ⟨_, zr41, rfl⟩
  obtain ⟨zz, hz, hzz⟩ := hz
  obtain ⟨H', flat, imm', a1, b1, b2, b3, a2, a3, a4⟩ := RowOwn.pushX (P := Try.prog) (t := 23) Try.underlying23 sz41 bt41 hz hzz (by kernel_rfl) h' hn (fun q h4 _ => hk q h4) hg hrow hone (by rw [List.length_map, hN, show maxRoom = 70368744177664 from rfl]; omega) (by rw [List.length_map, hN, show maxRoom = 70368744177664 from rfl]; omega)
  rw [List.length_map, hN] at a1 a4 b1 b2
  refine ⟨H', a1, a2, fun q h1 h2 => ?_, fun H'' h4 h5 => ?_⟩
  · rw [a3 q (by omega) (.inr (by rw [if_neg (fun h => h2.elim (fun h2 => by omega) fun h2 => h2.elim h.2.1 h.2.2)]; decide)), hk q h1]
  · have := a4 H'' P row w.cells (by omega) (fun q h6 _ => h5 q h6) (by rw [if_neg (fun h => h.2.2 rfl)]; decide) hPl (by rw [h5 _ (by omega)]; exact b3) hrow hw
    rw [List.map_append, List.map_cons, List.map_nil]
    refine this.keep (fun q _ hq => ?_) (Nat.le_refl _) fun _ _ _ => rfl
    by_cases hc : H.next ≤ q
    · exact ⟨by omega, fun h => by have := hrl q h; omega, by omega⟩
    · rw [if_neg hc] at hq
      by_cases hd : lo ≤ q ∧ ¬ R q ∧ q ≠ P
      · exact hd
      · rw [if_neg hd] at hq; cases hq
end Go.Proofs.Ytackdnelcpbfjaa
namespace Go.Ab
set_option maxRecDepth 20000
set_option linter.unusedVariables false
set_option linter.unusedSectionVars false
open Go Go.WideShapes Go.Deep Go.RowKit Go.ChangeShapes
/-- All that lies in memory, asx it is. -/
def memF (W : World) : Nat → Nat → Option Value := fun b o => W.cell? ⟨b, o, none⟩
theorem memF_ok (W : World) : ∀ b o v, memF W b o = some v → W.cell? ⟨b, o, none⟩ = some v := fun _ _ _ h => h
section
variable {H : Type} {enc : TypeId × Value → H} {P : Program} {W : World}
/-- A row of numbers. -/
theorem arg_ints {r : Reach} {b0 : Nat} {t e : TypeId} {k : IntKind} {v : Value} {d : DataW H} {ps : List MemPlace} {sp : Nat → Bool} {held : Bool} (ht : P.underlying t = some (.slice e)) (he : P.underlying e = some (.int k)) (hc : P.cellsOf e = 1) (hval : Value.okWide P W r b0 t v) (hd : DataW.Trod enc P W 0 sp held t v d ps) (β : Nat → Option (Nat × Nat × Nat)) (ρ : Nat → Int) :
    ∃ l : List Int, VR ⟨β, memF W, ρ⟩ (.lst (l.map fun n => [AV.int k n])) v ∧ l.length ≤ maxLen := by
  obtain ⟨a0, len0, cap0, rfl⟩ := okWide_slice ht hval
  obtain ⟨fuel, hf⟩ := hd
  rcases open_slice1 ht hc hf with ⟨h, _⟩ | ⟨a, len, cap, m, n, V, D, Pl, h, hb, hl, hm, hmm, hx, hV⟩
  · simp [Value.cells] at h
    obtain ⟨rfl, rfl, rfl⟩ := h
    exact ⟨[], .lst0 _ _, Nat.zero_le _⟩
  · simp [Value.cells] at h
    obtain ⟨rfl, rfl, rfl⟩ := h
    have hlm : len0 ≤ m := by rw [hmm]; split <;> omega
    have hint : ∀ i, ∃ n : Int, i < len0 → V i = .int k n := fun i => by
      by_cases hi : i < len0
      · obtain ⟨n', h1, _⟩ := DataW.trod_int he (hV i (by omega)).2
        simp at h1
        exact ⟨n', fun _ => h1⟩
      · exact ⟨0, fun h => absurd h hi⟩
    obtain ⟨N, hN⟩ := Classical.axiomOfChoice hint
    refine ⟨(List.range len0).map N, ?_, by simp; omega⟩
    by_cases h0 : len0 = 0
    · subst h0; exact .lst0 _ _
    obtain ⟨ab, ao, asp⟩ := a
    have hspot : asp = none := by
      have := (hV 0 (by omega)).1
      simp only [Addr.add, if_true, World.cell?] at this
      split at this
      · split at this
        · cases this
        · rename_i hn
          cases asp with
          | none => rfl
          | some s => simp at hn
      · cases this
    subst hspot
    have hlen : (((List.range len0).map N).map fun n => [AV.int k n]).length = len0 := by simp
    have key := VR.lst (G := ⟨β, memF W, ρ⟩) (xs := ((List.range len0).map N).map fun n => [AV.int k n]) (b := ab) (o := ao) (cap := cap0) (z := 1) (fun i _ => V i) ?_ ?_ ?_ (by rw [hlen]; omega)
    · rw [hlen] at key; exact key
    · intro i row hr
      rw [List.getElem?_map] at hr
      cases hq : ((List.range len0).map N)[i]? with
      | none => rw [hq] at hr; simp at hr
      | some q => rw [hq] at hr; simp only [Option.map_some, Option.some.injEq] at hr; rw [← hr]; rfl
    · intro i j hi hj
      rw [hlen] at hi
      have h2 := (hV i (by omega)).1
      show W.cell? ⟨ab, ao + i * 1 + j, none⟩ = some (V i)
      have hj0 : j = 0 := by omega
      subst hj0
      rw [← h2]
      congr 1
      unfold Addr.add
      split
      · rename_i h; subst h; rfl
      · simp
    · intro i j row c hr hcj
      rw [List.getElem?_map, List.getElem?_map] at hr
      by_cases hi : i < len0
      · rw [List.getElem?_range hi] at hr
        simp only [Option.map_some, Option.some.injEq] at hr
        subst hr
        cases j with
        | zero =>
          simp only [List.getElem?_cons_zero, Option.some.injEq] at hcj
          subst hcj
          show VR _ _ (V i)
          rw [hN i hi]
          exact .int k _
        | succ j => simp at hcj
      · rw [List.getElem?_eq_none (by simp; omega)] at hr
        simp at hr
/-- What was read is read again. -/
theorem arg_stays {t : TypeId} (hl : laidOutB P = true) (hr : P.readableRec t = true) (hrow : t < P.types.size) {W' : World} {v : Value} {d : DataW H} {ps before : List MemPlace}
    (h : DataW.Trod enc P W 0 (fun _ => true) true t v d ps) (hb : Below W.heap.size W W') (hlt : ∀ p ∈ before, p.block < W.heap.size) (hps : ∀ p ∈ ps, p ∈ before) {sp : Nat → Bool} (hsp : ∀ p ∈ before, sp p.block = true) :
    DataW.Trod enc P W' 0 sp true t v d ps :=
  WideElems.Trod_stays hl hr hrow h (fun x hx => hb.same (hlt x (hps x hx))) fun x hx => hsp x (hps x hx)
end
end Go.Ab
namespace Go.Proofs.Ytackdnelcpbfjaa
set_option maxRecDepth 20000
set_option linter.unusedSimpArgs false
set_option linter.unusedVariables false
set_option linter.unusedSectionVars false
set_option linter.defProp false
open Go Go.Ab
def intRows (l : List Int) : AV := .lst (l.map fun n => [.int .i64 n])
theorem intRows_pure (l : List Int) : PureA (intRows l) := .map fun n _ => .cons (.int _ _) .nil
theorem maxLen_lt {n : Nat} (h : n ≤ maxLen) : n < 2 ^ 63 := Nat.lt_of_le_of_lt h (by decide)
theorem cells_int : Try.prog.cellsOf 3 = 1 := by kernel_rfl
set_option maxRecDepth 100000 in
/-- A slice of numbers, an argument of a law. -/
theorem seeds_arg {H : Type} {enc : TypeId × Value → H} {W : World} {v0 : Value} {r : Reach} {b0 : Nat} (k0 : Value.okWide Try.prog W r b0 26 v0) {d : DataW H} {ps : List MemPlace} {sp : Nat → Bool} {held : Bool} (h0 : DataW.Trod enc Try.prog W 0 sp held 26 v0 d ps) : ∃ l : List Int, VR ⟨fun _ => none, memF W, fun _ => 0⟩ (intRows l) v0 ∧ l.length < 2 ^ 63 := by
  obtain ⟨l, hv, hl⟩ := arg_ints Try.underlying26 Try.underlying3 cells_int k0 h0 (fun _ => none) (fun _ => 0)
  exact ⟨l, hv, maxLen_lt hl⟩
end Go.Proofs.Ytackdnelcpbfjaa
