/- From a run to what a call promises: a result without addresses; calls that are known; a law. -/
import Derived.Test.YtlanljjbcpepjaaAbSound
import Derived.Below
import Derived.ChangeSame
namespace Go.Ab
open Go Go.RowKit Go.WideShapes Go.ChangeShapes

theorem H0_get (r : Nat) : H0.get r = none := rfl

theorem R.start {w : World} {G : Gh} {cfg : Cfg} (hf : ∀ b o v, G.F b o = some v → w.cell? ⟨b, o, none⟩ = some v) (hb : ∀ r, G.β r = none) (hD : DecOk cfg.dec G.ρ) : R ⟨w.heap.size, G.ρ, cfg⟩ H0 w G := by
  refine ⟨Nat.le_refl _, ?_, ?_, ?_, ?_, ?_, ?_, ?_, ?_, ?_, hf, rfl, hD, ?_⟩ <;> intros <;> simp_all

theorem iceL_at {g : AV → Option AV} : ∀ {cs ds : List AV}, iceL g cs = some ds → ds.length = cs.length ∧ ∀ (i : Nat) d, ds[i]? = some d → ∃ c, cs[i]? = some c ∧ g c = some d
  | [], ds, h => by
    simp only [iceL, Option.some.injEq] at h
    subst h
    exact ⟨rfl, by simp⟩
  | c :: cs, ds, h => by
    simp only [iceL] at h
    split at h
    · rename_i d ds' h1 h2
      simp only [Option.some.injEq] at h
      subst h
      obtain ⟨h3, h4⟩ := iceL_at h2
      refine ⟨by simp [h3], fun i e he => ?_⟩
      cases i with
      | zero => simp at he; subst he; exact ⟨c, rfl, h1⟩
      | succ i => exact h4 i e (by simpa using he)
    · simp at h

theorem iceLL_at {g : AV → Option AV} : ∀ {cs ds : List (List AV)}, iceLL g cs = some ds → ds.length = cs.length ∧ ∀ (i : Nat) d, ds[i]? = some d → ∃ c, cs[i]? = some c ∧ iceL g c = some d
  | [], ds, h => by
    simp only [iceLL, Option.some.injEq] at h
    subst h
    exact ⟨rfl, by simp⟩
  | c :: cs, ds, h => by
    simp only [iceLL] at h
    split at h
    · rename_i d ds' h1 h2
      simp only [Option.some.injEq] at h
      subst h
      obtain ⟨h3, h4⟩ := iceLL_at h2
      refine ⟨by simp [h3], fun i e he => ?_⟩
      cases i with
      | zero => simp at he; subst he; exact ⟨c, rfl, h1⟩
      | succ i => exact h4 i e (by simpa using he)
    · simp at h

theorem iceV_sound {H : Hp} {G G2 : Gh} {w : World} (hρ : G2.ρ = G.ρ) (hF : ∀ b o v, G.F b o = some v → G2.F b o = some v)
    (hcell : ∀ r b o x cs imm tip, G.β r = some (b, o, x) → H.get r = some (.cells cs imm tip) → Holds G w b o cs ∧ ∀ j v, w.cell? ⟨b, o + j, none⟩ = some v → G2.F b (o + j) = some v) :
    ∀ (n : Nat) (v : AV) (x : Value) (q : AV), VR G v x → iceV H n v = some q → VR G2 q x
  | 0, _, _, _, _, h => by simp [iceV] at h
  | n + 1, v, x, q, hv, h => by
    have hlist : ∀ {cs ds : List AV} {vs : List Value}, VRs G cs vs → iceL (iceV H n) cs = some ds → VRs G2 ds vs := fun {cs ds vs} hvs hi => by
      obtain ⟨h1, h2⟩ := iceL_at hi
      refine ⟨by rw [h1]; exact hvs.1, fun i d u hd hu => ?_⟩
      obtain ⟨c, hc, hcd⟩ := h2 i d hd
      exact iceV_sound hρ hF hcell n c u d (hvs.2 i c u hc hu) hcd
    cases hv with
    | int k a => simp only [iceV, Option.some.injEq] at h; subst h; exact .int _ _
    | sx k e => simp only [iceV, Option.some.injEq] at h; subst h; rw [← hρ]; exact .sx _ _
    | bool b => simp only [iceV, Option.some.injEq] at h; subst h; exact .bool _
    | str s l hs => simp only [iceV, Option.some.injEq] at h; subst h; exact .str _ _ hs
    | nilP => simp only [iceV, Option.some.injEq] at h; subst h; exact .nilP
    | nilM => simp only [iceV, Option.some.injEq] at h; subst h; exact .nilM
    | nilF => simp only [iceV, Option.some.injEq] at h; subst h; exact .nilF
    | nilS => simp only [iceV, Option.some.injEq] at h; subst h; exact .nilS
    | ptr _ => simp [iceV] at h
    | iptr _ _ _ => simp [iceV] at h
    | map _ => simp [iceV] at h
    | clo _ _ => simp [iceV] at h
    | agg hl hvs =>
      simp only [iceV] at h
      split at h
      · rename_i ds hds
        simp only [Option.some.injEq] at h
        subst h
        have := hlist ⟨hl, hvs⟩ hds
        exact .agg this.1 this.2
      · simp at h
    | tup hl hvs =>
      simp only [iceV] at h
      split at h
      · rename_i ds hds
        simp only [Option.some.injEq] at h
        subst h
        have := hlist ⟨hl, hvs⟩ hds
        exact .tup this.1 this.2
      · simp at h
    | lst0 a cap =>
      simp only [iceV, iceLL, Option.some.injEq] at h
      subst h
      exact .lst0 _ _
    | lst vs hz hFx hvx hc =>
      rename_i xs b o cap z
      simp only [iceV] at h
      split at h
      · rename_i ys hys
        simp only [Option.some.injEq] at h
        subst h
        obtain ⟨h1, h2⟩ := iceLL_at hys
        rw [← h1]
        refine .lst vs (z := z) (fun i row hr => ?_) (fun i j hi hj => hF _ _ _ (hFx i j (by rw [← h1]; exact hi) hj)) (fun i j row c hr hcj => ?_) (by rw [h1]; exact hc)
        · obtain ⟨c, hc1, hc2⟩ := h2 i row hr
          rw [(iceL_at hc2).1]
          exact hz i c hc1
        · obtain ⟨c0, hc1, hc2⟩ := h2 i row hr
          obtain ⟨c1, hc3, hc4⟩ := (iceL_at hc2).2 j c hcj
          exact iceV_sound hρ hF hcell n c1 (vs i j) c (hvx i j c0 c1 hc1 hc3) hc4
      · simp at h
    | sl hr hl hcx =>
      rename_i r off len z b o xx cap
      simp only [iceV] at h
      split at h
      · rename_i cs imm tip hg
        split at h
        · rename_i l hil
          split at h
          · rename_i hlen
            simp only [Option.some.injEq] at h
            subst h
            obtain ⟨hh, hnew⟩ := hcell r b o xx cs imm tip hr hg
            obtain ⟨h1, h2⟩ := iceL_at hil
            have hcellat : ∀ (m : Nat) c, l[m]? = some c → ∃ v, w.cell? ⟨b, o + off + m, none⟩ = some v ∧ VR G2 c v := fun m c hm => by
              obtain ⟨c0, hc0, hc1⟩ := h2 m c hm
              rw [List.getElem?_take] at hc0
              split at hc0
              · rw [List.getElem?_drop] at hc0
                obtain ⟨v, hv1, hv2⟩ := hh _ _ hc0
                exact ⟨v, by rw [Nat.add_assoc]; exact hv1, iceV_sound hρ hF hcell n c0 v c hv2 hc1⟩
              · simp at hc0
            have hlc := chunk_len z len l
            have hin : ∀ i j, i < len → j < z → i * z + j < l.length := fun i j hi hj => by
              rw [hlen]
              calc i * z + j < i * z + z := by omega
                _ = (i + 1) * z := by rw [Nat.add_mul, Nat.one_mul]
                _ ≤ len * z := Nat.mul_le_mul_right _ hi
            have key : VR G2 (.lst (chunk z len l)) (.slice (some ⟨b, o + off, none⟩) (chunk z len l).length cap) := by
              refine .lst (fun i j => (w.cell? ⟨b, o + off + (i * z + j), none⟩).getD undef) (z := z) (fun i row hrow => (chunk_at z len l i row hlen hrow).1) (fun i j hi hj => ?_) (fun i j row c hrow hcj => ?_) (by rw [hlc]; exact hl)
              · rw [hlc] at hi
                have hm := hin i j hi hj
                obtain ⟨v, hv1, _⟩ := hcellat (i * z + j) _ (List.getElem?_eq_getElem hm)
                rw [hv1]
                have := hnew (off + (i * z + j)) v (by rw [← Nat.add_assoc]; exact hv1)
                rw [show o + off + i * z + j = o + (off + (i * z + j)) by omega]
                exact this
              · have hm := (chunk_at z len l i row hlen hrow).2 j c hcj
                obtain ⟨v, hv1, hv2⟩ := hcellat (i * z + j) c hm
                rw [hv1]
                exact hv2
            rw [hlc] at key
            exact key
          · simp at h
        · simp at h
      · simp at h

theorem pure_sound (w : World) {G G2 : Gh} (hρ : G2.ρ = G.ρ) (hF : ∀ b o v, G.F b o = some v → G2.F b o = some v) {m : Nat} {args : List AV} (h : pureArgs m args = true) {vs : List Value} (hv : VRs G args vs) : VRs G2 args vs := by
  unfold pureArgs at h
  split at h
  · rename_i as has
    have := AV.beqs_eq h
    subst this
    obtain ⟨h1, h2⟩ := iceL_at has
    refine ⟨hv.1, fun i c v hc hvi => ?_⟩
    obtain ⟨c0, hc0, hc1⟩ := h2 i c hc
    rw [hc] at hc0
    simp only [Option.some.injEq] at hc0
    subst hc0
    exact iceV_sound (H := H0) (w := w) hρ hF (fun r b o x cs imm tip _ hg => by simp [H0_get] at hg) m c v c (hv.2 i c v hc hvi) hc1
  · simp at h

theorem stepCall_body {P : Program} {ih : Task → Res} {f : FuncId} {args : List AV} {H H' : Hp} {r : AV} (h : stepCall P ih f args H = .val r H') : ∃ fn, P.funcs[f]? = some fn ∧ fn.body.isSome = true := by
  unfold stepCall at h
  split at h
  · rename_i fn hfn
    split at h
    · rename_i c hb
      exact ⟨fn, hfn, by simp [hb]⟩
    · simp at h
  · simp at h

theorem ev_body {P : Program} {cfg : Cfg} {ρ : Nat → Int} (hc : ∀ f args r, cfg.call f args = some r → Con P ρ f args r) {n : Nat} {f : FuncId} {args : List AV} {H H' : Hp} {r : AV} (h : ev P cfg n (.call f args H) = .val r H') :
    ∃ fn, P.funcs[f]? = some fn ∧ fn.body.isSome = true := by
  cases n with
  | zero => simp [ev] at h
  | succ n =>
    have he : ev P cfg (n + 1) = step P cfg (ev P cfg n) := rfl
    rw [he] at h
    simp only [step] at h
    split at h
    · rename_i r' hr
      exact (hc f args r' hr).1
    · have hany : ∀ {r : AV} {H' : Hp}, stepAny P cfg (ev P cfg n) f args H = .val r H' → ∃ fn, P.funcs[f]? = some fn ∧ fn.body.isSome = true := fun {r H'} h => by
        unfold stepAny at h
        split at h
        · unfold stepIced at h
          split at h
          · split at h
            · rename_i hr
              exact (hc _ _ _ hr).1
            · exact stepCall_body h
          · exact stepCall_body h
        · exact stepCall_body h
      unfold freeze at h
      split at h
      · rename_i hv
        exact hany hv
      · exact hany h

/-- WHAT A RUN SHOWS OF A CALL. -/
theorem Con.of_ev {P : Program} (fit : Fit P) {cfg : Cfg} {ρ : Nat → Int} (hD : DecOk cfg.dec ρ) (hc : ∀ f args r, cfg.call f args = some r → Con P ρ f args r) {n m k : Nat} {f : FuncId} {args : List AV} {r : AV}
    (hp : pureArgs k args = true) (h : boxed P cfg n m f args = some r) : Con P ρ f args r := by
  unfold boxed at h
  split at h
  · rename_i v0 H' hev
    refine ⟨ev_body hc hev, fun G w vs hρ hf hv => ?_⟩
    subst hρ
    have hv0 : VRs { G with β := fun _ => none } args vs := pure_sound w (G := G) (G2 := { G with β := fun _ => none }) rfl (fun _ _ _ h => h) hp hv
    have hr0 : R ⟨w.heap.size, G.ρ, cfg⟩ H0 w { G with β := fun _ => none } := R.start (G := { G with β := fun _ => none }) hf (fun _ => rfl) hD
    refine ((ev_sound (B := ⟨w.heap.size, G.ρ, cfg⟩) fit hc n).call f args H0 _ H' hev _ w vs hr0 hv0).2.mono fun e w' hh => ?_
    obtain ⟨x, G', rfl, hx, hs⟩ := hh
    have hbelow : Below w.heap.size w w' := ⟨hs.fr.os, hs.fr.tape, hs.fr.output, hs.fr.size, fun k hk => hs.fr.block k hk (fun r b o x hr => by simp at hr)⟩
    refine ⟨x, fun b o => if b < w.heap.size then G.F b o else w'.cell? ⟨b, o, none⟩, rfl, ?_, hbelow, fun b o v hv => ?_, fun b o v hv => ?_, fun b o v hv => ?_⟩
    · refine iceV_sound (G := G') (w := w') (H := H') ?_ (fun b o v hv => ?_) (fun r b o x cs imm tip hr hg => ?_) m v0 x r hx h
      · exact hs.ext.ρ.symm
      · rcases hs.icy b o v hv with h1 | h1
        · show (if b < w.heap.size then G.F b o else w'.cell? ⟨b, o, none⟩) = some v
          rw [if_pos (cell_lt (hf b o v h1))]
          exact h1
        · show (if b < w.heap.size then G.F b o else w'.cell? ⟨b, o, none⟩) = some v
          rw [if_neg (by have : w.heap.size ≤ b := h1; omega)]
          exact hs.r.frz b o v hv
      · refine ⟨hs.r.cells r b o x cs imm tip hr hg, fun j v hj => ?_⟩
        have h1 : w.heap.size ≤ b := (hs.r.lt r b o x hr).1
        show (if b < w.heap.size then G.F b (o + j) else w'.cell? ⟨b, o + j, none⟩) = some v
        rw [if_neg (by omega)]
        exact hj
    · rw [if_pos (cell_lt (hf b o v hv))]; exact hv
    · split at hv
      · exact .inl hv
      · exact .inr (by omega)
    · split at hv
      · rename_i hb
        rw [(below_cell hbelow hb).1]; exact hf b o v hv
      · exact hv
  · simp at h

theorem Con.walk {P : Program} {ρ : Nat → Int} {f : FuncId} {args : List AV} {b : Bool} (h : Con P ρ f args (.bool b)) {vs : List Value} {w : World} {F : Nat → Nat → Option Value}
    (hF : ∀ b o v, F b o = some v → w.cell? ⟨b, o, none⟩ = some v) (hv : VRs ⟨fun _ => none, F, ρ⟩ args vs) :
    Calls P f vs.toArray w (fun e w' => e = .returned (.bool b) ∧ Below w.heap.size w w') := by
  refine (h.2 ⟨fun _ => none, F, ρ⟩ w vs rfl hF hv).mono fun e w' hh => ?_
  obtain ⟨v, F', rfl, hr, hg⟩ := hh
  cases hr
  exact ⟨rfl, hg.below⟩

def Res.isTrue : Res → Bool
  | .val (.bool true) _ => true
  | _ => false

theorem Con.of_true {P : Program} (fit : Fit P) {cfg : Cfg} {ρ : Nat → Int} (hD : DecOk cfg.dec ρ) (hc : ∀ f args r, cfg.call f args = some r → Con P ρ f args r) {n k : Nat} {f : FuncId} {args : List AV}
    (hp : pureArgs k args = true) (h : Res.isTrue (ev P cfg n (.call f args H0)) = true) : Con P ρ f args (.bool true) := by
  refine Con.of_ev fit hD hc (n := n) (m := 1) hp ?_
  unfold boxed
  unfold Res.isTrue at h
  split at h
  · rename_i H he
    rw [he]; rfl
  · simp at h

theorem Con.of_box {P : Program} (fit : Fit P) {cfg : Cfg} {ρ : Nat → Int} (hD : DecOk cfg.dec ρ) (hc : ∀ f args r, cfg.call f args = some r → Con P ρ f args r) {n m k : Nat} {f : FuncId} {args : List AV} {r : AV}
    (hp : pureArgs k args = true) (h : isBox P cfg n m f args r = true) : Con P ρ f args r := by
  unfold isBox at h
  split at h
  · rename_i q hq
    rw [← AV.beq_eq h]
    exact Con.of_ev fit hD hc hp hq
  · simp at h

theorem noDec (ρ : Nat → Int) : DecOk (fun _ _ _ => none) ρ := fun _ _ _ _ _ h => by simp at h

def KOk (P : Program) (ρ : Nat → Int) : List (FuncId × List AV × AV) → Prop
  | [] => True
  | p :: l => Con P ρ p.1 p.2.1 p.2.2 ∧ KOk P ρ l

theorem lookK_ok {P : Program} {ρ : Nat → Int} : ∀ {l : List (FuncId × List AV × AV)}, KOk P ρ l → ∀ f args r, lookK l f args = some r → Con P ρ f args r
  | [], _, _, _, _, h => by simp [lookK] at h
  | p :: l, hk, f, args, r, h => by
    simp only [lookK] at h
    split at h
    · rename_i hf
      split at h
      · rename_i ha
        simp only [Option.some.injEq] at h
        subst h
        rw [← Nat.eq_of_beq_eq_true hf, ← AV.beqs_eq ha]
        exact hk.1
      · exact lookK_ok hk.2 f args r h
    · exact lookK_ok hk.2 f args r h

theorem Con.known {P : Program} (fit : Fit P) {ρ : Nat → Int} {l : List (FuncId × List AV × AV)} (hl : KOk P ρ l) {n m k : Nat} {f : FuncId} {args : List AV} {r : AV}
    (hp : pureArgs k args = true) (h : isBox P (cfgK l) n m f args r = true) : Con P ρ f args r := Con.of_box fit (noDec ρ) (lookK_ok hl) hp h

/-- A list of plans, looked up. -/
def planK : List (Nat × Nat × Plan) → FuncId → Nat → Plan
  | [], _, _ => .text
  | p :: l, f, id => match Nat.beq p.1 f with
    | true => match Nat.beq p.2.1 id with
      | true => p.2.2
      | false => planK l f id
    | false => planK l f id

def cfgP (pls : List (Nat × Nat × Plan)) (l : List (FuncId × List AV × AV)) : Cfg := { keep := fun _ => false, call := lookK l, ice := fun f => l.any fun p => Nat.beq p.1 f, plan := planK pls }

theorem Con.knownP {P : Program} (fit : Fit P) {ρ : Nat → Int} {pls : List (Nat × Nat × Plan)} {l : List (FuncId × List AV × AV)} (hl : KOk P ρ l) {n m k : Nat} {f : FuncId} {args : List AV} {r : AV}
    (hp : pureArgs k args = true) (h : isBox P (cfgP pls l) n m f args r = true) : Con P ρ f args r := Con.of_box fit (noDec ρ) (lookK_ok hl) hp h

def cfg0 : Cfg := { keep := fun _ => false }
theorem cfg0_call {P : Program} {ρ : Nat → Int} : ∀ f args r, cfg0.call f args = some r → Con P ρ f args r := fun _ _ _ h => by simp [cfg0] at h

def fitB (P : Program) : Bool := P.funcs.all (fun fn => !(fn.body.isSome && fn.name == "runtime.NumGoroutine")) && P.follows .mixedOrders

theorem Fit.of {P : Program} (h : fitB P = true) : Fit P := by
  simp only [fitB, Bool.and_eq_true] at h
  refine ⟨fun f fn hf hb => ?_, h.2⟩
  have h1 := h.1
  rw [Array.all_eq_true_iff_forall_mem] at h1
  have := h1 fn (by exact Array.mem_of_getElem? hf)
  simpa [hb] using this

theorem closedK {P : Program} (fit : Fit P) {l : List (FuncId × List AV × AV)} (hl : KOk P (fun _ => 0) l) {n f : Nat} (h : Res.isTrue (ev P (cfgK l) n (.call f [] H0)) = true) {w : World} :
    Calls P f #[] w (fun e w' => e = .returned (.bool true) ∧ Below w.heap.size w w') :=
  Con.walk (ρ := fun _ => 0) (F := fun _ _ => none) (Con.of_true fit (noDec _) (lookK_ok hl) (k := 1) rfl h) (fun _ _ _ h => by simp at h) (VRs.nil _)

theorem closedP {P : Program} (fit : Fit P) {pls : List (Nat × Nat × Plan)} {l : List (FuncId × List AV × AV)} (hl : KOk P (fun _ => 0) l) {n f : Nat} (h : Res.isTrue (ev P (cfgP pls l) n (.call f [] H0)) = true) {w : World} :
    Calls P f #[] w (fun e w' => e = .returned (.bool true) ∧ Below w.heap.size w w') :=
  Con.walk (ρ := fun _ => 0) (F := fun _ _ => none) (Con.of_true fit (noDec _) (lookK_ok hl) (k := 1) rfl h) (fun _ _ _ h => by simp at h) (VRs.nil _)

theorem closed {P : Program} (fit : Fit P) {n f : Nat} (h : Res.isTrue (ev P cfg0 n (.call f [] H0)) = true) {w : World} :
    Calls P f #[] w (fun e w' => e = .returned (.bool true) ∧ Below w.heap.size w w') :=
  Con.walk (ρ := fun _ => 0) (F := fun _ _ => none) (Con.of_true fit (noDec _) cfg0_call (k := 1) rfl h) (fun _ _ _ h => by simp at h) (VRs.nil _)

section
variable {H : Type} {enc : TypeId × Value → H} {P : Program}
theorem post_of_below {f : Func} {s : ChangeSpec} {apart fresh handsOn again : Bool} {W W' : World} {args : Array Value} {v : Value} {ds gs : List (DataW H)} {before pa pv : List MemPlace}
    (hW : DataW.Whole enc P f.params.toList s.vars apart W args.toList ds gs before)
    (hres : ∀ (b : Nat) (sp : Nat → Bool) (hd : Bool), DataW.TrodAll enc P W' b sp hd f.resultTypes.toList (v.resultList f.resultTypes.size) (s.fn H (ds ++ gs)).results [])
    (hargs : ∀ sp : Nat → Bool, (∀ p ∈ before, sp p.block = true) → DataW.TrodAll enc P W' 0 sp true f.params.toList args.toList (s.fn H (ds ++ gs)).args pa)
    (hvars : ∀ sp : Nat → Bool, (∀ p ∈ before, sp p.block = true) → DataW.TrodVars enc P W' sp s.vars (s.fn H (ds ++ gs)).vars pv)
    (hps : before = pa ++ pv) (hb : Below W.heap.size W W')
    (hok : ∀ (j : Nat) (t : TypeId) (r : Value), f.resultTypes[j]? = some t → (v.resultList f.resultTypes.size)[j]? = some r → Value.okWide P W' .any 0 t r) :
    s.post enc P f apart fresh handsOn again W args v W' := by
  have hlt : ∀ p ∈ before, p.block < W.heap.size := fun p hp => hW.lt p hp
  have hold : ∀ p ∈ before, (fun b => decide (b < W.heap.size)) p.block = true := fun p hp => by simpa using hlt p hp
  refine ⟨ds, gs, before, [], pa, pv, hW, hres _ _ _, hargs _ hold, hvars _ hold, World.keptBut_mono (fun p hp => ⟨hp, ?_⟩) (hb.frame (· ∈ before)), fun _ => ?_⟩
  · rw [hps, List.mem_append] at hp
    exact Or.inr hp
  · obtain ⟨_, _, _, _, _, hz, hn⟩ := hW
    refine ⟨hok, _, _, ([] ++ pa) ++ pv, ⟨[] ++ pa, pv, trodAll_append (hargs _ (fun _ _ => rfl)) (hres _ _ _), hvars _ (fun _ _ => rfl), rfl, ?_, ?_⟩, ?_⟩
    · intro b off hp
      have hin : MemPlace.cell b off ∈ before := by rw [hps]; simpa using hp
      rw [hb.frozen (hlt _ hin)]
      exact hz b off hin
    · intro ha
      have := hn ha
      rw [hps] at this
      simpa using this
    · intro p hp _
      rw [hps]
      simpa using hp
end
end Go.Ab
