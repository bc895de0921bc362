/- A law without arguments in memory: where the evaluator says true, the program returns true, and leaves all that was there before as it was. -/
import Derived.Test.YtjogacjoakonpaaAbSound
import Derived.Below
import Derived.ChangeSame
namespace Go.Ab
open Go Go.RowKit Go.WideShapes Go.ChangeShapes

/-- No block yet; what lies in memory never changes. -/
def Gh.of (w : World) : Gh := ⟨fun _ => none, fun b o => w.cell? ⟨b, o, none⟩⟩
def H0 : Hp := { next := 0, t := .e }

theorem R.start (w : World) : R w.heap.size H0 w (Gh.of w) := by
  refine ⟨Nat.le_refl _, ?_, ?_, ?_, ?_, ?_, ?_, ?_, ?_, ?_, fun b o v h => h⟩ <;> intros <;> simp_all [Gh.of]

theorem Fr.below {w w' : World} (h : Fr (Gh.of w) w w') : Below w.heap.size w w' :=
  ⟨h.os, h.tape, h.output, h.size, fun k hk => h.block k hk (fun r b o x hr => by simp [Gh.of] at hr)⟩

def Res.isTrue : Res → Bool
  | .val (.bool true) _ => true
  | _ => false

theorem Res.of_isTrue : ∀ {r : Res}, Res.isTrue r = true → ∃ H, r = .val (.bool true) H
  | .val (.bool true) H, _ => ⟨H, rfl⟩

def fitB (P : Program) : Bool := P.funcs.all (fun fn => !(fn.body.isSome && fn.name == "runtime.NumGoroutine")) && P.follows .mixedOrders

theorem Fit.of {P : Program} (h : fitB P = true) : Fit P := by
  simp only [fitB, Bool.and_eq_true] at h
  refine ⟨fun f fn hf hb => ?_, h.2⟩
  have h1 := h.1
  rw [Array.all_eq_true_iff_forall_mem] at h1
  have := h1 fn (by exact Array.mem_of_getElem? hf)
  simpa [hb] using this

theorem closed {P : Program} (fit : Fit P) {cfg : Cfg} {n f : Nat} {args : List AV} (h : Res.isTrue (ev P cfg n (.call f args H0)) = true)
    {vs : List Value} {w : World} (hv : VRs (Gh.of w) args vs) :
    Calls P f vs.toArray w (fun e w' => e = .returned (.bool true) ∧ Below w.heap.size w w') := by
  obtain ⟨H', he⟩ := Res.of_isTrue h
  refine ((ev_sound (B := w.heap.size) fit n).call f args H0 _ H' he (Gh.of w) w vs (R.start w) hv).2.mono fun e w' hh => ?_
  obtain ⟨v, G', rfl, hr, hs⟩ := hh
  cases hr
  exact ⟨rfl, hs.fr.below⟩

section
variable {H : Type} {enc : TypeId × Value → H} {P : Program}
theorem post_of_below {f : Func} {s : ChangeSpec} {apart fresh handsOn again : Bool} {W W' : World} {args : Array Value} {v : Value} {ds gs : List (DataW H)} {before pa pv : List MemPlace}
    (hW : DataW.Whole enc P f.params.toList s.vars apart W args.toList ds gs before)
    (hres : ∀ (b : Nat) (sp : Nat → Bool) (hd : Bool), DataW.TrodAll enc P W' b sp hd f.resultTypes.toList (v.resultList f.resultTypes.size) (s.fn H (ds ++ gs)).results [])
    (hargs : ∀ sp : Nat → Bool, (∀ p ∈ before, sp p.block = true) → DataW.TrodAll enc P W' 0 sp true f.params.toList args.toList (s.fn H (ds ++ gs)).args pa)
    (hvars : ∀ sp : Nat → Bool, (∀ p ∈ before, sp p.block = true) → DataW.TrodVars enc P W' sp s.vars (s.fn H (ds ++ gs)).vars pv)
    (hps : before = pa ++ pv) (hb : Below W.heap.size W W')
    (hok : ∀ (j : Nat) (t : TypeId) (r : Value), f.resultTypes[j]? = some t → (v.resultList f.resultTypes.size)[j]? = some r → Value.okWide P W' .any 0 t r) :
    s.post enc P f apart fresh handsOn again W args v W' := by
  have hlt : ∀ p ∈ before, p.block < W.heap.size := fun p hp => hW.lt p hp
  have hold : ∀ p ∈ before, (fun b => decide (b < W.heap.size)) p.block = true := fun p hp => by simpa using hlt p hp
  refine ⟨ds, gs, before, [], pa, pv, hW, hres _ _ _, hargs _ hold, hvars _ hold, World.keptBut_mono (fun p hp => ⟨hp, ?_⟩) (hb.frame (· ∈ before)), fun _ => ?_⟩
  · rw [hps, List.mem_append] at hp
    exact Or.inr hp
  · obtain ⟨_, _, _, _, _, hz, hn⟩ := hW
    refine ⟨hok, _, _, ([] ++ pa) ++ pv, ⟨[] ++ pa, pv, trodAll_append (hargs _ (fun _ _ => rfl)) (hres _ _ _), hvars _ (fun _ _ => rfl), rfl, ?_, ?_⟩, ?_⟩
    · intro b off hp
      have hin : MemPlace.cell b off ∈ before := by rw [hps]; simpa using hp
      rw [hb.frozen (hlt _ hin)]
      exact hz b off hin
    · intro ha
      have := hn ha
      rw [hps] at this
      simpa using this
    · intro p hp _
      rw [hps]
      simpa using hp
end
end Go.Ab
