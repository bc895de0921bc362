/- The evaluator is sound: what it computes, every run of the model computes. -/
import Derived.Test.YtlanljjbcpepjaaAbOp
namespace Go.Ab
open Go Go.RowKit

def exitOf : AX → Exit
  | .normal => .normal
  | .exit id => .exit id
  | .ret => .ret

def Post (B : Bs) (N nx : Nat) (G : Gh) (w : World) (x : AX) (E' : Env) (H' : Hp) : Exit → Act → World → Prop := fun e a' w' =>
  e = exitOf x ∧ ∃ G', TR N G' E' a' ∧ Step B nx G w H' w' G' ∧ a'.defers = []

/-- What is asked of the program: no function with a body bears the one name that the model treats by itself; regions that draw their order do so in every mode. -/
structure Fit (P : Program) : Prop where
  name : ∀ (f : FuncId) (fn : Func), P.funcs[f]? = some fn → fn.body.isSome = true → (fn.name == "runtime.NumGoroutine") = false
  mixed : P.follows .mixedOrders = true

structure Snd (P : Program) (B : Bs) (n : Nat) (ih : Task → Res) : Prop where
  call : ∀ f args H r H', ih (.call f args H) = .val r H' → ∀ G w vs, R B H w G → VRs G args vs →
    (∃ fn, P.funcs[f]? = some fn ∧ fn.body.isSome = true) ∧ Calls P f vs.toArray w (fun e w' => ∃ v G', e = .returned v ∧ VR G' r v ∧ Step B H.next G w H' w' G')
  code : ∀ f N c E H x E' H', ih (.code f N c E H) = .done x E' H' → ∀ G w a, R B H w G → TR N G E a → a.defers = [] → Code.wp P c (Post B N H.next G w x E' H') a w
  loop : ∀ f N c E H x E' H', ih (.code f N (.loop c) E H) = .done x E' H' → ∀ G w a, R B H w G → TR N G E a → a.defers = [] → Code.rounds P c (Post B N H.next G w x E' H') n a w

theorem rounds_mono {P : Program} {c : Code} {Q Q' : Exit → Act → World → Prop} (h : ∀ e a w, Q e a w → Q' e a w) : ∀ {n : Nat} {a : Act} {w : World}, Code.rounds P c Q n a w → Code.rounds P c Q' n a w
  | 0, _, _, hr => hr
  | n + 1, _, _, hr => by
    rw [rounds_succ] at *
    exact Code.wp_mono (fun e a w he => by
      cases e with
      | normal => exact rounds_mono h he
      | _ => exact h _ _ _ he) hr

theorem Post.trans {B : Bs} {N nx : Nat} {G G' : Gh} {w w' : World} {H' H'' : Hp} {x : AX} {E'' : Env} (hs : Step B nx G w H' w' G') {e : Exit} {a : Act} {w'' : World} (h : Post B N H'.next G' w' x E'' H'' e a w'') : Post B N nx G w x E'' H'' e a w'' := by
  obtain ⟨he, G2, h1, h2, h3⟩ := h
  exact ⟨he, G2, h1, hs.trans h2, h3⟩

section
variable {P : Program} {B : Bs} {G : Gh} {H H' : Hp} {w : World}

theorem aeval_rel {N : Nat} {E : Env} {a : Act} (h : TR N G E a) {x : Operand} {c : AV} (hc : aeval E x = some c) : VR G c (a.eval x) := by
  cases x with
  | tmp t => simp only [aeval, Option.some.injEq] at hc; subst hc; exact h.slots t
  | const v => exact vToA_rel hc
  | global g => simp [aeval] at hc
  | func f => simp only [aeval, Option.some.injEq] at hc; subst hc; exact .clo (vs := []) rfl (by simp)

theorem TR.knows {N : Nat} {E : Env} {a : Act} (h : TR N G E a) (xs : Array Operand) : Knows G E a xs := fun _ _ _ hc => aeval_rel h hc

/-- A slot's Bool. -/
theorem slot_bool {E : Env} {a : Act} {d : Nat} (h : VR G (E.at d) (a.tmps.getD d undef)) : (match E.at d with | .bool b => some b | _ => none) = (match a.tmps[d]? with | some (.bool b) => some b | _ => none) := by
  rw [Array.getD_eq_getD_getElem?] at h
  cases hd : a.tmps[d]? with
  | none =>
    rw [hd] at h
    simp only [Option.getD_none, undef] at h
    generalize E.at d = c at h
    cases h
    rfl
  | some v =>
    rw [hd] at h
    simp only [Option.getD_some] at h
    generalize E.at d = c at h
    cases h <;> rfl

theorem yielded_rel {E : Env} {a : Act} {ops : Array Oper} {j : Nat} (h : ∀ d, (ops[j]?).bind (·.dst) = some d → VR G (E.at d) (a.tmps.getD d undef)) : yieldedA ops.toList E j = yielded ops a.tmps j := by
  unfold yieldedA yielded
  rw [Array.getElem?_toList]
  cases hd : (ops[j]?).bind (·.dst) with
  | none => rfl
  | some d => exact slot_bool (h d hd)

theorem wanted_rel {E : Env} {a : Act} {ops : Array Oper} {o : Oper} (h : ∀ j b d, o.guard = some (j, b) → (ops[j]?).bind (·.dst) = some d → VR G (E.at d) (a.tmps.getD d undef)) : wantedA ops.toList E o = Region.wanted o (yielded ops a.tmps) := by
  unfold wantedA Region.wanted
  cases hg : o.guard with
  | none => rfl
  | some p =>
    obtain ⟨j, b⟩ := p
    simp only []
    rw [yielded_rel (fun d hd => h j b d hg hd)]
    cases yielded ops a.tmps j with
    | none => rfl
    | some b' => cases b <;> cases b' <;> rfl

/-- One operation, a call or not: whatever comes of it goes on to 'K'. -/
theorem oper_sim (fit : Fit P) {n : Nat} {ih : Task → Res} (hih : Snd P B n ih) {f : FuncId} {E : Env} {a : Act} {o : Oper} {c : AV} (h : R B H w G) (hE : Knows G E a o.op.operands) (hop : operA P B.cfg ih f E H o.op = .val c H')
    {K : Act → World → Prop} {Q : Exit → Act → World → Prop} (hK : ∀ v w' G', VR G' c v → Step B H.next G w H' w' G' → K (a.put o.dst v) w') : o.wp P a w K Q := by
  have hsim : ∀ s : Sem Next, Sim P B H G w s c H' → execOp a.eval o = s → o.wp P a w K Q := fun s hs he => by
    obtain ⟨m, w', G', v, h1, h2, h3, h4⟩ := hs
    unfold Oper.wp
    rw [he, h1]
    rcases h2 with rfl | ⟨rfl, rfl⟩
    · exact hK v w' G' h3 h4
    · exact hK undef w' G' h3 h4
  unfold operA at hop
  split at hop
  · rename_i cl hcl
    unfold callA at hop
    split at hop
    · rename_i g hg
      split at hop
      · rename_i k cap vs hgv hvs
        have hE' : Knows G E a cl.operands := by rw [hcl] at hE; exact hE
        have hgr := hE' g (by simp [Call.operands, hg]) _ hgv
        have hargs := evals_sim (G := G) (a := a) (fun x hx => hE' x (by simp [Call.operands, hg]; exact .inr (by simpa using hx))) hvs
        generalize hge : a.eval g = gv at hgr
        cases hgr with
        | clo hl hv =>
          rename_i capvs
          have hall := hargs.append (G := G) ⟨hl, hv⟩
          obtain ⟨⟨fn, hfn, hbody⟩, hcalls⟩ := hih.call _ _ _ _ _ hop G w _ h hall
          have hname := fit.name _ _ hfn hbody
          unfold Oper.wp
          have hrun : (execOp a.eval o).run P w = .ok (.enter k ((cl.args.toList.map a.eval) ++ capvs).toArray) w := by
            have hargs' : cl.args.map a.eval = (cl.args.toList.map a.eval).toArray := by apply Array.ext'; simp
            unfold execOp
            rw [hcl]
            simp only [Sem.run_bind, resolve, hg, hge, Deferred.ofValue, Sem.run_pure, Result.andThen_ok, invoke, callFunc, run_program, hfn, hname]
            simp only [Bool.false_eq_true, if_false]
            have hb : fn.body.isNone = false := by cases hb : fn.body <;> simp_all
            rw [hb]
            simp [hargs']
          rw [hrun]
          show Calls P k _ w _
          refine hcalls.mono fun e w' hr => ?_
          obtain ⟨v, G', rfl, h1, h2⟩ := hr
          exact hK v w' G' h1 h2
      · simp at hop
    · rename_i b hg
      split at hop
      · rename_i vs hvs
        split at hop
        · rename_i v H1 hb
          simp only [Res.val.injEq] at hop
          obtain ⟨rfl, rfl⟩ := hop
          have hE' : Knows G E a cl.operands := by rw [hcl] at hE; exact hE
          have hargs := evals_sim (G := G) (a := a) (fun x hx => hE' x (by simp [Call.operands, hg]; simpa using hx)) hvs
          have hs := builtin_sim (ty := o.type) (consts := cl.args.map fun | .const _ => true | _ => false) h hargs hb
          refine hsim _ hs ?_
          have hargs' : cl.args.map a.eval = (cl.args.toList.map a.eval).toArray := by apply Array.ext'; simp
          unfold execOp
          rw [hcl]
          simp only [resolve, hg, hargs']
          rfl
        · simp at hop
      · simp at hop
    · simp at hop
  · rename_i op hne
    unfold resOf at hop
    split at hop
    · rename_i v H1 ho
      simp only [Res.val.injEq] at hop
      obtain ⟨rfl, rfl⟩ := hop
      exact hsim _ (opA_sim h hE ho) rfl
    · simp at hop

/-- A region in the order of the text. -/
theorem runOps_sim (fit : Fit P) {n : Nat} {ih : Task → Res} (hih : Snd P B n ih) {f N : Nat} {ops : Array Oper} : ∀ (l : List Oper) {E E' : Env} {H : Hp} {x : AX} {a : Act} {w : World} {G : Gh} {Q : Exit → Act → World → Prop}, runOps P B.cfg ih f N ops.toList l E H = .done x E' H' →
    R B H w G → TR N G E a → a.defers = [] → (∀ e a' w', Post B N H.next G w x E' H' e a' w' → Q e a' w') → wpList P ops Q l a w
  | [], E, E', H, x, a, w, G, Q, hr, h, ht, hd, hQ => by
    simp only [runOps, Res.done.injEq] at hr
    obtain ⟨rfl, rfl, rfl⟩ := hr
    exact hQ _ _ _ ⟨rfl, G, ht, Step.refl h, hd⟩
  | o :: l, E, E', H, x, a, w, G, Q, hr, h, ht, hd, hQ => by
    have hrec : ∀ E H, (List.rec (motive := fun _ => Env → Hp → Res) (fun E H => .done .normal E H)
      (fun o _ go E H => match wantedA ops.toList E o with
        | true => match operA P B.cfg ih f E H o.op with
          | .val v H => afterPut go H (putA N E o.dst v)
          | _ => .fail
        | false => afterPut go H (putA N E o.dst undefA)) l E H : Res) = runOps P B.cfg ih f N ops.toList l E H := fun _ _ => rfl
    have hstep : runOps P B.cfg ih f N ops.toList (o :: l) E H = match wantedA ops.toList E o with
        | true => match operA P B.cfg ih f E H o.op with
          | .val v H => afterPut (runOps P B.cfg ih f N ops.toList l) H (putA N E o.dst v)
          | _ => .fail
        | false => afterPut (runOps P B.cfg ih f N ops.toList l) H (putA N E o.dst undefA) := rfl
    rw [hstep] at hr
    have hw := wanted_rel (G := G) (E := E) (a := a) (ops := ops) (o := o) (fun _ _ d _ _ => ht.slots d)
    have hdput : ∀ dst v, (a.put dst v).defers = [] := fun dst v => by cases dst <;> exact hd
    cases hwa : wantedA ops.toList E o with
    | true =>
      rw [hwa] at hr hw
      simp only [] at hr
      split at hr
      · rename_i v H1 hop
        cases hp : putA N E o.dst v with
        | none => rw [hp] at hr; simp [afterPut] at hr
        | some E1 =>
          rw [hp] at hr
          simp only [afterPut] at hr
          unfold wpList
          rw [if_pos hw.symm]
          refine .inl (oper_sim fit hih h (ht.knows _) hop fun v' w' G' hv hst => ?_)
          have ht' : TR N G' E1 (a.put o.dst v') := (ht.mono hst.ext).put hv hp
          exact runOps_sim fit hih l hr hst.r ht' (hdput _ _) (fun e a w he => hQ _ _ _ (Post.trans hst he))
      · simp at hr
    | false =>
      rw [hwa] at hr hw
      simp only [] at hr
      cases hp : putA N E o.dst undefA with
      | none => rw [hp] at hr; simp [afterPut] at hr
      | some E1 =>
        rw [hp] at hr
        simp only [afterPut] at hr
        unfold wpList
        rw [if_neg (by rw [← hw]; simp)]
        exact runOps_sim fit hih l hr h (ht.put (VR.undef G) hp) (hdput _ _) hQ
end
end Go.Ab
