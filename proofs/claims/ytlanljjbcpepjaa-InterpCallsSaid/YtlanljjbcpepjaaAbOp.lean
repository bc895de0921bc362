/- All operations under one statement. -/
import Derived.Test.YtlanljjbcpepjaaAbOps6
namespace Go.Ab
open Go Go.RowKit

section
variable {P : Program} {B : Bs} {G : Gh} {H H' : Hp} {w : World}

/-- What is known of the operands. -/
def Knows (G : Gh) (E : Env) (a : Act) (xs : Array Operand) : Prop := ∀ x ∈ xs, ∀ c, aeval E x = some c → VR G c (a.eval x)

theorem evals_sim {E : Env} {a : Act} : ∀ {xs : List Operand} {cs : List AV}, (∀ x ∈ xs, ∀ c, aeval E x = some c → VR G c (a.eval x)) → aevals E xs = some cs → VRs G cs (xs.map a.eval)
  | [], cs, _, h => by
    simp only [aevals, Option.some.injEq] at h
    subst h
    exact VRs.nil G
  | x :: xs, cs, hk, h => by
    simp only [aevals] at h
    split at h
    · rename_i v vs hv hvs
      simp only [Option.some.injEq] at h
      subst h
      exact VRs.cons (hk x (by simp) v hv) (evals_sim (fun y hy => hk y (by simp [hy])) hvs)
    · simp at h

theorem sim_value {s : Sem Value} {c : AV} (h : R B H w G) (hs : ∃ v, s.run P w = .ok v w ∧ VR G c v) : Sim P B H G w (do pure (.value (← s))) c H := by
  obtain ⟨v, h1, h2⟩ := hs
  exact ⟨.value v, w, G, v, by simp [h1], .inl rfl, h2, Step.refl h⟩

theorem sim_step {s : Sem Value} {c : AV} (hs : ∃ v w' G', s.run P w = .ok v w' ∧ VR G' c v ∧ Step B H.next G w H' w' G') : Sim P B H G w (do pure (.value (← s))) c H' := by
  obtain ⟨v, w', G', h1, h2, h3⟩ := hs
  exact ⟨.value v, w', G', v, by simp [h1], .inl rfl, h2, h3⟩

theorem sim_unit {s : Sem Unit} (hs : ∃ w', s.run P w = .ok () w' ∧ Step B H.next G w H' w' G) : Sim P B H G w (do s; pure .skip) undefA H' := by
  obtain ⟨w', h1, h2⟩ := hs
  exact ⟨.skip, w', G, undef, by simp [h1], .inr ⟨rfl, rfl⟩, VR.undef G, h2⟩

theorem aevalO_rel {E : Env} {a : Act} {x : Option Operand} {c : Option AV} (hk : ∀ y ∈ x.toArray, ∀ c, aeval E y = some c → VR G c (a.eval y)) (h : aevalO E x = some c) : VRO G c (x.map a.eval) := by
  unfold aevalO at h
  split at h
  · simp only [Option.some.injEq] at h
    subst h
    exact trivial
  · rename_i y
    split at h
    · rename_i v hv
      simp only [Option.some.injEq] at h
      subst h
      exact hk y (by simp) v hv
    · simp at h

/-- An operation that makes a block, whatever the heap. -/
theorem make_run {D : BinOp → Sx → Sx → Option Bool} {E : Env} {a : Act} {o : Oper} {c : AV} (hk : isMake o = true) (hE : Knows G E a o.op.operands) (hop : opA P D E H o.op = some (c, H')) : Makes P G w (execOp a.eval o) Next.value c H H' := by
  obtain ⟨dst, op, ty, pos, after, guard⟩ := o
  simp only [] at hop hE
  cases op <;> simp only [isMake, kindOf, Bool.false_eq_true] at hk
  case alloc t =>
    simp only [opA] at hop
    unfold opAlloc at hop
    split at hop
    · rename_i z hz
      simp only [Option.some.injEq, Prod.mk.injEq] at hop
      obtain ⟨rfl, rfl⟩ := hop
      obtain ⟨zv, z1, z2⟩ := zeroA_run hz
      refine Makes.next ⟨.cells z 0 true, .cells (zv.cells.toList ++ []).toArray t, zv.cells.toList.length + 0, .pointer (some ⟨w.heap.size, 0, none⟩), rfl, ?_, .cells z zv.cells.toList [] t (z2 G), fun G' hG => .ptr (off := 0) hG⟩
      simp [Instr.alloc, z1, newVar, newRow]
    · simp at hop
  case box t x =>
    simp only [opA] at hop
    unfold opBox at hop
    split at hop
    · rename_i v hv
      simp only [Option.some.injEq, Prod.mk.injEq] at hop
      obtain ⟨rfl, rfl⟩ := hop
      have hx := (hE x (by simp [Op.operands]) _ hv).cells
      refine Makes.next ⟨.cells v.cells 0 true, .cells ((a.eval x).cells.toList ++ []).toArray t, (a.eval x).cells.toList.length + 0, .pointer (some ⟨w.heap.size, 0, none⟩), rfl, ?_, .cells v.cells _ [] t hx, fun G' hG => .ptr (off := 0) hG⟩
      simp [Instr.box, newVar, newRow]
    · simp at hop
  case buildSlice t len parts =>
    simp only [opA] at hop
    unfold opBuildSlice at hop
    split at hop
    · rename_i ps hps
      obtain ⟨q1, q2⟩ := parts_sim (G := G) (a := a) (fun p hp => hE p.2 (by simp only [Op.operands, List.mem_toArray, List.mem_map]; exact ⟨p, hp, rfl⟩)) hps
      have := buildSlice_sim (P := P) (w := w) q1 q2 hop
      have he : (parts.toList.map fun x => (x.1, a.eval x.2)).toArray = parts.map fun (i, x) => (i, a.eval x) := by
        apply Array.ext'; simp
      rw [he] at this
      exact this.next
    · simp at hop
  case makeMap t r =>
    simp only [opA] at hop
    unfold opMakeMap at hop
    split at hop
    · simp only [Option.some.injEq, Prod.mk.injEq] at hop
      obtain ⟨rfl, rfl⟩ := hop
      refine Makes.next ⟨.map [], .map #[] 0, 0, .map (some w.heap.size), rfl, ?_, .map, fun G' hG => .map hG⟩
      simp [Instr.makeMap]
    · simp at hop
  case makeSlice t l c' =>
    simp only [opA] at hop
    unfold opMakeSlice at hop
    split at hop
    · rename_i lv cv hl hc
      exact (makeSlice_sim (hE l (by simp [Op.operands]) _ hl) (hE c' (by simp [Op.operands]) _ hc) hop).next
    · simp at hop
  case call cl =>
    simp only [opA, reduceCtorEq] at hop

theorem opA_sim (h : R B H w G) {E : Env} {a : Act} {o : Oper} {c : AV} (hE : Knows G E a o.op.operands) (hop : opA P B.cfg.dec E H o.op = some (c, H')) : Sim P B H G w (execOp a.eval o) c H' := by
  obtain ⟨dst, op, ty, pos, after, guard⟩ := o
  simp only [] at hop hE
  cases op <;> simp only [opA, reduceCtorEq] at hop
  case move x =>
    obtain ⟨h1, rfl⟩ := ret_some hop
    exact pure_sim h rfl (hE x (by simp [Op.operands]) _ h1)
  case assign x =>
    obtain ⟨h1, rfl⟩ := ret_some hop
    exact pure_sim h rfl (hE x (by simp [Op.operands]) _ h1)
  case pick x y z =>
    unfold opPick at hop
    split at hop
    · rename_i hc
      obtain ⟨h1, rfl⟩ := ret_some hop
      have hb := hE x (by simp [Op.operands]) _ hc
      have : a.eval x = .bool true := by generalize a.eval x = v at hb; cases hb; rfl
      exact pure_sim h (v := a.eval y) (by simp [execOp, asBool, this]) (hE y (by simp [Op.operands]) _ h1)
    · rename_i hc
      obtain ⟨h1, rfl⟩ := ret_some hop
      have hb := hE x (by simp [Op.operands]) _ hc
      have : a.eval x = .bool false := by generalize a.eval x = v at hb; cases hb; rfl
      exact pure_sim h (v := a.eval z) (by simp [execOp, asBool, this]) (hE z (by simp [Op.operands]) _ h1)
    · simp at hop
  case alloc t =>
    unfold opAlloc at hop
    split at hop
    · rename_i z hz
      simp only [Option.some.injEq, Prod.mk.injEq] at hop
      obtain ⟨rfl, rfl⟩ := hop
      obtain ⟨zv, z1, z2⟩ := zeroA_run hz
      have hst := alloc_step h (z2 G) [] t
      rw [List.append_nil, Array.toArray_toList] at hst
      refine sim_step ⟨.pointer (some ⟨w.heap.size, 0, none⟩), _, _, ?_, ?_, hst⟩
      · simp [Instr.alloc, z1, newVar, newRow]
      · exact .ptr (off := 0) (Gh.add_self _ _ _)
    · simp at hop
  case box t x =>
    unfold opBox at hop
    split at hop
    · rename_i v hv
      simp only [Option.some.injEq, Prod.mk.injEq] at hop
      obtain ⟨rfl, rfl⟩ := hop
      have hst := alloc_step h (hE x (by simp [Op.operands]) _ hv).cells [] t
      rw [List.append_nil, Array.toArray_toList] at hst
      refine sim_step ⟨.pointer (some ⟨w.heap.size, 0, none⟩), _, _, ?_, ?_, hst⟩
      · simp [Instr.box, newVar, newRow]
      · exact .ptr (off := 0) (Gh.add_self _ _ _)
    · simp at hop
  case build t parts =>
    unfold opBuild at hop
    split at hop
    · rename_i ps hps
      obtain ⟨h1, rfl⟩ := ret_some hop
      obtain ⟨q1, q2⟩ := parts_sim (G := G) (a := a) (fun p hp => hE p.2 (by simp only [Op.operands, List.mem_toArray, List.mem_map]; exact ⟨p, hp, rfl⟩)) hps
      have := build_sim (P := P) (w := w) q1 q2 h1
      have he : (parts.toList.map fun x => (x.1, a.eval x.2)).toArray = parts.map fun (i, x) => (i, a.eval x) := by
        apply Array.ext'; simp
      rw [he] at this
      exact sim_value h this
    · simp at hop
  case buildSlice t len parts =>
    unfold opBuildSlice at hop
    split at hop
    · rename_i ps hps
      obtain ⟨q1, q2⟩ := parts_sim (G := G) (a := a) (fun p hp => hE p.2 (by simp only [Op.operands, List.mem_toArray, List.mem_map]; exact ⟨p, hp, rfl⟩)) hps
      have := (buildSlice_sim (P := P) (w := w) q1 q2 hop).sim h
      have he : (parts.toList.map fun x => (x.1, a.eval x.2)).toArray = parts.map fun (i, x) => (i, a.eval x) := by
        apply Array.ext'; simp
      rw [he] at this
      exact sim_step this
    · simp at hop
  case load t x =>
    unfold opLoad at hop
    split at hop
    · rename_i v hv
      obtain ⟨h1, rfl⟩ := ret_some hop
      exact sim_value h (load_sim h (hE x (by simp [Op.operands]) _ hv) h1)
    · simp at hop
  case store t x y =>
    unfold opStore at hop
    split at hop
    · rename_i av vv ha hv
      split at hop
      · rename_i H1 hs
        simp only [Option.some.injEq, Prod.mk.injEq] at hop
        obtain ⟨rfl, rfl⟩ := hop
        exact sim_unit (store_sim h (hE x (by simp [Op.operands]) _ ha) (hE y (by simp [Op.operands]) _ hv) hs)
      · simp at hop
    · simp at hop
  case nilCheck x =>
    unfold opNilCheck at hop
    split at hop
    · rename_i r off hv
      simp only [Option.some.injEq, Prod.mk.injEq] at hop
      obtain ⟨rfl, rfl⟩ := hop
      have hx := hE x (by simp [Op.operands]) _ hv
      refine pure_sim h (v := a.eval x) ?_ hx
      simp only [execOp]
      generalize a.eval x = v at hx ⊢
      cases hx; rfl
    · rename_i cs hv
      simp only [Option.some.injEq, Prod.mk.injEq] at hop
      obtain ⟨rfl, rfl⟩ := hop
      have hx := hE x (by simp [Op.operands]) _ hv
      refine pure_sim h (v := a.eval x) ?_ hx
      simp only [execOp]
      generalize a.eval x = v at hx ⊢
      cases hx; rfl
    · simp at hop
  case binOp op t x y yt =>
    unfold opBin at hop
    split at hop
    · rename_i xv yv hx hy
      obtain ⟨h1, rfl⟩ := ret_some hop
      exact sim_value h (bin_sim (by rw [h.val]; exact h.sym) (hE x (by simp [Op.operands]) _ hx) (hE y (by simp [Op.operands]) _ hy) h1)
    · simp at hop
  case unOp op t x =>
    unfold opUn at hop
    split at hop
    · rename_i xv hx
      obtain ⟨h1, rfl⟩ := ret_some hop
      exact sim_value h (un_sim (hE x (by simp [Op.operands]) _ hx) h1)
    · simp at hop
  case convert s d x =>
    unfold opConvert at hop
    split at hop
    · rename_i xv hx
      obtain ⟨h1, rfl⟩ := ret_some hop
      exact sim_value h (convert_sim h (hE x (by simp [Op.operands]) _ hx) h1)
    · simp at hop
  case makeFunc fn first captured =>
    unfold opMakeFunc at hop
    split at hop
    · rename_i f vs hfirst hvs
      simp only [Option.some.injEq, Prod.mk.injEq] at hop
      obtain ⟨rfl, rfl⟩ := hop
      have hf : first = #[] := by apply Array.ext'; simpa using hfirst
      subst hf
      have := evals_sim (G := G) (a := a) (fun x hx => hE x (by simp [Op.operands]; simpa using hx)) hvs
      refine sim_value h ⟨.func (.func f) #[] (captured.map a.eval), by simp [Instr.makeFunc], ?_⟩
      have he : captured.map a.eval = (captured.toList.map a.eval).toArray := by apply Array.ext'; simp
      rw [he]
      exact .clo this.1 this.2
    · simp at hop
  case makeMap t r =>
    unfold opMakeMap at hop
    split at hop
    · simp only [Option.some.injEq, Prod.mk.injEq] at hop
      obtain ⟨rfl, rfl⟩ := hop
      exact sim_step ⟨.map (some w.heap.size), _, _, by simp [Instr.makeMap], .map (Gh.add_self _ _ _), allocMap_step h⟩
    · simp at hop
  case makeSlice t l c' =>
    unfold opMakeSlice at hop
    split at hop
    · rename_i lv cv hl hc
      exact sim_step ((makeSlice_sim (hE l (by simp [Op.operands]) _ hl) (hE c' (by simp [Op.operands]) _ hc) hop).sim h)
    · simp at hop
  case slice t x lo hi mx =>
    unfold opSlice at hop
    split at hop
    · rename_i xv l hh hx hl hi'
      obtain ⟨h1, rfl⟩ := ret_some hop
      exact sim_value h (sliceHA_sim h (hE x (by simp [Op.operands]) _ hx) (aevalO_rel (fun y hy => hE y (by simp [Op.operands] at *; simp [hy])) hl) (aevalO_rel (fun y hy => hE y (by simp [Op.operands] at *; simp [hy])) hi') h1)
    · simp at hop
  case fieldAddr t x f =>
    unfold opFieldAddr at hop
    split at hop
    · rename_i xv hx
      obtain ⟨h1, rfl⟩ := ret_some hop
      exact sim_value h (fieldAddr_sim (hE x (by simp [Op.operands]) _ hx) h1)
    · simp at hop
  case field t x f =>
    unfold opField at hop
    split at hop
    · rename_i xv hx
      obtain ⟨h1, rfl⟩ := ret_some hop
      exact sim_value h (field_sim (hE x (by simp [Op.operands]) _ hx) h1)
    · simp at hop
  case indexAddr t x i =>
    unfold opIndexAddr at hop
    split at hop
    · rename_i xv iv hx hi
      obtain ⟨h1, rfl⟩ := ret_some hop
      exact sim_value h (indexAddr_sim (hE x (by simp [Op.operands]) _ hx) (hE i (by simp [Op.operands]) _ hi) h1)
    · simp at hop
  case index t x i =>
    unfold opIndex at hop
    split at hop
    · rename_i xv iv hx hi
      obtain ⟨h1, rfl⟩ := ret_some hop
      exact sim_value h (index_sim (hE x (by simp [Op.operands]) _ hx) (hE i (by simp [Op.operands]) _ hi) h1)
    · simp at hop
  case lookup t m k ok =>
    unfold opLookup at hop
    split at hop
    · rename_i mv kv hm hk
      obtain ⟨h1, rfl⟩ := ret_some hop
      exact sim_value h (lookup_sim h (hE m (by simp [Op.operands]) _ hm) (hE k (by simp [Op.operands]) _ hk) h1)
    · simp at hop
  case mapUpdate t m k v =>
    unfold opMapUpdate at hop
    split at hop
    · rename_i mv kv vv hm hk hv
      split at hop
      · rename_i H1 hs
        simp only [Option.some.injEq, Prod.mk.injEq] at hop
        obtain ⟨rfl, rfl⟩ := hop
        exact sim_unit (mapUpdate_sim h (hE m (by simp [Op.operands]) _ hm) (hE k (by simp [Op.operands]) _ hk) (hE v (by simp [Op.operands]) _ hv) hs)
      · simp at hop
    · simp at hop
  case extract x i =>
    unfold opExtract at hop
    split at hop
    · rename_i xv hx
      obtain ⟨h1, rfl⟩ := ret_some hop
      exact sim_value h (extract_sim (hE x (by simp [Op.operands]) _ hx) h1)
    · simp at hop

theorem builtin_sim (h : R B H w G) {keep : Bool} {b : Builtin} {ts : Array TypeId} {ty : TypeId} {consts : Array Bool} {cs : List AV} {vs : List Value} {c : AV} (hv : VRs G cs vs) (hb : builtinA P keep H b ts.toList cs = some (c, H')) :
    Sim P B H G w (builtin b ts ty consts vs.toArray) c H' := by
  unfold builtinA at hb
  split at hb
  · split at hb
    · rename_i t u s x hts
      have hts' : ts = #[t, u] := by apply Array.ext'; simpa using hts
      subst hts'
      match vs, hv with
      | [sv, xv], hv =>
        obtain ⟨h1, h2⟩ := hv.of_cons
        obtain ⟨h3, _⟩ := h2.of_cons
        exact sim_step (append_sim h h1 h3 hb)
      | [], hv => have := hv.1; simp at this
      | [_], hv => have := hv.1; simp at this
      | _ :: _ :: _ :: _, hv => have := hv.1; simp at this
    · simp at hb
  · split at hb
    · rename_i t x hts
      have hts' : ts = #[t] := by apply Array.ext'; simpa using hts
      subst hts'
      split at hb
      · rename_i v hl
        simp only [Option.some.injEq, Prod.mk.injEq] at hb
        obtain ⟨rfl, rfl⟩ := hb
        match vs, hv with
        | [xv], hv =>
          obtain ⟨h1, _⟩ := hv.of_cons
          exact sim_value h (len_sim h h1 hl)
        | [], hv => have := hv.1; simp at this
        | _ :: _ :: _, hv => have := hv.1; simp at this
      · simp at hb
    · simp at hb
  · split at hb
    · rename_i x xs
      split at hb
      · rename_i v hm
        simp only [Option.some.injEq, Prod.mk.injEq] at hb
        obtain ⟨rfl, rfl⟩ := hb
        match vs, hv with
        | [], hv => have := hv.1; simp at this
        | xv :: xvs, hv =>
          obtain ⟨h1, h2⟩ := hv.of_cons
          have := mms_sim (P := P) (w := w) h1 h2 hm
          exact sim_value h (by simpa [Builtin.max_] using this)
      · simp at hb
    · simp at hb
  · split at hb
    · rename_i x xs
      split at hb
      · rename_i v hm
        simp only [Option.some.injEq, Prod.mk.injEq] at hb
        obtain ⟨rfl, rfl⟩ := hb
        match vs, hv with
        | [], hv => have := hv.1; simp at this
        | xv :: xvs, hv =>
          obtain ⟨h1, h2⟩ := hv.of_cons
          have := mms_sim (P := P) (w := w) h1 h2 hm
          exact sim_value h (by simpa [Builtin.min_] using this)
      · simp at hb
    · simp at hb
  · simp at hb
end
end Go.Ab
