/- A slice that is nil read as one without elements. -/
import Derived.Test.YtlanljjbcpepjaaAbLaw
namespace Go.Ab
open Go

def wkN : Nat → AV → AV
  | 0, v => v
  | n + 1, v => match v with
    | .nilS => .lst []
    | .lst xs => .lst (xs.map fun row => row.map (wkN n))
    | .agg cs => .agg (cs.map (wkN n))
    | .tup cs => .tup (cs.map (wkN n))
    | v => v

theorem VR.wk {G : Gh} : ∀ (n : Nat) {v : AV} {x : Value}, VR G v x → VR G (wkN n v) x
  | 0, _, _, h => h
  | n + 1, v, x, h => by
    cases h with
    | nilS => exact .lst0 _ _
    | lst vs hz hF hv hc =>
      rename_i xs b o cap z
      have := VR.lst (G := G) (xs := xs.map fun row => row.map (wkN n)) (b := b) (o := o) (cap := cap) (z := z) vs ?_ ?_ ?_ ?_
      · rw [List.length_map] at this; exact this
      · intro i row hr
        rw [List.getElem?_map] at hr
        cases hx : xs[i]? with
        | none => rw [hx] at hr; simp at hr
        | some r0 => rw [hx] at hr; simp only [Option.map_some, Option.some.injEq] at hr; rw [← hr, List.length_map]; exact hz i r0 hx
      · intro i j hi hj; rw [List.length_map] at hi; exact hF i j hi hj
      · intro i j row c hr hc2
        rw [List.getElem?_map] at hr
        cases hx : xs[i]? with
        | none => rw [hx] at hr; simp at hr
        | some r0 =>
          rw [hx] at hr; simp only [Option.map_some, Option.some.injEq] at hr
          rw [← hr, List.getElem?_map] at hc2
          cases hy : r0[j]? with
          | none => rw [hy] at hc2; simp at hc2
          | some c0 => rw [hy] at hc2; simp only [Option.map_some, Option.some.injEq] at hc2; rw [← hc2]; exact VR.wk n (hv i j r0 c0 hx hy)
      · rw [List.length_map]; exact hc
    | lst0 a cap => exact .lst0 a cap
    | agg hl hv =>
      refine .agg (by rw [List.length_map]; exact hl) fun i c v hc hv2 => ?_
      rw [List.getElem?_map] at hc
      rename_i cs vs
      cases hy : cs[i]? with
      | none => rw [hy] at hc; simp at hc
      | some c0 => rw [hy] at hc; simp only [Option.map_some, Option.some.injEq] at hc; rw [← hc]; exact VR.wk n (hv i c0 v hy hv2)
    | tup hl hv =>
      refine .tup (by rw [List.length_map]; exact hl) fun i c v hc hv2 => ?_
      rw [List.getElem?_map] at hc
      rename_i cs vs
      cases hy : cs[i]? with
      | none => rw [hy] at hc; simp at hc
      | some c0 => rw [hy] at hc; simp only [Option.map_some, Option.some.injEq] at hc; rw [← hc]; exact VR.wk n (hv i c0 v hy hv2)
    | int k m => exact .int k m
    | sx k e => exact .sx k e
    | bool b => exact .bool b
    | str s l h => exact .str s l h
    | nilP => exact .nilP
    | nilM => exact .nilM
    | nilF => exact .nilF
    | ptr h => exact .ptr h
    | iptr vs hF hv => exact .iptr vs hF hv
    | sl h hl hc => exact .sl h hl hc
    | map h => exact .map h
    | clo hl hv => exact .clo hl hv

theorem Con.wk {P : Program} {ρ : Nat → Int} {f : FuncId} {args : List AV} {r : AV} (n : Nat) (h : Con P ρ f args r) : Con P ρ f args (wkN n r) :=
  ⟨h.1, fun G w vs h1 h2 h3 => (h.2 G w vs h1 h2 h3).mono fun _ _ ⟨v, F1, h4, h5, h6⟩ => ⟨v, F1, h4, h5.wk n, h6⟩⟩
theorem Con.wk' {P : Program} {ρ : Nat → Int} {f : FuncId} {args : List AV} {r r' : AV} (n : Nat) (h : Con P ρ f args r) (e : wkN n r = r') : Con P ρ f args r' := e ▸ h.wk n
end Go.Ab
