/- Parts: AbOps3, AbOps4, AbOps5, AbOps6, AbOp, AbRun, AbDraw1. -/
import Derived.Laws.Tables
import Derived.Lib.Strings
import Derived.Test.YtpbcimfiofmoeaaSDB
set_option linter.unusedSimpArgs false
set_option linter.unusedVariables false
set_option linter.unusedSectionVars false
set_option linter.defProp false
set_option maxHeartbeats 32000000
namespace Go.Ab
set_option maxRecDepth 20000
open Go Go.RowKit
def VRO (G:Gh):Option AV→Option Value→Prop
 | none,none=>True
 | some c,some v=>VR G c v
 | _,_=>False
section
variable {P:Program} {B:Bs} {G:Gh} {H H':Hp} {w:World}
theorem zdc {c:AV}{v:Value}{k y:Nat} (code:BoundsCode) (h:VR G c v) (hb:jl 0 (some c)=some k) (hk:k≤y):(Instr.sliceBound v y code).run P w=.ok k w:=by
 unfold jl at hb
 split at hb
 ·simp at *
 ·rename_i kk n e
  simp only[Option.some.injEq]at hb e
  subst hb;subst e
  cases h
  simp[Instr.sliceBound,asIntOf,hk]
 ·simp at hb
theorem zkQ {d k:Nat}{c:AV} (h:jl d (some c)=some k):jl 0 (some c)=some k:=by
 unfold jl at *
 split at h<;>simp_all
theorem zeU {lo hi:Option AV}{lov hiv:Option Value}{l h len cap:Nat} (hl:VRO G lo lov) (hh:VRO G hi hiv) (bl:jl 0 lo=some l) (bh:jl len hi=some h) (h1:l≤h) (h2:h≤len) (h3:len≤cap) (isS:Bool) :
 (Instr.sliceBounds isS len cap lov hiv none).run P w=.ok (l,h,cap) w:=by
 cases hi with
 | none=>
   cases hiv with
   | some v=>exact hh.elim
   | none=>
     simp only[jl,Option.some.injEq]at bh
     subst bh
     cases lo with
     | none=>
       cases lov with
       | some v=>exact hl.elim
       | none=>
         simp only[jl,Option.some.injEq]at bl
         subst bl
         simp[Instr.sliceBounds]
     | some c=>
       cases lov with
       | none=>exact hl.elim
       | some v=>simp[Instr.sliceBounds,zdc _ hl bl h1]
 | some ch=>
   cases hiv with
   | none=>exact hh.elim
   | some vh=>
     have bh':=zkQ bh
     cases lo with
     | none=>
       cases lov with
       | some v=>exact hl.elim
       | none=>
         simp only[jl,Option.some.injEq]at bl
         subst bl
         simp[Instr.sliceBounds,zdc _ hh bh' (show h≤cap by omega)]
     | some c=>
       cases lov with
       | none=>exact hl.elim
       | some v=>simp[Instr.sliceBounds,zdc _ hl bl h1,zdc _ hh bh' (show h≤cap by omega)]
theorem zoB {t:TypeId}{x c:AV}{xv:Value}{lo hi:Option AV}{lov hiv:Option Value} (hx:VR G x xv) (hl:VRO G lo lov) (hh:VRO G hi hiv) (h:zaj P t x lo hi=some c) :
 ∃ v,(Instr.sliceAt t xv lov hiv none).run P w=.ok v w∧VR G c v:=by
 unfold zaj at h
 split at h
 ·rename_i s hd
  split at h
  ·rename_i l hh' bl bh
   split at h
   ·rename_i hc
    simp only[Option.some.injEq]at h
    subst h
    cases hx with
    | str sv _ hs=>
      subst hs
      have hb:=zeU (P:=P) (w:=w) (cap:=sv.size) hl hh bl bh hc.1 hc.2 (by show sv.data.toList.length≤sv.data.size;simp) false
      have hsz:sv.data.toList.length=sv.size:=by show sv.data.toList.length=sv.data.size;simp
      rw[hsz]at hb
      refine⟨.string (sv.extract l hh'),?_,.str _ _ (Lib.extract_data _ _ _)⟩
      simp only[Instr.sliceAt,Sem.run_bind,zU hd,Result.andThen_ok,Instr.slice]
      simp[hb]
   ·simp at h
  ·simp at h
 ·rename_i e y hd
  split at h
  ·rename_i z hz
   have hrun:∀ (a:Option Addr) (len cap l h':Nat),xv=.slice a len cap→jl 0 lo=some l→jl len hi=some h'→l≤h'→h'≤len→len≤cap →
    (Instr.sliceAt t xv lov hiv none).run P w=.ok (.slice (if cap=l then a else a.map (·.add (l * z))) (h' - l) (cap - l)) w:=fun a len cap l h' e1 bl bh h1 h2 h3=>by
    subst e1
    simp only[Instr.sliceAt,Sem.run_bind,zU hd,Result.andThen_ok,Instr.slice]
    simp[zeU hl hh bl bh h1 h2 h3,jp hz]
   split at h
   ·rename_i r off len z'
    split at h
    ·rename_i l h' bl bh
     split at h
     ·rename_i hc
      obtain⟨h1,h2,rfl⟩:=hc
      cases hx with
      | sl hr hlc hx'=>
        rename_i b o x cap
        have:=hrun _ len cap l h' rfl bl bh h1 h2 hlc
        split at h
        ·rename_i e1
         simp only[Option.some.injEq]at h
         subst h
         subst e1
         rw[Nat.sub_self]at this
         exact⟨_,this,.lst0 _ _⟩
        ·rename_i hne
         simp only[Option.some.injEq]at h
         subst h
         rw[if_neg (by omega)]at this
         refine⟨_,this,?_⟩
         simp only[Option.map_some,j0]
         rw[Nat.add_assoc]
         refine .sl hr (by omega) ?_
         have e3:(cap - l) * z'+l * z'=cap * z':=by rw[← Nat.add_mul];congr 1;omega
         omega
     ·simp at h
    ·simp at h
   ·rename_i xs
    split at h
    ·rename_i l h' bl bh
     split at h
     ·rename_i hc
      obtain⟨h1,h2⟩:=hc
      split at h
      ·rename_i he
       simp only[Option.some.injEq]at h
       subst h
       have hlen:h' - l=0:=by
        have:=congrArg List.length he
        simp only[List.length_take,List.length_drop,List.length_nil]at this
        omega
       cases hx with
       | lst vs hzz hF hv hcap=>
         have:=hrun _ _ _ l h' rfl bl bh h1 h2 hcap
         rw[hlen]at this
         exact⟨_,this,.lst0 _ _⟩
       | lst0 a cap=>
         have:=hrun _ _ _ l h' rfl bl bh h1 h2 (Nat.zero_le cap)
         rw[hlen]at this
         exact⟨_,this,.lst0 _ _⟩
      ·rename_i row rows he
       split at h
       ·rename_i hrl
        simp only[Option.some.injEq]at h
        subst h
        have hpos:0 < h' - l:=by
         have:=congrArg List.length he
         simp only[List.length_take,List.length_drop,List.length_cons]at this
         omega
        cases hx with
        | lst0 a cap=>simp at h2;omega
        | lst vs hzz hF hv hcap=>
          rename_i b o cap z'
          have hrun':=hrun _ _ _ l h' rfl bl bh h1 h2 hcap
          rw[if_neg (by omega)]at hrun'
          have hget:∀ i:Nat,(row::rows)[i]?=if i < h' - l then xs[l+i]? else none:=fun i=>by
           rw[← he,List.getElem?_take,List.getElem?_drop]
          have hz':z'=z:=by
           have:=hget 0
           rw[if_pos hpos]at this
           rw[← hzz (l+0) row (by rw[← this];rfl)]
           exact hrl
          subst hz'
          have hlen:(row::rows).length=h' - l:=by
           rw[← he];simp only[List.length_take,List.length_drop];omega
          refine⟨_,hrun',?_⟩
          simp only[Option.map_some,j0]
          rw[← hlen]
          refine .lst (z:=z') (fun i j=>vs (l+i) j) (fun i rw' hi=>?_) (fun i j hi hj=>?_) (fun i j rw' d hi hj=>?_) (by rw[hlen];omega)
          ·rw[hget i]at hi
           split at hi
           ·exact hzz _ _ hi
           ·simp at hi
          ·have:=hF (l+i) j (by rw[hlen]at hi;omega) hj
           rw[← this]
           congr 1
           rw[Nat.add_mul];omega
          ·rw[hget i]at hi
           split at hi
           ·exact hv _ _ _ _ hi hj
           ·simp at hi
       ·simp at h
     ·simp at h
    ·simp at h
   ·split at h
    ·rename_i bl bh
     simp only[Option.some.injEq]at h
     subst h
     cases hx
     have:=hrun none 0 0 0 0 rfl bl bh (Nat.le_refl _) (Nat.le_refl _) (Nat.le_refl _)
     exact⟨_,this,.nilS⟩
    ·simp at h
   ·simp at h
  ·simp at h
 ·simp at h
theorem VRs.splice {cs new:List AV}{vs nv:List Value} (h:VRs G cs vs) (hn:VRs G new nv) (off:Nat):VRs G (Ab.splice cs off new) (vs.take off++nv++vs.drop (off+nv.length)):=by
 unfold Ab.splice
 rw[hn.1]
 exact((h.take off).append hn).append (h.drop _)
theorem zgE (off:Nat):∀ (nv:List Value) (k:Nat) (cells:Array Value),off+k+nv.length≤cells.size →
 ((nv.zipIdx k).foldl (fun cs (c,j)=>cs.setIfInBounds (off+j) c) cells).toList=cells.toList.take (off+k)++nv++cells.toList.drop (off+k+nv.length)
 | [],k,cells,_=>by simp
 | v::nv,k,cells,h=>by
   simp only[List.length_cons]at h
   rw[List.zipIdx_cons,List.foldl_cons,zgE off nv (k+1) _ (by simp;omega)]
   simp only[Array.toList_setIfInBounds,List.length_cons]
   have hp:off+k < cells.toList.length:=by simp;omega
   have h1:(cells.toList.set (off+k) v).take (off+(k+1))=cells.toList.take (off+k)++[v]:=by
    rw[← Nat.add_assoc,List.take_add_one,List.take_set_of_le (Nat.le_refl _),List.getElem?_set_self hp];rfl
   rw[h1,List.drop_set_of_lt (by omega),show off+(k+1)+nv.length=off+k+(nv.length+1) by omega]
   simp
theorem zfl {place:Nat→Option (Nat×Nat)}:∀ {ps:List (Nat×AV)}{pv:List (Nat×Value)}{cs out:List AV}{vs:List Value},ps.length=pv.length →
 (∀ (i:Nat) p q,ps[i]?=some p→pv[i]?=some q→p.1=q.1∧VR G p.2 q.2)→VRs G cs vs→zeC place cs ps=some out →
 ∃ outv,Instr.fill place vs.toArray pv=some outv.toArray∧VRs G out outv
 | [],[],cs,out,vs,_,_,hv,h=>by
   simp only[zeC,Option.some.injEq]at h
   subst h
   exact⟨vs,rfl,hv⟩
 | [],q::pv,_,_,_,hl,_,_,_=>by simp at hl
 | p::ps,[],_,_,_,hl,_,_,_=>by simp at hl
 | (i,c)::ps,(i',v)::pv,cs,out,vs,hl,hp,hv,h=>by
   obtain⟨rfl,hcv⟩:=hp 0 (i,c) (i',v) rfl rfl
   simp only[]at hcv
   simp only[zeC]at h
   split at h
   ·simp at h
   ·rename_i off size hpl
    split at h
    ·simp at h
    ·rename_i hcond
     have hcl:=hcv.cells
     have hlc:v.cells.size=c.cells.length:=by rw[hcl.1];simp
     have hcond':v.cells.size=size∧off+v.cells.size≤vs.length:=by
      rw[hlc,← hv.1]
      constructor
      ·apply Decidable.byContradiction;intro hn;exact hcond (.inl hn)
      ·apply Decidable.byContradiction;intro hn;exact hcond (.inr (by omega))
     obtain⟨outv,h1,h2⟩:=zfl (ps:=ps) (pv:=pv) (cs:=Ab.splice cs off c.cells) (out:=out) (vs:=vs.take off++v.cells.toList++vs.drop (off+v.cells.toList.length))
      (by simpa using hl) (fun j p q hj hq=>hp (j+1) p q (by simpa using hj) (by simpa using hq)) (hv.splice hcl off) h
     refine⟨outv,?_,h2⟩
     simp only[Instr.fill,hpl]
     rw[if_neg (by simp;omega)]
     rw[← h1]
     congr 1
     apply Array.ext'
     have hf:=zgE off v.cells.toList 0 vs.toArray (by simp;omega)
     simp only[Nat.add_zero]at hf
     rw[List.toList_toArray,← hf]
     rw[← Array.foldl_toList,Array.toList_zipIdx]
theorem zef {E:Env}{a:Act}:∀ {ps:List (Nat×Operand)}{out:List (Nat×AV)},(∀ p∈ps,∀ c,zn E p.2=some c→VR G c (a.eval p.2))→jS E ps=some out →
 out.length=(ps.map fun x=>(x.1,a.eval x.2)).length∧∀ (i:Nat) p q,out[i]?=some p→(ps.map fun x=>(x.1,a.eval x.2))[i]?=some q→p.1=q.1∧VR G p.2 q.2
 | [],out,_,h=>by
   simp only[jS,Option.some.injEq]at h
   subst h
   exact⟨rfl,by simp⟩
 | (i,x)::ps,out,hE,h=>by
   simp only[jS]at h
   split at h
   ·rename_i v vs hv hvs
    simp only[Option.some.injEq]at h
    subst h
    obtain⟨h1,h2⟩:=zef (ps:=ps) (out:=vs) (fun p hp=>hE p (by simp[hp])) hvs
    refine⟨by simpa using h1,fun j p q hj hq=>?_⟩
    cases j with
    | zero=>
      simp at hj hq
      subst hj hq
      exact⟨rfl,hE (i,x) (by simp) v hv⟩
    | succ j=>exact h2 j p q (by simpa using hj) (by simpa using hq)
   ·simp at h
theorem zoC {t:TypeId}{ps:List (Nat×AV)}{pv:List (Nat×Value)}{c:AV} (hl:ps.length=pv.length) (hp:∀ (i:Nat) p q,ps[i]?=some p→pv[i]?=some q→p.1=q.1∧VR G p.2 q.2) (h:yj P t ps=some c) :
 ∃ v,(Instr.build t pv.toArray).run P w=.ok v w∧VR G c v:=by
 unfold yj at h
 split at h
 ·rename_i z fields hz hd
  split at h
  ·rename_i places hpl
   split at h
   ·rename_i out hf
    simp only[Option.some.injEq]at h
    subst h
    obtain⟨it,zv,zc,hit,hzv,hzc,rfl⟩:=zeT hz
    have hzr:=(zcQ (G:=G) hzc).cells
    obtain⟨outv,h1,h2⟩:=zfl hl hp hzr hf
    refine⟨.agg outv.toArray,run_build w t _ _ ?_,.agg h2.1 h2.2⟩
    simp only[Program.built,hit,hd,hzv]
    unfold znq at hpl
    rw[hpl]
    simp only[Array.toArray_toList]at h1
    simpa using h1
   ·simp at h
  ·simp at h
 ·rename_i z n e hz hd
  split at h
  ·rename_i s hs
   split at h
   ·rename_i out hf
    simp only[Option.some.injEq]at h
    subst h
    obtain⟨it,zv,zc,hit,hzv,hzc,rfl⟩:=zeT hz
    have hzr:=(zcQ (G:=G) hzc).cells
    obtain⟨ie,hie,hies⟩:=zhI hs
    obtain⟨outv,h1,h2⟩:=zfl hl hp hzr hf
    refine⟨.agg outv.toArray,run_build w t _ _ ?_,.agg h2.1 h2.2⟩
    simp only[Program.built,hit,hd,hzv,hie,hies]
    simp only[Array.toArray_toList]at h1
    simpa using h1
   ·simp at h
  ·simp at h
 ·simp at h
theorem znv (z:List AV):∀ (n j:Nat),j < n * z.length→(rep z n)[j]?=z[j % z.length]?
 | 0,j,h=>by simp at h
 | n+1,j,h=>by
   simp only[rep]
   by_cases hj:j < z.length
   ·rw[List.getElem?_append_left hj,Nat.mod_eq_of_lt hj]
   ·have h':j < n * z.length+z.length:=by simpa [Nat.succ_mul]using h
    rw[List.getElem?_append_right (by omega),znv z n (j - z.length) (by omega)]
    congr 1
    exact(Nat.mod_eq_sub_mod (by omega)).symm
theorem zdd (z:List AV):∀ n,(rep z n).length=n * z.length
 | 0=>by simp[rep]
 | n+1=>by simp[rep,zdd z n,Nat.add_mul];omega
theorem znw {z:List AV}{zv:Array Value} (hz:VRs G z zv.toList) (n:Nat):VRs G (rep z n) (((Array.range (n * z.length)).map (zv[·% zv.size]!))).toList:=by
 have hl:=hz.1
 refine⟨by simp[zdd],fun j c v hc hv=>?_⟩
 have hj:j < n * z.length:=by
  have:=(List.getElem?_eq_some_iff.1 hc).1
  rw[zdd]at this;exact this
 rw[znv z n j hj]at hc
 simp only[Array.toList_map,Array.toList_range,List.getElem?_map,List.getElem?_range hj,Option.map_some,Option.some.injEq]at hv
 have hpos:0 < z.length:=by
  rcases Nat.eq_zero_or_pos z.length with e|e
  ·rw[e]at hj;omega
  ·exact e
 have hm:j % z.length < z.length:=Nat.mod_lt _ hpos
 have hzs:zv.size=z.length:=by simpa using hl.symm
 refine hz.2 (j % z.length) c v hc ?_
 rw[hzs]at hv
 rw[← hv]
 simp[hzs,hm]
theorem zfm {place:Nat→Option (Nat×Nat)}:∀ {ps:List (Nat×AV)}{cs out:List AV},zeC place cs ps=some out→out.length=cs.length
 | [],cs,out,h=>by simp only[zeC,Option.some.injEq]at h;rw[h]
 | (i,c)::ps,cs,out,h=>by
   simp only[zeC]at h
   split at h
   ·simp at h
   ·split at h
    ·simp at h
    ·rename_i hc
     rw[zfm h,ziX]
     apply Decidable.byContradiction
     intro hn
     exact hc (.inr (by omega))
theorem zdK {t:TypeId}{len:Nat}{ps:List (Nat×AV)}{pv:List (Nat×Value)}{c:AV} (hl:ps.length=pv.length) (hp:∀ (i:Nat) p q,ps[i]?=some p→pv[i]?=some q→p.1=q.1∧VR G p.2 q.2)
 (hb:zI P H t len ps=some (c,H')):zjd P G w (Instr.buildSlice t len pv.toArray) id c H H':=by
 unfold zI at hb
 split at hb
 ·rename_i e hd
  split at hb
  ·rename_i s z hs hz
   split at hb
   ·rename_i hc
    obtain⟨h24,hzl⟩:=hc
    split at hb
    ·rename_i cs hf
     simp only[Option.some.injEq,Prod.mk.injEq]at hb
     obtain⟨rfl,rfl⟩:=hb
     obtain⟨zv,hzr,hzv⟩:=zcS hz
     have hrep:=znw (hzv G) len
     obtain⟨outv,h1,h2⟩:=zfl hl hp hrep hf
     have hlen:outv.length=len * s:=by
      rw[← h2.1,zfm hf,zdd,hzl]
     refine⟨.cells cs 0 true,.cells (outv++[]).toArray e,outv.length+0,.slice (some ⟨w.heap.size,0,none⟩) len len,rfl,?_,.cells cs outv [] e h2,fun G' hG=>.sl hG (Nat.le_refl _) (by omega)⟩
     rw[List.append_nil]
     show _=Result.ok (Value.slice (some ⟨w.heap.size,0,none⟩) len len) _
     ·have h24':¬ (len * s > 2 ^ 24):=by omega
      rw[hzl]at h1
      by_cases h0:len * s=0
      ·rw[h0]at h1
       simp at h1
       simp[Instr.buildSlice,zU hd,jp hs,h0,newRow]
       rw[show Array.map (fun _:Nat=>(default:Value)) (Array.range 0)=#[]from by simp,h1]
       rfl
      ·simp only[Array.toArray_toList]at h1
       simp[Instr.buildSlice,zU hd,jp hs,h24',h0,hzr,h1,newRow]
    ·simp at hb
   ·simp at hb
  ·simp at hb
 ·simp at hb
theorem zeE {t:TypeId}{l c r:AV}{lv cv:Value} (hl:VR G l lv) (hc:VR G c cv) (hm:jB P H t l c=some (r,H')) :
 zjd P G w (Instr.makeSlice t lv cv) id r H H':=by
 unfold jB at hm
 split at hm
 ·rename_i e k1 l k2 c hd
  cases hl;cases hc
  split at hm
  ·rename_i s b z hs hb hz
   split at hm
   ·rename_i hcond
    obtain⟨h1,h2,h3,h4⟩:=hcond
    simp only[Option.some.injEq,Prod.mk.injEq]at hm
    obtain⟨rfl,rfl⟩:=hm
    obtain⟨zv,hzr,hzv⟩:=zcS hz
    obtain⟨i,hi,hib⟩:∃ i,P.info? e=some i∧i.bytes=b:=by simpa [z8,Option.map_eq_some_iff]using hb
    have hm:zW=70368744177664:=rfl
    rw[hm]at h2 h3
    have hrep:=znw (hzv G) l
    have hrow:((Array.range (c * s)).map (zv.cells[·% zv.cells.size]!)).toList=((Array.range (l * s)).map (zv.cells[·% zv.cells.size]!)).toList++(((Array.range (c * s)).map (zv.cells[·% zv.cells.size]!)).toList.drop (l * s)):=by
     have hle:l * s≤c * s:=Nat.mul_le_mul_right _ h1
     conv=>lhs;rw[← List.take_append_drop (l * s) ((Array.range (c * s)).map (zv.cells[·% zv.cells.size]!)).toList]
     congr 1
     simp only[Array.toList_map,Array.toList_range,← List.map_take]
     rw[List.take_range,Nat.min_eq_left hle]
    rw[h4]at hrep
    have hmade:Made G (.cells (rep z l) 0 true) _ _:=.cells _ _ (((Array.range (c * s)).map (zv.cells[·% zv.cells.size]!)).toList.drop (l * s)) e hrep
    rw[← hrow,Array.toArray_toList]at hmade
    refine⟨_,_,_,.slice (some ⟨w.heap.size,0,none⟩) l c,rfl,?_,hmade,fun G' hG=>.sl hG h1 ?_⟩
    ·show _=Result.ok (Value.slice (some ⟨w.heap.size,0,none⟩) l c) _
     have w1:IntKind.i64.wrap (l:Int)=l:=IntWalk.i64_in _ (by omega)
     have w2:IntKind.i64.wrap (c:Int)=c:=IntWalk.i64_in _ (by omega)
     have h2':¬ ((b:Int) * c > 2 ^ 48):=by
      have:(b:Int) * c=((c * b:Nat):Int):=by rw[Nat.mul_comm];simp
      rw[this];omega
     have h5:¬ ((281474976710656:Int) < (b:Int) * c):=by simpa using h2'
     have h6:¬ (c < l):=by omega
     have p1:¬ ((c:Int) < 0):=by omega
     have p2:¬ ((l:Int) < 0):=by omega
     simp only[Instr.makeSlice,Sem.run_bind,zU hd,Result.andThen_ok,asInt,asIntOf]
     by_cases h0:c * s=0
     ·simp[zcR hi,hib,w1,w2,h5,h6,p1,p2,jp hs,h0,newRow]
      rw[show ∀ f g:Nat→Value,Array.map f (Array.range 0)=Array.map g (Array.range 0)from fun f g=>by simp]
     ·simp[zcR hi,hib,w1,w2,h5,h6,p1,p2,jp hs,h0,hzr,newRow]
    ·have hle:l * s≤c * s:=Nat.mul_le_mul_right _ h1
     simp
     omega
   ·simp at hm
  ·simp at hm
 ·simp at hm
end
section
variable {P:Program} {B:Bs} {G:Gh} {H H':Hp} {w:World}
theorem VRs.oneCell {cs:List AV}{vs:List Value} (h:VRs G cs vs) (ho:cs.all AV.one=true):∀ v∈vs,v.oneCell'=true:=fun v hv=>by
 obtain⟨i,hi,rfl⟩:=List.getElem_of_mem hv
 have hi':i < cs.length:=by rw[h.1];exact hi
 rw[(h.2 i _ _ (List.getElem?_eq_getElem hi') (List.getElem?_eq_getElem hi)).oneCell]
 exact List.all_eq_true.1 ho _ (List.getElem_mem hi')
theorem zkR {xs:List (List AV)}{s:Nat} (hs:∀ (i:Nat) (row:List AV),xs[i]?=some row→row.length=s):xs.flatten.length=xs.length * s ∧
 ∀ (i j:Nat) (c:AV),j < s→xs.flatten[i * s+j]?=some c→∃ row,xs[i]?=some row∧row[j]?=some c:=by
 induction xs with
 | nil=>exact⟨by simp,by simp⟩
 | cons row xs ih=>
   have hr:=hs 0 row rfl
   obtain⟨h1,h2⟩:=ih (fun i r hi=>hs (i+1) r (by simpa using hi))
   refine⟨by simp[h1,hr,Nat.succ_mul];omega,fun i j c hj hc=>?_⟩
   rw[List.flatten_cons]at hc
   cases i with
   | zero=>
     rw[Nat.zero_mul,Nat.zero_add,List.getElem?_append_left (by omega)]at hc
     exact⟨row,rfl,hc⟩
   | succ i=>
     rw[List.getElem?_append_right (by rw[hr,Nat.succ_mul];omega)]at hc
     rw[hr,show(i+1) * s+j - s=i * s+j by rw[Nat.succ_mul];omega]at hc
     obtain⟨r,g1,g2⟩:=h2 i j c hj hc
     exact⟨r,by simpa using g1,g2⟩
theorem zoD {k n s:Nat} (h:k < n * s):k / s < n∧k % s < s∧k=k / s * s+k % s:=by
 have hs:0 < s:=by
  rcases Nat.eq_zero_or_pos s with e|e
  ·subst e;omega
  ·exact e
 refine⟨(Nat.div_lt_iff_lt_mul hs).2 h,Nat.mod_lt _ hs,?_⟩
 have:=Nat.div_add_mod k s
 rw[Nat.mul_comm]at this
 omega
theorem zkS (h:R B H w G) {t:TypeId}{x c:AV}{xv:Value}{lo hi:Option AV}{lov hiv:Option Value} (hx:VR G x xv) (hl:VRO G lo lov) (hh:VRO G hi hiv) (hs:zaP P H t x lo hi=some c) :
 ∃ v,(Instr.sliceAt t xv lov hiv none).run P w=.ok v w∧VR G c v:=by
 unfold zaP at hs
 split at hs
 ·rename_i r off
  split at hs
  ·rename_i n e cs imm tip hd hg
   split at hs
   ·rename_i z l h' hz bl bh
    split at hs
    ·rename_i hc
     obtain⟨h1,h2,h3⟩:=hc
     cases hx with
     | ptr hr=>
       rename_i b o x
       have hf:=h.fits _ _ _ _ _ _ _ hr hg
       have hb:=zeU (P:=P) (w:=w) (cap:=n) hl hh bl bh h1 h2 (Nat.le_refl _) false
       have hrun:(Instr.sliceAt t (.pointer (some ⟨b,o+off,none⟩)) lov hiv none).run P w=.ok (.slice (some (if n=l then ⟨b,o+off,none⟩else ⟨b,o+off+l * z,none⟩)) (h' - l) (n - l)) w:=by
        simp only[Instr.sliceAt,Sem.run_bind,zU hd,Result.andThen_ok]
        simp[Instr.sureAddr,hb,jp hz,j0]
       split at hs
       ·rename_i e1
        simp only[Option.some.injEq]at hs
        subst hs
        subst e1
        rw[Nat.sub_self]at hrun
        exact⟨_,hrun,.lst0 _ _⟩
       ·rename_i hne
        simp only[Option.some.injEq]at hs
        subst hs
        rw[if_neg (by omega)]at hrun
        refine⟨_,hrun,?_⟩
        rw[Nat.add_assoc]
        refine .sl hr (by omega) ?_
        have e3:(n - l) * z+l * z=n * z:=by rw[← Nat.add_mul];congr 1;omega
        omega
    ·simp at hs
   ·simp at hs
  ·simp at hs
 ·exact zoB hx hl hh hs
theorem zjQ (h:R B H w G) {s n:Nat}{x:AV}{xv:Value}{l:List AV} (hx:VR G x xv) (hs:yk H s x=some (n,l)) :
 ∃ nv,VRs G l nv∧nv.length=n * s∧(∀ w',(Builtin.lenOf xv).run P w'=.ok n w')∧(∀ w',(∀ a,w'.cell? a=w.cell? a)→(Builtin.firstCells s n xv).run P w'=.ok nv.toArray w'):=by
 unfold yk at hs
 split at hs
 ·rename_i r off len z
  cases hx with
  | sl hr hl hc=>
    rename_i b o x cap
    split at hs
    ·rename_i cs imm tip hg
     simp only[]at hs
     split at hs
     ·rename_i hlen
      simp only[Option.some.injEq,Prod.mk.injEq]at hs
      obtain⟨rfl,rfl⟩:=hs
      obtain⟨vs,h1,h2⟩:=(((h.cells _ _ _ _ _ _ _ hr hg).drop off).take (len * s)).list
      have hvl:vs.length=len * s:=by rw[← h1.1];exact hlen
      refine⟨vs,h1,hvl,fun w'=>by simp[Builtin.lenOf],fun w' hw=>?_⟩
      exact run_firstCells_some w' s len _ len cap vs hvl (fun j v hj=>by rw[hw,j0];exact h2 j v hj)
     ·simp at hs
    ·simp at hs
 ·rename_i xs
  split at hs
  ·rename_i hall
   simp only[Option.some.injEq,Prod.mk.injEq]at hs
   obtain⟨rfl,rfl⟩:=hs
   have hrow:∀ (i:Nat) (row:List AV),xs[i]?=some row→row.length=s:=fun i row hi=>by
    have:=List.all_eq_true.1 hall row (List.mem_of_getElem? hi)
    simpa using this
   obtain⟨hfl,hfg⟩:=zkR hrow
   cases hx with
   | lst0 a cap=>
     refine⟨[],VRs.nil G,by simp,fun w'=>by simp[Builtin.lenOf],fun w' hw=>?_⟩
     cases a with
     | none=>simp[Builtin.firstCells]
     | some a=>
       simp[Builtin.firstCells]
       rfl
   | lst vs hz hF hv hcap=>
     rename_i b o cap z
     have hzs:xs.length=0∨z=s:=by
      cases xs with
      | nil=>exact .inl rfl
      | cons row xs=>exact .inr (by rw[← hz 0 row rfl,hrow 0 row rfl])
     have hh:zb3 G w b o xs.flatten:=fun k c hk=>by
      have hklt:k < xs.length * s:=by rw[← hfl];exact(List.getElem?_eq_some_iff.1 hk).1
      obtain⟨d1,d2,d3⟩:=zoD hklt
      have hz':z=s:=by
       rcases hzs with e|e
       ·rw[e]at hklt;omega
       ·exact e
      subst hz'
      obtain⟨row,g1,g2⟩:=hfg (k / z) (k % z) c d2 (by rw[← d3];exact hk)
      refine⟨vs (k / z) (k % z),?_,hv _ _ row c g1 g2⟩
      have:=h.frz _ _ _ (hF (k / z) (k % z) d1 d2)
      rw[show o+k=o+k / z * z+k % z by omega]
      exact this
     obtain⟨nv,h1,h2⟩:=hh.list
     have hvl:nv.length=xs.length * s:=by rw[← h1.1];exact hfl
     refine⟨nv,h1,hvl,fun w'=>by simp[Builtin.lenOf],fun w' hw=>?_⟩
     exact run_firstCells_some w' s xs.length _ xs.length cap nv hvl (fun j v hj=>by rw[hw,j0];exact h2 j v hj)
  ·simp at hs
 ·simp only[Option.some.injEq,Prod.mk.injEq]at hs
  obtain⟨rfl,rfl⟩:=hs
  cases hx
  exact⟨[],VRs.nil G,by simp,fun w'=>by simp[Builtin.lenOf],fun w' hw=>by simp[Builtin.firstCells]⟩
 ·rename_i b
  split at hs
  ·rename_i e
   subst e
   simp only[Option.some.injEq,Prod.mk.injEq]at hs
   obtain⟨rfl,rfl⟩:=hs
   cases hx with
   | str sv _ hb=>
     subst hb
     have hsz:sv.data.toList.length=sv.size:=by show sv.data.toList.length=sv.data.size;simp
     refine⟨sv.data.toList.map fun x=>.int .u8 x.toNat,⟨by simp,fun i c v hc hv=>?_⟩,by simp,fun w'=>by simp[Builtin.lenOf,hsz],fun w' hw=>?_⟩
     ·rw[List.getElem?_map]at hc hv
      cases hi:sv.data.toList[i]? with
      | none=>rw[hi]at hc;simp at hc
      | some u=>
        rw[hi]at hc hv
        simp only[Option.map_some,Option.some.injEq]at hc hv
        subst hc hv
        exact .int _ _
     ·simp only[Builtin.firstCells,Sem.run_pure]
      congr 1
      apply Array.ext'
      have:(sv.extract 0 sv.data.toList.length).data.toList=sv.data.toList:=by
       rw[Lib.extract_data,List.drop_zero,Nat.sub_zero,List.take_length]
      simp only[Array.toList_map,this]
  ·simp at hs
 ·simp at hs
theorem zdL (z:Array Value) (n:Nat):(Builtin.zeroCells z n).toList.length=n * z.size:=by simp[Builtin.zeroCells]
theorem zdM {t u e ty:TypeId}{du:TypeDesc} (hd:P.underlying t=some (.slice e)) (hu:P.underlying u=some du) (hni:∀ k,du≠.int k) {s:Nat} (hs:zG P e=some s)
 {a:Option Addr}{len cap n:Nat} (hlc:len+n≤cap) {xv:Value}{nv:List Value} (hl:(Builtin.lenOf xv).run P w=.ok n w) (hf:(Builtin.firstCells s n xv).run P w=.ok nv.toArray w) :
 (Builtin.append_ #[t,u] ty #[.slice a len cap,xv]).run P w=(match a with
   | some a=>((storeCells (a.add (len * s)) nv).run P w).andThen fun _ w'=>.ok (.slice (some a) (len+n) cap) w'
   | none=>.ok (.slice none (len+n) cap) w):=by
 have hz:(match du with|.int _=>true | _=>false)=false:=by cases du<;>first|rfl|exact(hni _ rfl).elim
 simp only[Builtin.append_]
 simp[zU hd,zU hu,jp hs,hl]
 rw[if_pos hlc,hf]
 cases a<;>simp
theorem zdN {t u e ty:TypeId}{du:TypeDesc} (hd:P.underlying t=some (.slice e)) (hu:P.underlying u=some du) (hni:∀ k,du≠.int k) {s:Nat} (hs:zG P e=some s) {b:Nat} (hb:z8 P e=some b)
 {zv:Value} (hz:∀ w,(zeroValue e).run P w=.ok zv w)
 {a:Option Addr}{len cap n:Nat} (hlc:cap < len+n) (hroom:(len+n) * b≤zW) (hroom':len+n≤zW) {xv:Value}{ov nv:List Value} (hl:(Builtin.lenOf xv).run P w=.ok n w) (hf:(Builtin.firstCells s n xv).run P w.drew=.ok nv.toArray w.drew)
 (ho:(Builtin.firstCells s len (.slice a len cap)).run P w.drew=.ok ov.toArray w.drew) :
 (Builtin.append_ #[t,u] ty #[.slice a len cap,xv]).run P w=.ok (.slice (some ⟨w.heap.size,0,none⟩) (len+n) (grownCap w (len+n) cap e))
   (w.drew.alloc (.cells (ov++nv++(Builtin.zeroCells zv.cells (grownCap w (len+n) cap e - (len+n))).toList).toArray e)):=by
 have hz':(match du with|.int _=>true | _=>false)=false:=by cases du<;>first|rfl|exact(hni _ rfl).elim
 obtain⟨i,hi,hib⟩:∃ i,P.info? e=some i∧i.bytes=b:=by simpa [z8,Option.map_eq_some_iff]using hb
 have hm:zW=70368744177664:=rfl
 rw[hm]at hroom hroom'
 have h48:¬ (281474976710656 < Builtin.nextslicecap (len+n) cap * b):=by
  have:=growslice_fits hlc (bytes:=b) (by omega)
  omega
 have h63:¬ (9223372036854775807 < ((len:Int)+(n:Int))):=by omega
 have h1:¬ (len+n≤cap):=by omega
 simp only[Builtin.append_]
 simp[zU hd,zU hu,jp hs,hl,h1,zcR hi,hib,h63,h48,Question.forced,ho,hf,hz,newRow,grownCap]
 congr 2
 apply Array.ext'
 simp
theorem R.heap {w':World} (h:R B H w G) (e:w'.heap=w.heap):R B H w' G:=by
 have k:∀ a,w'.cell? a=w.cell? a:=fun a=>by simp[World.cell?,e]
 have kf:∀ a,w'.frozen? a=w.frozen? a:=fun a=>by simp[World.frozen?,e]
 exact {
  base:=by rw[e];exact h.base
  dom:=h.dom
  lt:=fun r b o x hr=>by rw[e];exact h.lt r b o x hr
  cells:=fun r b o x cs imm tip hr hc j c hj=>by rw[k];exact h.cells r b o x cs imm tip hr hc j c hj
  imm:=h.imm
  ext:=h.ext
  fits:=h.fits
  room:=fun r b o x cs imm tip hr hc j hj hjl=>by rw[k,kf];exact h.room r b o x cs imm tip hr hc j hj hjl
  apart:=h.apart
  map:=fun r b o x es hr hc=>by rw[e];exact h.map r b o x es hr hc
  mapApart:=h.mapApart
  frz:=fun b o v hf=>by rw[k];exact h.frz b o v hf
  val:=h.val
  sym:=h.sym }
theorem Step.of_drew {nx:Nat}{w':World}{G':Gh} (h:Step B nx G w.drew H' w' G'):Step B nx G w H' w' G':=
 ⟨h.r,h.ext,⟨h.fr.os,h.fr.tape,h.fr.output,h.fr.size,h.fr.block⟩,h.new,h.low,h.mono,h.icy⟩
theorem zb3.first {b o off s len:Nat}{cs:List AV} (hh:zb3 G w b o cs) (hl:off+len * s=cs.length) {cap:Nat} :
 ∃ ov,VRs G (cs.drop off) ov∧ov.length=len * s∧∀ w',(∀ a,w'.cell? a=w.cell? a)→(Builtin.firstCells s len (.slice (some ⟨b,o+off,none⟩) len cap)).run P w'=.ok ov.toArray w':=by
 obtain⟨vs,h1,h2⟩:=(hh.drop off).list
 have hvl:vs.length=len * s:=by rw[← h1.1,List.length_drop];omega
 exact⟨vs,h1,hvl,fun w' hw=>run_firstCells_some w' s len _ len cap vs hvl (fun j v hj=>by rw[hw,j0];exact h2 j v hj)⟩
theorem zfn {u:TypeId} (h:jh P u=true):∃ d,P.underlying u=some d∧∀ k,d≠.int k:=by
 unfold jh at h
 split at h
 ·rename_i e hd;exact⟨_,hd,by simp⟩
 ·rename_i hd;exact⟨_,hd,by simp⟩
 ·simp at h
theorem zoE (h:R B H w G) (keep:Bool) (s:Nat) (sv:AV):Step B H.next G w (zae keep H s sv) w G:=by
 unfold zae
 split
 ·rename_i r off len z
  split
  ·rename_i cs imm hg
   split
   ·rename_i hc
    simp only[Bool.and_eq_true]at hc
    have h1:off+len * s < cs.length:=by simpa [Nat.blt_eq]using hc.1.2
    have h2:=Nat.le_of_ble_eq_true hc.2
    generalize off+len * s=m at h1 h2
    have hgs:∀ r' b',(H.set r (.cells (cs.take m) imm true)).get r'=some b'→(r'=r∧b'=.cells (cs.take m) imm true)∨(r'≠r∧H.get r'=some b'):=fun r' b' he=>by
     rw[Hp.get_set]at he
     split at he
     ·rename_i e;simp only[Option.some.injEq]at he;exact .inl ⟨e,he.symm⟩
     ·rename_i e;exact .inr ⟨e,he⟩
    have hsub:∀ r' cs' imm' tip',(H.set r (.cells (cs.take m) imm true)).get r'=some (.cells cs' imm' tip')→∃ cs0,H.get r'=some (.cells cs0 imm' tip')∧(∀ (j:Nat) c,cs'[j]?=some c→cs0[j]?=some c)∧cs'.length≤cs0.length∧(∀ x,yK x cs' tip'=yK x cs0 tip'):=fun r' cs' imm' tip' he=>by
     rcases hgs r' _ he with ⟨rfl,e⟩|⟨_,e⟩
     ·simp only[HB.cells.injEq]at e
      obtain⟨rfl,rfl,rfl⟩:=e
      refine⟨cs,hg,fun j c hj=>?_,by rw[List.length_take];omega,fun x=>rfl⟩
      rw[List.getElem?_take]at hj
      split at hj
      ·exact hj
      ·simp at hj
     ·exact⟨cs',e,fun _ _ h=>h,Nat.le_refl _,fun _=>rfl⟩
    refine⟨?_,Ext.refl _,Fr.refl _ _,New.refl _ _,fun _ _ h=>.inl h,Nat.le_refl _,fun _ _ _ h=>.inl h⟩
    exact {
     base:=h.base
     dom:=h.dom
     lt:=h.lt
     cells:=fun r' b o x cs' imm' tip' hr hc' j c hj=>by
      obtain⟨cs0,e1,e2,_⟩:=hsub r' cs' imm' tip' hc'
      exact h.cells r' b o x cs0 imm' tip' hr e1 j c (e2 j c hj)
     imm:=fun r' b o x cs' imm' tip' hr hc' j hj hjl=>by
      obtain⟨cs0,e1,_,e3,_⟩:=hsub r' cs' imm' tip' hc'
      exact h.imm r' b o x cs0 imm' tip' hr e1 j hj (by omega)
     ext:=fun r' b o x cs' imm' tip' hr hc'=>by
      obtain⟨cs0,e1,_,e3,e4⟩:=hsub r' cs' imm' tip' hc'
      have:=h.ext r' b o x cs0 imm' tip' hr e1
      rw[e4];omega
     fits:=fun r' b o x cs' imm' tip' hr hc'=>by
      obtain⟨cs0,e1,_,e3,e4⟩:=hsub r' cs' imm' tip' hc'
      have:=h.fits r' b o x cs0 imm' tip' hr e1
      omega
     room:=fun r' b o x cs' imm' tip' hr hc' j hj hjl=>by
      obtain⟨cs0,e1,_,_,e4⟩:=hsub r' cs' imm' tip' hc'
      exact h.room r' b o x cs0 imm' tip' hr e1 j hj (by rw[← e4];exact hjl)
     apart:=fun r1 b1 o1 x1 cs1 imm1 tip1 r2 b2 o2 x2 cs2 imm2 tip2 hr1 hc1 hr2 hc2 hne j j' q1 q2 q3 q4=>by
      obtain⟨cs01,e1,_,_,e14⟩:=hsub r1 cs1 imm1 tip1 hc1
      obtain⟨cs02,e2,_,_,e24⟩:=hsub r2 cs2 imm2 tip2 hc2
      exact h.apart r1 b1 o1 x1 cs01 imm1 tip1 r2 b2 o2 x2 cs02 imm2 tip2 hr1 e1 hr2 e2 hne j j' q1 (by rw[← e14];exact q2) q3 (by rw[← e24];exact q4)
     map:=fun r' b o x es hr hc'=>by
      rcases hgs r' _ hc' with ⟨_,e⟩|⟨_,e⟩
      ·simp at e
      ·exact h.map r' b o x es hr e
     mapApart:=fun r1 b1 o1 x1 es r2 b2 o2 x2 hr1 hc1 hr2 hc2 hne=>by
      rcases hgs r1 _ hc1 with ⟨_,e⟩|⟨_,e⟩
      ·simp at e
      ·refine h.mapApart r1 b1 o1 x1 es r2 b2 o2 x2 hr1 e hr2 ?_ hne
       rw[Hp.get_set]at hc2
       split at hc2
       ·rename_i e2;rw[e2,hg];rfl
       ·exact hc2
     frz:=h.frz
     val:=h.val
     sym:=h.sym }
   ·exact Step.refl h
  ·exact Step.refl h
 ·exact Step.refl h
theorem zmg (h:R B H w G) {keep:Bool}{t u ty:TypeId}{sv x c:AV}{svv xv:Value} (hsv:VR G sv svv) (hx:VR G x xv) (ha:zX P keep H t u sv x=some (c,H')) :
 ∃ v w' G',(Builtin.append_ #[t,u] ty #[svv,xv]).run P w=.ok v w'∧VR G' c v∧Step B H.next G w H' w' G':=by
 unfold zX at ha
 split at ha
 ·rename_i e hd
  split at ha
  ·rename_i s b z hs hb hz
   split at ha
   ·rename_i l0 hst hsrc
    obtain⟨du,hu,hni⟩:=zfn hst
    obtain⟨nv,h1,h2,h3,h4⟩:=zjQ (P:=P) h hx hsrc
    have hnv:nv=[]:=by rw[Nat.zero_mul]at h2;exact List.length_eq_zero_iff.1 h2
    subst hnv
    have key:∀ a len cap,svv=.slice a len cap→len≤cap→(Builtin.append_ #[t,u] ty #[svv,xv]).run P w=.ok svv w:=fun a len cap e hlc=>by
     subst e
     rw[zdM hd hu hni hs (n:=0) (by omega) (h3 w) (h4 w (fun _=>rfl))]
     cases a<;>simp[storeCells]
    split at ha
    ·simp only[Option.some.injEq,Prod.mk.injEq]at ha
     obtain⟨rfl,rfl⟩:=ha
     refine⟨svv,w,G,?_,hsv,Step.refl h⟩
     cases hsv with
     | sl hr hl hc=>exact key _ _ _ rfl hl
    ·simp only[Option.some.injEq,Prod.mk.injEq]at ha
     obtain⟨rfl,rfl⟩:=ha
     refine⟨svv,w,G,?_,hsv,Step.refl h⟩
     cases hsv with
     | lst vs hz hF hv hc=>exact key _ _ _ rfl hc
     | lst0 a cap=>exact key _ _ _ rfl (Nat.zero_le _)
    ·simp only[Option.some.injEq,Prod.mk.injEq]at ha
     obtain⟨rfl,rfl⟩:=ha
     refine⟨svv,w,G,?_,hsv,Step.refl h⟩
     cases hsv with
     | nilS=>exact key _ _ _ rfl (Nat.le_refl _)
    ·simp at ha
   ·rename_i n new hnz hst hsrc
    obtain⟨du,hu,hni⟩:=zfn hst
    obtain⟨nv,h1,h2,h3,h4⟩:=zjQ (P:=P) h hx hsrc
    have hn0:n≠0:=fun e=>by subst e;exact hnz rfl
    have hnl:new.length=n * s:=by rw[h1.1,h2]
    obtain⟨zv,hzr,hzv⟩:=zcS hz
    split at ha
    ·rename_i hcond
     obtain⟨hone,hzl⟩:=hcond
     have hzs:zv.cells.size=s:=by have:=(hzv G).1;rw[hzl]at this;simpa using this.symm
     have ht:=zoE h keep s sv
     suffices hgoal:∃ v w' G',(Builtin.append_ #[t,u] ty #[svv,xv]).run P w=.ok v w'∧VR G' c v∧Step B (zae keep H s sv).next G w H' w' G' by
      obtain⟨v,w',G',g1,g2,g3⟩:=hgoal
      exact⟨v,w',G',g1,g2,ht.trans g3⟩
     replace h:=ht.r
     clear ht hsrc
     generalize zae keep H s sv=H at ha h ⊢
     unfold yY at ha
     split at ha
     ·-- onto nil
      split at ha
      ·rename_i hroom
       simp only[Option.some.injEq,Prod.mk.injEq]at ha
       obtain⟨rfl,rfl⟩:=ha
       cases hsv
       have hrun:=zdN (P:=P) (w:=w) (ty:=ty) hd hu hni hs hb hzr (a:=none) (len:=0) (cap:=0) (n:=n) (ov:=[]) (by omega) (by simpa using hroom.1) (by simpa using hroom.2) (h3 w) (h4 w.drew (fun _=>rfl)) (by simp[Builtin.firstCells])
       have hst':=zda (h.heap (w':=w.drew) rfl) h1 (Builtin.zeroCells zv.cells (grownCap w (0+n) 0 e - (0+n))).toList e
       have hge:=grownCap_ge w (0+n) 0 e
       refine⟨_,_,_,hrun,?_,hst'.of_drew⟩
       rw[Nat.zero_add]at hge ⊢
       refine .sl (jP _ _ _) hge ?_
       rw[zdL,hzs,h2]
       have:grownCap w n 0 e * s=n * s+(grownCap w n 0 e - n) * s:=by rw[← Nat.add_mul];congr 1;omega
       simp
       omega
      ·simp at ha
     ·-- onto a row of its own
      rename_i r off len zz
      split at ha
      ·rename_i cs imm hg
       split at ha
       ·rename_i hcond2
        obtain⟨hr1,hr2,hend,rfl,himm⟩:=hcond2
        cases hsv with
        | sl hr hlc hcx=>
          rename_i b0 o0 x0 cap
          have hHolds:=h.cells _ _ _ _ _ _ _ hr hg
          have hex:=h.ext _ _ _ _ _ _ _ hr hg
          simp only[yK]at hex
          have hoff:off≤cs.length:=by omega
          obtain⟨ov,o1,o2,o3⟩:=hHolds.first (P:=P) (off:=off) (s:=zz) (len:=len) hend (cap:=cap)
          have hrn:r≠H.next:=fun e=>by have:=h.dom _ _ hr;omega
          by_cases hfit:len+n≤cap
          ·-- in its room
           have hrun:=zdM (P:=P) (w:=w) (ty:=ty) hd hu hni hs (a:=some ⟨b0,o0+off,none⟩) hfit (h3 w) (h4 w (fun _=>rfl))
           simp only[]at hrun
           rw[j0,Nat.add_assoc,hend]at hrun
           have hcap:(len+n) * zz≤cap * zz:=Nat.mul_le_mul_right _ hfit
           rw[Nat.add_mul]at hcap
           cases keep with
           | false=>
             simp only[Bool.false_eq_true,if_false,Option.some.injEq,Prod.mk.injEq]at ha
             obtain⟨rfl,rfl⟩:=ha
             obtain⟨w',hw,hstw⟩:=zdI P hr cs.length new nv cs 0 H w h hg h1 (h1.oneCell hone) (by omega) (by omega) (by simp only[yK];omega) (by simp)
             rw[hw]at hrun
             simp only[Result.andThen_ok]at hrun
             rw[Nat.add_zero,zhH]at hstw
             have hstr:=zgB hstw.r (r:=r) (cs:=cs++new) (imm:=imm) hr (by rw[Hp.get_set,if_pos rfl]) (off:=off) (by simp;omega)
             refine⟨_,w',_,hrun,?_,(hstw.trans hstr).congr rfl fun k _=>?_⟩
             ·refine .sl (jP _ _ _) hfit ?_
              omega
             ·rw[za,za,zR,zR,Hp.get_set,List.drop_append_of_le_length hoff]
              simp only[zY,ze]
              by_cases e1:k=H.next
              ·simp only[e1,if_true]
              ·by_cases e2:k=r
               ·simp only[e2,if_true]
               ·simp only[e1,e2,if_false]
           | true=>
             simp only[if_true,Option.some.injEq,Prod.mk.injEq]at ha
             obtain⟨rfl,rfl⟩:=ha
             have hice:=zdJ h hr hg (n:=cs.length) himm (Nat.le_refl _) true (fun _=>rfl)
             obtain⟨w',hw,hstw⟩:=zdI P (G:=G.ice w b0 o0 cs.length) (r:=r) (imm:=cs.length) (tip:=true) hr cs.length new nv cs 0 _ w hice.r (by rw[Hp.get_set,if_pos rfl]) (h1.mono hice.ext) (h1.oneCell hone) (by omega) (by omega) (by simp only[yK];omega) (by simp)
             rw[hw]at hrun
             simp only[Result.andThen_ok]at hrun
             rw[Nat.add_zero,zhH]at hstw
             have hgr:((H.set r (.cells cs cs.length true)).set r (.cells (cs++new) cs.length true)).get r=some (.cells (cs++new) cs.length true):=by rw[Hp.get_set,if_pos rfl]
             have hstr:=zgB hstw.r (r:=r) (cs:=cs++new) (imm:=cs.length) hr hgr (off:=off) (by simp;omega)
             have hmid:=(hice.trans hstw).trans hstr
             have hrr:((G.ice w b0 o0 cs.length).add H.next (b0,o0+off,x0 - off)).β r=some (b0,o0,x0):=by
              simp only[Gh.add];rw[if_neg hrn];exact hr
             have hnoMap:∀ r1 b1 o1 x1 es,((G.ice w b0 o0 cs.length).add H.next (b0,o0+off,x0 - off)).β r1=some (b1,o1,x1) →
              ((((H.set r (.cells cs cs.length true)).set r (.cells (cs++new) cs.length true)).kill r).alloc (.cells ((cs++new).drop off) (cs.length - off) true)).get r1=some (.map es)→b1≠b0:=fun r1 b1 o1 x1 es g1 g2=>by
              rw[za,zR,Hp.get_set,Hp.get_set]at g2
              simp only[zY,ze]at g2
              by_cases hne:r1=H.next
              ·simp[hne]at g2
              ·by_cases hne2:r1=r
               ·simp[hne2]at g2
               ·simp only[hne,hne2,if_false]at g2
                have g1':G.β r1=some (b1,o1,x1):=by simp only[Gh.add]at g1;rw[if_neg hne]at g1;exact g1
                exact h.mapApart r1 b1 o1 x1 es r b0 o0 x0 g1' g2 hr (by rw[hg];rfl) hne2
             have hHolds':zb3 ((G.ice w b0 o0 cs.length).add H.next (b0,o0+off,x0 - off)) w' b0 o0 cs:=fun j c hj=>by
              have hjl:j < cs.length:=(List.getElem?_eq_some_iff.1 hj).1
              have h5:=hstw.r.cells r b0 o0 x0 _ _ _ hr hgr j c (by rw[List.getElem?_append_left hjl];exact hj)
              obtain⟨v,q1,q2⟩:=h5
              exact⟨v,q1,q2.mono hstr.ext⟩
             have hFF:∀ j,j < cs.length→∃ v,((G.ice w b0 o0 cs.length).add H.next (b0,o0+off,x0 - off)).F b0 (o0+j)=some v:=fun j hj=>
              hice.r.imm r b0 o0 x0 cs cs.length true hr (by rw[Hp.get_set,if_pos rfl]) j hj hj
             have hrev:=zkG hmid.r hrr (h.fits _ _ _ _ _ _ _ hr hg) hHolds' hFF hnoMap
             refine⟨_,w',_,hrun,?_,(hmid.trans hrev).congr rfl fun k _=>?_⟩
             ·refine .sl (jP _ _ _) hfit ?_
              omega
             ·rw[Hp.get_set,za,za,zR,Hp.get_set,Hp.get_set,Hp.get_set,List.drop_append_of_le_length hoff]
              simp only[zY,ze]
              have:cs.length - off=len * zz:=by omega
              rw[this]
              by_cases e1:k=r
              ·subst e1;simp only[hrn,if_true,if_false]
              ·simp only[e1,if_false]
          ·-- a new row
           have hfit':cap < len+n:=by omega
           have hrun:=zdN (P:=P) (w:=w) (ty:=ty) hd hu hni hs hb hzr (a:=some ⟨b0,o0+off,none⟩) hfit' hr1 hr2 (h3 w) (h4 w.drew (fun _=>rfl)) (o3 w.drew (fun _=>rfl))
           have hge:=grownCap_ge w (len+n) cap e
           have hlen2:(ov++nv).length=(len+n) * zz:=by rw[List.length_append,o2,h2,Nat.add_mul]
           have hcapx:grownCap w (len+n) cap e * zz=(ov++nv).length+(Builtin.zeroCells zv.cells (grownCap w (len+n) cap e - (len+n))).toList.length:=by
            rw[zdL,hzs,hlen2,← Nat.add_mul];congr 1;omega
           have hst':=(zda (h.heap (w':=w.drew) rfl) (o1.append h1) (Builtin.zeroCells zv.cells (grownCap w (len+n) cap e - (len+n))).toList e).of_drew
           have hnn:∀ (X:HB) (k:Nat),k≠H.next→(H.alloc X).get k=H.get k:=fun X k hk=>by rw[za,if_neg hk]
           have hadd:∀ p,(G.add H.next p).β H.next=some p:=fun p=>jP _ _ _
           have hlenX:(cs.drop off++new).length=(len+n) * zz:=by rw[List.length_append,List.length_drop,hnl,Nat.add_mul];omega
           cases keep with
           | false=>
             simp only[Bool.false_eq_true,if_false,Option.some.injEq,Prod.mk.injEq]at ha
             obtain⟨rfl,rfl⟩:=ha
             have hk:=hst'.r.kill r
             have hgx:((H.alloc (.cells (cs.drop off++new) 0 true)).kill r).get H.next=some (.cells (cs.drop off++new) 0 true):=by
              rw[zR,if_neg (Ne.symm hrn),za,if_pos rfl]
             have hice:=zdJ hk (hadd _) hgx (n:=imm - off) (Nat.zero_le _) (by rw[hlenX,Nat.add_mul];omega) true (fun _=>rfl)
             have hst2:Step B H.next G w _ _ _:=⟨hk,hst'.ext,hst'.fr,hst'.new,hst'.low,hst'.mono,hst'.icy⟩
             refine⟨_,_,_,hrun,?_,(hst2.trans hice).congr rfl fun k _=>?_⟩
             ·exact .sl (hadd _) hge (by omega)
             ·rw[Hp.get_set,za,zR,zR,za]
              simp only[zY]
              by_cases e1:k=H.next
              ·simp only[e1,if_true]
              ·simp only[e1,if_false]
           | true=>
             simp only[if_true,Option.some.injEq,Prod.mk.injEq]at ha
             obtain⟨rfl,rfl⟩:=ha
             have hgx:(H.alloc (.cells (cs.drop off++new) 0 true)).get H.next=some (.cells (cs.drop off++new) 0 true):=by rw[za,if_pos rfl]
             have hice:=zdJ hst'.r (hadd _) hgx (n:=len * zz) (Nat.zero_le _) (by rw[hlenX,Nat.add_mul];omega) true (fun _=>rfl)
             have hgr:((H.alloc (.cells (cs.drop off++new) 0 true)).set H.next (.cells (cs.drop off++new) (len * zz) true)).get r=some (.cells cs imm true):=by
              rw[Hp.get_set,if_neg hrn,hnn _ _ hrn];exact hg
             have hice2:=zdJ hice.r (r:=r) (by
              show(G.add H.next _).β r=_
              simp only[Gh.add];rw[if_neg hrn];exact hr) hgr (n:=cs.length) himm (Nat.le_refl _) false (by simp)
             refine⟨_,_,_,hrun,?_,((hst'.trans hice).trans hice2).congr rfl fun k _=>?_⟩
             ·exact .sl (hadd _) hge (by omega)
             ·rw[Hp.get_set,Hp.get_set,za,za,Hp.get_set]
              simp only[ze]
              by_cases e1:k=H.next
              ·have e3:¬ H.next=r:=fun e=>hrn e.symm
               simp only[e1,e3,if_true,if_false]
              ·simp only[e1,if_false]
       ·simp at ha
      ·simp at ha
     ·simp at ha
    ·simp at ha
   ·simp at ha
  ·simp at ha
 ·simp at ha
end
section
variable {P:Program} {B:Bs} {G:Gh} {H H':Hp} {w:World}
theorem zoF (sv:ByteArray):sv.data.toList.length=sv.size:=by show sv.data.toList.length=sv.data.size;simp
theorem zgF (h:R B H w G) {m:AV}{mv:Value}{es:List (AV×AV)} (hm:VR G m mv) (he:zbY H m=some es) :
 (mv=.map none∧es=[])∨∃ r b o x ms clock,m=.map r∧mv=.map (some b)∧G.β r=some (b,o,x)∧H.get r=some (.map es)∧w.heap[b]?=some (.map ms clock)∧zkC G es ms.toList:=by
 unfold zbY at he
 split at he
 ·simp only[Option.some.injEq]at he
  subst he
  cases hm
  exact .inl ⟨rfl,rfl⟩
 ·rename_i r
  split at he
  ·rename_i es' hg
   simp only[Option.some.injEq]at he
   subst he
   cases hm with
   | map hr=>
     rename_i b o x
     obtain⟨ms,clock,h1,h2⟩:=h.map r b o x _ hr hg
     exact .inr ⟨r,b,o,x,ms,clock,rfl,rfl,hr,hg,h1,h2⟩
  ·simp at he
 ·simp at he
theorem zb4 {b:Nat}{ms:Array MapEntry}{clock:Nat} (h:w.heap[b]?=some (.map ms clock)):(getObj b).run P w=.ok (.map ms clock) w:=by
 simp[getObj,Sem.run,h]
theorem zsc (h:R B H w G) {t ty:TypeId}{x c:AV}{xv:Value} (hx:VR G x xv) (hl:ye P H t x=some c):∃ v,(Builtin.len_ #[t] ty #[xv]).run P w=.ok v w∧VR G c v:=by
 unfold ye at hl
 split at hl
 ·rename_i hd
  split at hl
  ·simp only[Option.some.injEq]at hl
   subst hl
   cases hx with
   | str sv _ hs=>
     subst hs
     refine⟨_,?_,.int _ _⟩
     rw[zoF]
     simp[Builtin.len_,zU hd,goInt]
  ·simp at hl
 ·rename_i e hd
  split at hl
  ·simp only[Option.some.injEq]at hl
   subst hl
   cases hx
   exact⟨_,by simp[Builtin.len_,zU hd,goInt],.int _ _⟩
  ·simp only[Option.some.injEq]at hl
   subst hl
   cases hx
   ·exact⟨_,by simp[Builtin.len_,zU hd,goInt],.int _ _⟩
   ·exact⟨_,by simp[Builtin.len_,zU hd,goInt],.int _ _⟩
  ·simp only[Option.some.injEq]at hl
   subst hl
   cases hx
   exact⟨_,by simp[Builtin.len_,zU hd,goInt],.int _ _⟩
  ·simp at hl
 ·rename_i n e hd
  simp only[Option.some.injEq]at hl
  subst hl
  refine⟨.int .i64 n,?_,.int _ _⟩
  simp only[Builtin.len_]
  simp[zU hd,goInt]
 ·rename_i kt e hd
  split at hl
  ·rename_i es he
   simp only[Option.some.injEq]at hl
   subst hl
   rcases zgF h hx he with ⟨rfl,rfl⟩|⟨r,b,o,xx,ms,clock,rfl,rfl,hr,hg,hw,hes⟩
   ·exact⟨_,by simp[Builtin.len_,zU hd,goInt],.int _ _⟩
   ·refine⟨.int .i64 es.length,?_,.int _ _⟩
    have:ms.size=es.length:=by have:=hes.1;simpa using this.symm
    simp[Builtin.len_,zU hd,zb4 hw,goInt,this]
  ·simp at hl
 ·simp at hl
theorem mm_sim {mx:Bool}{x y c:AV}{xv yv:Value} (hx:VR G x xv) (hy:VR G y yv) (h:mm mx x y=some c):∃ v,((if mx then Builtin.max2 else Builtin.min2) xv yv).run P w=.ok v w∧VR G c v:=by
 unfold mm at h
 split at h
 ·simp only[Option.some.injEq]at h
  subst h
  cases hx;cases hy
  cases mx
  ·refine⟨_,rfl,?_⟩
   simp only[Bool.false_eq_true,if_false,decide_eq_true_eq]
   exact .int _ _
  ·refine⟨_,rfl,?_⟩
   simp only[if_true,decide_eq_true_eq]
   exact .int _ _
 ·simp at h
theorem zjR {mx:Bool}:∀ {xs:List AV}{xvs:List Value}{x c:AV}{xv:Value},VR G x xv→VRs G xs xvs→mms mx x xs=some c →
 ∃ v,(xvs.foldlM (if mx then Builtin.max2 else Builtin.min2) xv).run P w=.ok v w∧VR G c v
 | [],xvs,x,c,xv,hx,hxs,h=>by
   simp only[mms,Option.some.injEq]at h
   subst h
   have:xvs=[]:=by have:=hxs.1;simpa using this.symm
   subst this
   exact⟨xv,rfl,hx⟩
 | y::ys,[],_,_,_,_,hxs,_=>by have:=hxs.1;simp at this
 | y::ys,yv::yvs,x,c,xv,hx,hxs,h=>by
   obtain⟨h1,h2⟩:=hxs.of_cons
   simp only[mms]at h
   split at h
   ·rename_i z hz
    obtain⟨zv,g1,g2⟩:=mm_sim (P:=P) (w:=w) hx h1 hz
    obtain⟨v,k1,k2⟩:=zjR g2 h2 h
    exact⟨v,by rw[List.foldlM_cons,Sem.run_bind,g1];exact k1,k2⟩
   ·simp at h
theorem zde {t:TypeId}{d:TypeDesc} (h:zam P t=some d):P.underlying t=some d∧((∃ k,d=.int k)∨d=.string∨d=.bool):=by
 unfold zam at h
 split at h<;>simp only[Option.some.injEq,reduceCtorEq]at h<;>subst h
 ·rename_i k hd;exact⟨hd,.inl ⟨k,rfl⟩⟩
 ·rename_i hd;exact⟨hd,.inr (.inl rfl)⟩
 ·rename_i hd;exact⟨hd,.inr (.inr rfl)⟩
theorem zjS {d:TypeDesc}{x y:AV}{xv yv:Value}{r:Bool} (hx:VR G x xv) (hy:VR G y yv) (h:zg1 d x y=some r):Instr.sameNow d xv yv=some r:=by
 unfold zg1 at h
 split at h
 ·split at h
  ·cases hx;cases hy;exact h
  ·simp at h
 ·split at h
  ·cases hx with
   | str a _ ha=>cases hy with
     | str b _ hb=>
       subst ha hb
       simp only[Option.some.injEq]at h
       subst h
       simp only[Instr.sameNow,Option.some.injEq]
       show(a.data == b.data)=(a.data.toList == b.data.toList)
       rw[Bool.eq_iff_iff]
       simp only[beq_iff_eq,Array.toList_inj]
  ·simp at h
 ·split at h
  ·cases hx;cases hy;exact h
  ·simp at h
 ·simp at h
theorem zhM {d:TypeDesc}{k:AV}{kv:Value} (hk:VR G k kv):∀ {es:List (AV×AV)}{ms:List MapEntry}{i:Nat},zkC G es ms →
 (jn d k es i=some none→Instr.findNow d kv ms i=some none) ∧
 (∀ j v,jn d k es i=some (some (j,v))→∃ k' m,es[j - i]?=some (k',v)∧ms[j - i]?=some m∧i≤j∧zg1 d k k'=some true∧Instr.findNow d kv ms i=some (some (j,m.val)))
 | [],ms,i,he=>by
   have:ms=[]:=by have:=he.1;simpa using this.symm
   subst this
   exact⟨fun _=>rfl,fun j v h=>by simp[jn]at h⟩
 | e::es,[],i,he=>by have:=he.1;simp at this
 | (k',v')::es,m::ms,i,he=>by
   obtain⟨h1,h2⟩:=he.2 0 (k',v') m rfl rfl
   have he':zkC G es ms:=⟨by simpa using he.1,fun j a b ha hb=>he.2 (j+1) a b (by simpa using ha) (by simpa using hb)⟩
   obtain⟨r1,r2⟩:=zhM (d:=d) hk (i:=i+1) he'
   constructor
   ·intro h
    simp only[jn]at h
    split at h
    ·simp at h
    ·rename_i hf
     have:=zjS hk h1 hf
     simp only[Instr.findNow,this]
     exact r1 h
    ·simp at h
   ·intro j v h
    simp only[jn]at h
    split at h
    ·rename_i hf
     simp only[Option.some.injEq,Prod.mk.injEq]at h
     obtain⟨rfl,rfl⟩:=h
     have:=zjS hk h1 hf
     exact⟨k',m,by simp,by simp,Nat.le_refl _,hf,by simp only[Instr.findNow,this]⟩
    ·rename_i hf
     have:=zjS hk h1 hf
     obtain⟨k2,m2,g1,g2,g3,g4,g5⟩:=r2 j v h
     have e1:j - i=(j - (i+1))+1:=by omega
     refine⟨k2,m2,by rw[e1];simpa using g1,by rw[e1];simpa using g2,by omega,g4,?_⟩
     simp only[Instr.findNow,this]
     exact g5
    ·simp at h
theorem zi0 (n:Nat) {kt:TypeId}{d:TypeDesc} (hd:zam P kt=some d) (e:Bool) (kv:Value):(Instr.checkKey e (n+1) kt kv).run P w=.ok () w:=by
 obtain⟨h1,h2⟩:=zde hd
 simp only[Instr.checkKey,Sem.run_bind,zU h1,Result.andThen_ok]
 rcases h2 with ⟨k,rfl⟩|rfl|rfl<;>rfl
theorem zbe {kt:TypeId}{d:TypeDesc} (hd:zam P kt=some d) (e:Bool) (kv:Value):(Instr.checkKey e 10000 kt kv).run P w=.ok () w:=zi0 9999 hd e kv
theorem zbG {kt:TypeId}{d:TypeDesc} (hd:P.underlying kt=some d) {kv:Value}{ms:List MapEntry}{r:Option (Nat×Value)} (h:Instr.findNow d kv ms 0=some r):(Instr.findKey kt kv ms).run P w=.ok r w:=by
 simp[Instr.findKey,zU hd,h]
theorem zmh {t kt e:TypeId}{d:TypeDesc} (hd:P.underlying t=some (.map kt e)) (hk:zam P kt=some d) {mv kv:Value}{ok:Bool}{ms:Array MapEntry}
 (hm:(mv=.map none∧ms=#[])∨∃ b clock,mv=.map (some b)∧w.heap[b]?=some (.map ms clock)) :
 (∀ j v,Instr.findNow d kv ms.toList 0=some (some (j,v))→(Instr.lookup t mv kv ok).run P w=.ok (if ok then .tuple #[v,.bool true]else v) w) ∧
 (∀ zv,(zeroValue e).run P w=.ok zv w→Instr.findNow d kv ms.toList 0=some none→(Instr.lookup t mv kv ok).run P w=.ok (if ok then .tuple #[zv,.bool false]else zv) w):=by
 have hkd:=(zde hk).1
 rcases hm with ⟨rfl,rfl⟩|⟨b,clock,rfl,hw⟩
 ·refine⟨fun j v hf=>by simp[Instr.findNow]at hf,fun zv hz hf=>?_⟩
  have hfk:=zbG (P:=P) (w:=w) hkd hf
  simp only[Instr.lookup,Sem.run_bind,zU hd,Result.andThen_ok,Sem.run_pure,zbe hk,hfk,hz]
 ·refine⟨fun j v hf=>?_,fun zv hz hf=>?_⟩
  ·have hfk:=zbG (P:=P) (w:=w) hkd hf
   simp only[Instr.lookup,Sem.run_bind,zU hd,Result.andThen_ok,zb4 hw,Sem.run_pure,zbe hk,hfk]
  ·have hfk:=zbG (P:=P) (w:=w) hkd hf
   simp only[Instr.lookup,Sem.run_bind,zU hd,Result.andThen_ok,zb4 hw,Sem.run_pure,zbe hk,hfk,hz]
theorem zmi (h:R B H w G) {t:TypeId}{m k c:AV}{mv kv:Value}{ok:Bool} (hm:VR G m mv) (hk:VR G k kv) (hl:ji P H t m k ok=some c) :
 ∃ v,(Instr.lookup t mv kv ok).run P w=.ok v w∧VR G c v:=by
 unfold ji at hl
 split at hl
 ·rename_i kt e hd
  split at hl
  ·rename_i es kind hes hkind
   obtain⟨ms,hms,hE⟩:∃ ms:Array MapEntry,((mv=.map none∧ms=#[])∨∃ b clock,mv=.map (some b)∧w.heap[b]?=some (.map ms clock))∧zkC G es ms.toList:=by
    rcases zgF h hm hes with ⟨rfl,rfl⟩|⟨r,b,o,xx,ms,clock,rfl,rfl,hr,hg,hw,he⟩
    ·exact⟨#[],.inl ⟨rfl,rfl⟩,rfl,by simp⟩
    ·exact⟨ms,.inr ⟨b,clock,rfl,hw⟩,he⟩
   obtain⟨f1,f2⟩:=zhM (d:=kind) hk (i:=0) hE
   obtain⟨r1,r2⟩:=zmh (kv:=kv) (ok:=ok) hd hkind hms
   split at hl
   ·rename_i j v hf
    simp only[Option.some.injEq]at hl
    subst hl
    obtain⟨k',m',g1,g2,_,_,g5⟩:=f2 j v hf
    have hv:=(hE.2 _ _ _ g1 g2).2
    refine⟨_,r1 _ _ g5,?_⟩
    cases ok
    ·exact hv
    ·exact .tup (vs:=[m'.val,.bool true]) rfl (VRs.cons hv (VRs.cons (.bool true) (VRs.nil _))).2
   ·rename_i hf
    split at hl
    ·rename_i v hv
     simp only[Option.some.injEq]at hl
     subst hl
     obtain⟨zv,z1,z2⟩:=zov hv
     refine⟨_,r2 _ (z1 w) (f1 hf),?_⟩
     cases ok
     ·exact z2 G
     ·exact .tup (vs:=[zv,.bool false]) rfl (VRs.cons (z2 G) (VRs.cons (.bool false) (VRs.nil _))).2
    ·simp at hl
   ·simp at hl
  ·simp at hl
 ·simp at hl
end
section
variable {P:Program} {B:Bs} {G:Gh} {H H':Hp} {w:World}
theorem zeF (h:R B H w G) {r b o x:Nat}{es es':List (AV×AV)}{ms':Array MapEntry}{clock':Nat} (hr:G.β r=some (b,o,x)) (hg:H.get r=some (.map es)) (he:zkC G es' ms'.toList) :
 Step B H.next G w (H.set r (.map es')) { w with heap:=w.heap.setIfInBounds b (.map ms' clock') } G:=by
 obtain⟨ms,clock,hw,_⟩:=h.map r b o x es hr hg
 have hb:b < w.heap.size:=(h.lt r b o x hr).2
 let w':World:={ w with heap:=w.heap.setIfInBounds b (.map ms' clock') }
 have hheap:∀ k,k≠b→w'.heap[k]?=w.heap[k]?:=fun k hk=>by
  show(w.heap.setIfInBounds b _)[k]?=_
  rw[Array.getElem?_setIfInBounds,if_neg (Ne.symm hk)]
 have hheapb:w'.heap[b]?=some (.map ms' clock'):=by
  show(w.heap.setIfInBounds b _)[b]?=_
  simp[hb]
 have hcell:∀ b' o' v,w.cell? ⟨b',o',none⟩=some v→b'≠b:=fun b' o' v hc e=>by
  subst e
  unfold World.cell? at hc
  rw[hw]at hc
  simp at hc
 have hkeep:∀ b' o' v,w.cell? ⟨b',o',none⟩=some v→w'.cell? ⟨b',o',none⟩=some v:=fun b' o' v hc=>by
  rw[World.cell?_of_block (w:=w) (hheap b' (hcell b' o' v hc))];exact hc
 have hget:∀ k,k≠r→(H.set r (.map es')).get k=H.get k:=fun k hk=>by rw[Hp.get_set,if_neg hk]
 have hgetr:(H.set r (.map es')).get r=some (.map es'):=by rw[Hp.get_set,if_pos rfl]
 refine⟨?_,Ext.refl _,⟨rfl,rfl,rfl,by simp,fun k hk hn=>hheap k (fun e=>hn r b o x hr e.symm)⟩,New.refl _ _,fun _ _ h=>.inl h,Nat.le_refl _,fun _ _ _ h=>.inl h⟩
 exact {
  base:=by have:=h.base;simpa using this
  dom:=h.dom
  lt:=fun r b o x hr=>by have:=h.lt r b o x hr;simpa using this
  cells:=fun k b' o' x' cs imm tip hk hc=>by
   by_cases e:k=r
   ·subst e;rw[hgetr]at hc;simp at hc
   ·rw[hget k e]at hc
    intro j c hj
    obtain⟨v,h1,h2⟩:=h.cells k b' o' x' cs imm tip hk hc j c hj
    exact⟨v,hkeep _ _ _ h1,h2⟩
  imm:=fun k b' o' x' cs imm tip hk hc=>by
   by_cases e:k=r
   ·subst e;rw[hgetr]at hc;simp at hc
   ·rw[hget k e]at hc;exact h.imm k b' o' x' cs imm tip hk hc
  ext:=fun k b' o' x' cs imm tip hk hc=>by
   by_cases e:k=r
   ·subst e;rw[hgetr]at hc;simp at hc
   ·rw[hget k e]at hc;exact h.ext k b' o' x' cs imm tip hk hc
  fits:=fun k b' o' x' cs imm tip hk hc=>by
   by_cases e:k=r
   ·subst e;rw[hgetr]at hc;simp at hc
   ·rw[hget k e]at hc;exact h.fits k b' o' x' cs imm tip hk hc
  room:=fun k b' o' x' cs imm tip hk hc j hj hjl=>by
   by_cases e:k=r
   ·subst e;rw[hgetr]at hc;simp at hc
   ·rw[hget k e]at hc
    obtain⟨⟨v,h1⟩,h2,h3⟩:=h.room k b' o' x' cs imm tip hk hc j hj hjl
    refine⟨⟨v,hkeep _ _ _ h1⟩,?_,h3⟩
    rw[World.frozen?_of_block (w:=w) (hheap b' (hcell _ _ _ h1))];exact h2
  apart:=fun k1 b1 o1 x1 cs1 imm1 tip1 k2 b2 o2 x2 cs2 imm2 tip2 hk1 hc1 hk2 hc2=>by
   by_cases e1:k1=r
   ·subst e1;rw[hgetr]at hc1;simp at hc1
   ·by_cases e2:k2=r
    ·subst e2;rw[hgetr]at hc2;simp at hc2
    ·rw[hget k1 e1]at hc1;rw[hget k2 e2]at hc2
     exact h.apart k1 b1 o1 x1 cs1 imm1 tip1 k2 b2 o2 x2 cs2 imm2 tip2 hk1 hc1 hk2 hc2
  map:=fun k b' o' x' es1 hk hc=>by
   by_cases e:k=r
   ·subst e
    have hk':=hk
    rw[hr]at hk'
    simp only[Option.some.injEq,Prod.mk.injEq]at hk';obtain⟨rfl,rfl,rfl⟩:=hk'
    rw[hgetr]at hc
    simp only[Option.some.injEq,HB.map.injEq]at hc
    subst hc
    exact⟨ms',clock',hheapb,he⟩
   ·rw[hget k e]at hc
    obtain⟨ms1,clock1,h1,h2⟩:=h.map k b' o' x' es1 hk hc
    refine⟨ms1,clock1,?_,h2⟩
    rw[hheap b' (fun eb=>h.mapApart k b' o' x' es1 r b o x hk hc hr (by rw[hg];rfl) e eb)];exact h1
  mapApart:=fun k1 b1 o1 x1 es1 k2 b2 o2 x2 hk1 hc1 hk2 hs hne=>by
   have hs':(H.get k2).isSome:=by
    by_cases e2:k2=r
    ·subst e2;rw[hg];rfl
    ·rw[hget k2 e2]at hs;exact hs
   by_cases e1:k1=r
   ·subst e1;exact h.mapApart k1 b1 o1 x1 es k2 b2 o2 x2 hk1 hg hk2 hs' hne
   ·rw[hget k1 e1]at hc1;exact h.mapApart k1 b1 o1 x1 es1 k2 b2 o2 x2 hk1 hc1 hk2 hs' hne
  frz:=fun b' o' v hf=>hkeep _ _ _ (h.frz b' o' v hf)
  val:=h.val
  sym:=h.sym }
theorem zhN {b:Nat}{ms ms':Array MapEntry}{clock clock':Nat} (h:w.heap[b]?=some (.map ms clock)) :
 (setObj b (.map ms' clock')).run P w=.ok () { w with heap:=w.heap.setIfInBounds b (.map ms' clock') }:=by
 simp[setObj,Sem.run,h]
theorem zjT (n:Nat) {d:TypeDesc}{x y:AV}{xv yv:Value} (hx:VR G x xv) (hy:VR G y yv) (h:zg1 d x y=some true):Instr.sameBits n yv xv=true:=by
 unfold zg1 at h
 split at h
 ·split at h
  ·split at h
   ·rename_i e
    subst e
    cases hx;cases hy
    simp only[Option.some.injEq,beq_iff_eq]at h
    subst h
    cases n<;>simp[Instr.sameBits]
   ·simp at h
  ·simp at h
 ·split at h
  ·cases hx with
   | str a _ ha=>cases hy with
     | str b _ hb=>
       subst ha hb
       simp only[Option.some.injEq,beq_iff_eq]at h
       have hab:(b == a)=true:=by
        show(b.data == a.data)=true
        simp only[beq_iff_eq]
        exact(Array.ext' h).symm
       cases n<;>simp[Instr.sameBits,hab]
  ·simp at h
 ·split at h
  ·cases hx;cases hy
   simp only[Option.some.injEq,beq_iff_eq]at h
   subst h
   cases n<;>simp[Instr.sameBits]
  ·simp at h
 ·simp at h
theorem zjU {old new:Value} (h:Instr.sameBits 10000 old new=true):(Instr.keyThatStays old new).run P w=.ok new w:=by
 unfold Instr.keyThatStays
 rw[if_pos h];rfl
theorem zi1 (h:R B H w G) {t:TypeId}{m k v:AV}{mv kv vv:Value} (hm:VR G m mv) (hk:VR G k kv) (hv:VR G v vv) (hu:yZ P H t m k v=some H') :
 ∃ w',(Instr.mapUpdate t mv kv vv).run P w=.ok () w'∧Step B H.next G w H' w' G:=by
 unfold yZ at hu
 split at hu
 ·rename_i kt e hd
  split at hu
  ·rename_i r kind hkind
   split at hu
   ·rename_i es hg
    cases hm with
    | map hr=>
      rename_i b o x
      obtain⟨ms,clock,hw,hE⟩:=h.map r b o x es hr hg
      obtain⟨f1,f2⟩:=zhM (d:=kind) hk (i:=0) hE
      have hkd:=(zde hkind).1
      split at hu
      ·rename_i j v0 hf
       simp only[Option.some.injEq]at hu
       subst hu
       obtain⟨k',m',g1,g2,_,g4,g5⟩:=f2 j v0 hf
       simp only[Nat.sub_zero]at g1 g2
       have hjl:j < ms.size:=by have:=(List.getElem?_eq_some_iff.1 g2).1;simpa using this
       have hjm:ms[j]?=some m':=by simpa using g2
       have hsame:=zjT 10000 hk (hE.2 j _ _ g1 g2).1 g4
       have hfk:=zbG (P:=P) (w:=w) hkd g5
       refine⟨_,?_,zeF h hr hg (ms':=ms.modify j fun e=>{ e with key:=kv,val:=vv }) (clock':=clock) ?_⟩
       ·simp only[Instr.mapUpdate,Sem.run_bind,zU hd,Result.andThen_ok,zb4 hw,zbe hkind,hfk,hjm,Option.map_some,Option.getD_some,zjU hsame,zhN hw]
       ·refine⟨by have:=hE.1;simpa using this,fun i a c ha hc=>?_⟩
        rw[List.getElem?_set]at ha
        rw[Array.getElem?_toList,Array.getElem?_modify]at hc
        by_cases e:j=i
        ·subst e
         rw[if_pos rfl]at hc
         rw[if_pos rfl]at ha
         split at ha
         ·simp only[Option.some.injEq]at ha
          subst ha
          rw[hjm]at hc
          simp only[Option.map_some,Option.some.injEq]at hc
          subst hc
          exact⟨hk,hv⟩
         ·simp at ha
        ·rw[if_neg e]at ha hc
         exact hE.2 i a c ha (by simpa using hc)
      ·rename_i hf
       simp only[Option.some.injEq]at hu
       subst hu
       have hfk:=zbG (P:=P) (w:=w) hkd (f1 hf)
       refine⟨_,?_,zeF h hr hg (ms':=ms.push { key:=kv,val:=vv,born:=clock }) (clock':=clock+1) ?_⟩
       ·simp only[Instr.mapUpdate,Sem.run_bind,zU hd,Result.andThen_ok,zb4 hw,zbe hkind,hfk,zhN hw]
       ·refine⟨by have:=hE.1;simpa using this,fun i a c ha hc=>?_⟩
        rw[Array.toList_push]at hc
        have hl:=hE.1
        by_cases hi:i < es.length
        ·rw[List.getElem?_append_left hi]at ha
         rw[List.getElem?_append_left (by omega)]at hc
         exact hE.2 i a c ha hc
        ·rw[List.getElem?_append_right (by omega)]at ha
         rw[List.getElem?_append_right (by omega)]at hc
         rw[← hl]at hc
         cases hi0:i - es.length with
         | zero=>
           rw[hi0]at ha hc
           simp at ha hc
           subst ha hc
           exact⟨hk,hv⟩
         | succ n=>rw[hi0]at ha;simp at ha
      ·simp at hu
   ·simp at hu
  ·simp at hu
 ·simp at hu
theorem zfo:∀ {cs:List AV}{bs:List UInt8}{vs:List Value},zbZ cs=some bs→VRs G cs vs→∃ ns:List Int,vs=ns.map (Value.int .u8)∧bs=ns.map fun n=>UInt8.ofNat n.toNat
 | [],bs,vs,h,hv=>by
   simp only[zbZ,Option.some.injEq]at h
   subst h
   have:vs=[]:=by have:=hv.1;simpa using this.symm
   subst this
   exact⟨[],rfl,rfl⟩
 | c::cs,bs,[],h,hv=>by have:=hv.1;simp at this
 | c::cs,bs,v::vs,h,hv=>by
   obtain⟨h1,h2⟩:=hv.of_cons
   unfold zbZ at h
   split at h
   ·rename_i e;simp at e
   ·rename_i n cs' e
    simp only[List.cons.injEq]at e
    obtain⟨rfl,rfl⟩:=e
    split at h
    ·rename_i bs' hb
     simp only[Option.some.injEq]at h
     subst h
     obtain⟨ns,rfl,rfl⟩:=zfo hb h2
     cases h1
     exact⟨n::ns,rfl,rfl⟩
    ·simp at h
   ·simp at h
theorem zmj (ns:List Int):∀ s:ByteArray,(ns.foldl (fun r n=>r.push (UInt8.ofNat n.toNat)) s).data.toList=s.data.toList++ns.map fun n=>UInt8.ofNat n.toNat:=by
 induction ns with
 | nil=>intro s;simp
 | cons n ns ih=>intro s;rw[List.foldl_cons,ih];simp[ByteArray.push]
theorem zkT (h:R B H w G) {src dst:TypeId}{x c:AV}{xv:Value} (hx:VR G x xv) (hc:jo P H src dst x=some c):∃ v,(convert src dst xv).run P w=.ok v w∧VR G c v:=by
 unfold jo at hc
 split at hc
 ·rename_i e hs hd
  split at hc
  ·rename_i he
   split at hc
   ·rename_i n cs hsrc
    split at hc
    ·rename_i bs hbs
     obtain⟨nv,h1,h2,h3,h4⟩:=zjQ (P:=P) h hx hsrc
     obtain⟨ns,hns,rfl⟩:=zfo hbs h1
     split at hc
     ·simp only[Option.some.injEq]at hc
      subst hc
      cases hx with
      | sl hr hl hcx=>
        rename_i b o xx cap
        have hl3:=h3 w
        simp[Builtin.lenOf]at hl3
        subst hl3
        have hf:=h4 w (fun _=>rfl)
        simp only[Builtin.firstCells,Nat.mul_one]at hf
        rw[hns]at hf
        refine⟨_,by rw[run_convert_bytes_string w src dst e _ _ _ hs he hd,run_bytesToString w _ _ _ ns hf],.str _ _ ?_⟩
        rw[zmj]
        rfl
     ·simp only[Option.some.injEq]at hc
      subst hc
      cases hx
      have hl3:=h3 w
      simp[Builtin.lenOf]at hl3
      have:ns=[]:=by
       have e1:(ns.map (Value.int .u8)).length=0:=by rw[← hns,h2,← hl3]
       simpa using e1
      subst this
      refine⟨.string .empty,?_,.str _ _ rfl⟩
      rw[run_convert_bytes_string w src dst e _ _ _ hs he hd]
      rfl
     ·simp at hc
    ·simp at hc
   ·simp at hc
  ·simp at hc
 ·rename_i ds k hn hs hd
  split at hc
  ·simp only[Option.some.injEq]at hc
   subst hc
   cases hx
   refine⟨_,?_,.int _ _⟩
   simp[convert,zU hs,zU hd,Conv.intToInt]
  ·simp only[Option.some.injEq]at hc
   subst hc
   cases hx
   rename_i k0 e0
   refine⟨_,?_,.sx _ _⟩
   simp[convert,zU hs,zU hd,Conv.intToInt,Sx.eval]
  ·simp at hc
 ·rename_i hn hs hd
  split at hc
  ·simp only[Option.some.injEq]at hc
   subst hc
   have hx':=hx
   cases hx with
   | str sv _ he=>
     refine⟨.string sv,?_,hx'⟩
     simp[convert,zU hs,zU hd]
  ·simp at hc
 ·simp at hc
end
section
variable {P:Program} {B:Bs} {G:Gh} {H H':Hp} {w:World}
def zhO (G:Gh) (E:Env) (a:Act) (xs:Array Operand):Prop:=∀ x∈xs,∀ c,zn E x=some c→VR G c (a.eval x)
theorem zeg {E:Env}{a:Act}:∀ {xs:List Operand}{cs:List AV},(∀ x∈xs,∀ c,zn E x=some c→VR G c (a.eval x))→yO E xs=some cs→VRs G cs (xs.map a.eval)
 | [],cs,_,h=>by
   simp only[yO,Option.some.injEq]at h
   subst h
   exact VRs.nil G
 | x::xs,cs,hk,h=>by
   simp only[yO]at h
   split at h
   ·rename_i v vs hv hvs
    simp only[Option.some.injEq]at h
    subst h
    exact VRs.cons (hk x (by simp) v hv) (zeg (fun y hy=>hk y (by simp[hy])) hvs)
   ·simp at h
theorem yS {s:Sem Value}{c:AV} (h:R B H w G) (hs:∃ v,s.run P w=.ok v w∧VR G c v):Sim P B H G w (do pure (.value (← s))) c H:=by
 obtain⟨v,h1,h2⟩:=hs
 exact⟨.value v,w,G,v,by simp[h1],.inl rfl,h2,Step.refl h⟩
theorem zcU {s:Sem Value}{c:AV} (hs:∃ v w' G',s.run P w=.ok v w'∧VR G' c v∧Step B H.next G w H' w' G'):Sim P B H G w (do pure (.value (← s))) c H':=by
 obtain⟨v,w',G',h1,h2,h3⟩:=hs
 exact⟨.value v,w',G',v,by simp[h1],.inl rfl,h2,h3⟩
theorem zkU {s:Sem Unit} (hs:∃ w',s.run P w=.ok () w'∧Step B H.next G w H' w' G):Sim P B H G w (do s;pure .skip) yp H':=by
 obtain⟨w',h1,h2⟩:=hs
 exact⟨.skip,w',G,undef,by simp[h1],.inr ⟨rfl,rfl⟩,VR.undef G,h2⟩
theorem zhP {E:Env}{a:Act}{x:Option Operand}{c:Option AV} (hk:∀ y∈x.toArray,∀ c,zn E y=some c→VR G c (a.eval y)) (h:jK E x=some c):VRO G c (x.map a.eval):=by
 unfold jK at h
 split at h
 ·simp only[Option.some.injEq]at h
  subst h
  exact trivial
 ·rename_i y
  split at h
  ·rename_i v hv
   simp only[Option.some.injEq]at h
   subst h
   exact hk y (by simp) v hv
  ·simp at h
theorem zpJ {D:BinOp→Sx→Sx→Option Bool}{E:Env}{a:Act}{o:Oper}{c:AV} (hk:zdG o=true) (hE:zhO G E a o.op.operands) (hop:opA P D E H o.op=some (c,H')):zjd P G w (execOp a.eval o) Next.value c H H':=by
 obtain⟨dst,op,ty,pos,after,guard⟩:=o
 simp only[]at hop hE
 cases op<;>simp only[zdG,y9,Bool.false_eq_true]at hk
 case alloc t=>
  simp only[opA]at hop
  unfold zfg at hop
  split at hop
  ·rename_i z hz
   simp only[Option.some.injEq,Prod.mk.injEq]at hop
   obtain⟨rfl,rfl⟩:=hop
   obtain⟨zv,z1,z2⟩:=zcS hz
   refine zjd.next ⟨.cells z 0 true,.cells (zv.cells.toList++[]).toArray t,zv.cells.toList.length+0,.pointer (some ⟨w.heap.size,0,none⟩),rfl,?_,.cells z zv.cells.toList [] t (z2 G),fun G' hG=>.ptr (off:=0) hG⟩
   simp[Instr.alloc,z1,newVar,newRow]
  ·simp at hop
 case box t x=>
  simp only[opA]at hop
  unfold zky at hop
  split at hop
  ·rename_i v hv
   simp only[Option.some.injEq,Prod.mk.injEq]at hop
   obtain⟨rfl,rfl⟩:=hop
   have hx:=(hE x (by simp[Op.operands]) _ hv).cells
   refine zjd.next ⟨.cells v.cells 0 true,.cells ((a.eval x).cells.toList++[]).toArray t,(a.eval x).cells.toList.length+0,.pointer (some ⟨w.heap.size,0,none⟩),rfl,?_,.cells v.cells _ [] t hx,fun G' hG=>.ptr (off:=0) hG⟩
   simp[Instr.box,newVar,newRow]
  ·simp at hop
 case buildSlice t len parts=>
  simp only[opA]at hop
  unfold zbc at hop
  split at hop
  ·rename_i ps hps
   obtain⟨q1,q2⟩:=zef (G:=G) (a:=a) (fun p hp=>hE p.2 (by simp only[Op.operands,List.mem_toArray,List.mem_map];exact⟨p,hp,rfl⟩)) hps
   have:=zdK (P:=P) (w:=w) q1 q2 hop
   have he:(parts.toList.map fun x=>(x.1,a.eval x.2)).toArray=parts.map fun (i,x)=>(i,a.eval x):=by
    apply Array.ext';simp
   rw[he]at this
   exact this.next
  ·simp at hop
 case makeMap t r=>
  simp only[opA]at hop
  unfold zcM at hop
  split at hop
  ·simp only[Option.some.injEq,Prod.mk.injEq]at hop
   obtain⟨rfl,rfl⟩:=hop
   refine zjd.next ⟨.map [],.map #[] 0,0,.map (some w.heap.size),rfl,?_,.map,fun G' hG=>.map hG⟩
   simp[Instr.makeMap]
  ·simp at hop
 case makeSlice t l c'=>
  simp only[opA]at hop
  unfold zbF at hop
  split at hop
  ·rename_i lv cv hl hc
   exact(zeE (hE l (by simp[Op.operands]) _ hl) (hE c' (by simp[Op.operands]) _ hc) hop).next
  ·simp at hop
 case call cl=>
  simp only[opA,reduceCtorEq]at hop
theorem zsd (h:R B H w G) {E:Env}{a:Act}{o:Oper}{c:AV} (hE:zhO G E a o.op.operands) (hop:opA P B.cfg.dec E H o.op=some (c,H')):Sim P B H G w (execOp a.eval o) c H':=by
 obtain⟨dst,op,ty,pos,after,guard⟩:=o
 simp only[]at hop hE
 cases op<;>simp only[opA,reduceCtorEq]at hop
 case move x=>
  obtain⟨h1,rfl⟩:=jf hop
  exact zcT h rfl (hE x (by simp[Op.operands]) _ h1)
 case assign x=>
  obtain⟨h1,rfl⟩:=jf hop
  exact zcT h rfl (hE x (by simp[Op.operands]) _ h1)
 case pick x y z=>
  unfold zjN at hop
  split at hop
  ·rename_i hc
   obtain⟨h1,rfl⟩:=jf hop
   have hb:=hE x (by simp[Op.operands]) _ hc
   have:a.eval x=.bool true:=by generalize a.eval x=v at hb;cases hb;rfl
   exact zcT h (v:=a.eval y) (by simp[execOp,asBool,this]) (hE y (by simp[Op.operands]) _ h1)
  ·rename_i hc
   obtain⟨h1,rfl⟩:=jf hop
   have hb:=hE x (by simp[Op.operands]) _ hc
   have:a.eval x=.bool false:=by generalize a.eval x=v at hb;cases hb;rfl
   exact zcT h (v:=a.eval z) (by simp[execOp,asBool,this]) (hE z (by simp[Op.operands]) _ h1)
  ·simp at hop
 case alloc t=>
  unfold zfg at hop
  split at hop
  ·rename_i z hz
   simp only[Option.some.injEq,Prod.mk.injEq]at hop
   obtain⟨rfl,rfl⟩:=hop
   obtain⟨zv,z1,z2⟩:=zcS hz
   have hst:=zda h (z2 G) [] t
   rw[List.append_nil,Array.toArray_toList]at hst
   refine zcU ⟨.pointer (some ⟨w.heap.size,0,none⟩),_,_,?_,?_,hst⟩
   ·simp[Instr.alloc,z1,newVar,newRow]
   ·exact .ptr (off:=0) (jP _ _ _)
  ·simp at hop
 case box t x=>
  unfold zky at hop
  split at hop
  ·rename_i v hv
   simp only[Option.some.injEq,Prod.mk.injEq]at hop
   obtain⟨rfl,rfl⟩:=hop
   have hst:=zda h (hE x (by simp[Op.operands]) _ hv).cells [] t
   rw[List.append_nil,Array.toArray_toList]at hst
   refine zcU ⟨.pointer (some ⟨w.heap.size,0,none⟩),_,_,?_,?_,hst⟩
   ·simp[Instr.box,newVar,newRow]
   ·exact .ptr (off:=0) (jP _ _ _)
  ·simp at hop
 case build t parts=>
  unfold zha at hop
  split at hop
  ·rename_i ps hps
   obtain⟨h1,rfl⟩:=jf hop
   obtain⟨q1,q2⟩:=zef (G:=G) (a:=a) (fun p hp=>hE p.2 (by simp only[Op.operands,List.mem_toArray,List.mem_map];exact⟨p,hp,rfl⟩)) hps
   have:=zoC (P:=P) (w:=w) q1 q2 h1
   have he:(parts.toList.map fun x=>(x.1,a.eval x.2)).toArray=parts.map fun (i,x)=>(i,a.eval x):=by
    apply Array.ext';simp
   rw[he]at this
   exact yS h this
  ·simp at hop
 case buildSlice t len parts=>
  unfold zbc at hop
  split at hop
  ·rename_i ps hps
   obtain⟨q1,q2⟩:=zef (G:=G) (a:=a) (fun p hp=>hE p.2 (by simp only[Op.operands,List.mem_toArray,List.mem_map];exact⟨p,hp,rfl⟩)) hps
   have:=(zdK (P:=P) (w:=w) q1 q2 hop).sim h
   have he:(parts.toList.map fun x=>(x.1,a.eval x.2)).toArray=parts.map fun (i,x)=>(i,a.eval x):=by
    apply Array.ext';simp
   rw[he]at this
   exact zcU this
  ·simp at hop
 case load t x=>
  unfold zhB at hop
  split at hop
  ·rename_i v hv
   obtain⟨h1,rfl⟩:=jf hop
   exact yS h (zkJ h (hE x (by simp[Op.operands]) _ hv) h1)
  ·simp at hop
 case store t x y=>
  unfold zhb at hop
  split at hop
  ·rename_i av vv ha hv
   split at hop
   ·rename_i H1 hs
    simp only[Option.some.injEq,Prod.mk.injEq]at hop
    obtain⟨rfl,rfl⟩:=hop
    exact zkU (zow h (hE x (by simp[Op.operands]) _ ha) (hE y (by simp[Op.operands]) _ hv) hs)
   ·simp at hop
  ·simp at hop
 case nilCheck x=>
  unfold zc5 at hop
  split at hop
  ·rename_i r off hv
   simp only[Option.some.injEq,Prod.mk.injEq]at hop
   obtain⟨rfl,rfl⟩:=hop
   have hx:=hE x (by simp[Op.operands]) _ hv
   refine zcT h (v:=a.eval x) ?_ hx
   simp only[execOp]
   generalize a.eval x=v at hx ⊢
   cases hx;rfl
  ·rename_i cs hv
   simp only[Option.some.injEq,Prod.mk.injEq]at hop
   obtain⟨rfl,rfl⟩:=hop
   have hx:=hE x (by simp[Op.operands]) _ hv
   refine zcT h (v:=a.eval x) ?_ hx
   simp only[execOp]
   generalize a.eval x=v at hx ⊢
   cases hx;rfl
  ·simp at hop
 case binOp op t x y yt=>
  unfold znt at hop
  split at hop
  ·rename_i xv yv hx hy
   obtain⟨h1,rfl⟩:=jf hop
   exact yS h (zsb (by rw[h.val];exact h.sym) (hE x (by simp[Op.operands]) _ hx) (hE y (by simp[Op.operands]) _ hy) h1)
  ·simp at hop
 case unOp op t x=>
  unfold opUn at hop
  split at hop
  ·rename_i xv hx
   obtain⟨h1,rfl⟩:=jf hop
   exact yS h (un_sim (hE x (by simp[Op.operands]) _ hx) h1)
  ·simp at hop
 case convert s d x=>
  unfold zcL at hop
  split at hop
  ·rename_i xv hx
   obtain⟨h1,rfl⟩:=jf hop
   exact yS h (zkT h (hE x (by simp[Op.operands]) _ hx) h1)
  ·simp at hop
 case makeFunc fn first captured=>
  unfold zc6 at hop
  split at hop
  ·rename_i f vs hfirst hvs
   simp only[Option.some.injEq,Prod.mk.injEq]at hop
   obtain⟨rfl,rfl⟩:=hop
   have hf:first=#[]:=by apply Array.ext';simpa using hfirst
   subst hf
   have:=zeg (G:=G) (a:=a) (fun x hx=>hE x (by simp[Op.operands];simpa using hx)) hvs
   refine yS h ⟨.func (.func f) #[] (captured.map a.eval),by simp[Instr.makeFunc],?_⟩
   have he:captured.map a.eval=(captured.toList.map a.eval).toArray:=by apply Array.ext';simp
   rw[he]
   exact .clo this.1 this.2
  ·simp at hop
 case makeMap t r=>
  unfold zcM at hop
  split at hop
  ·simp only[Option.some.injEq,Prod.mk.injEq]at hop
   obtain⟨rfl,rfl⟩:=hop
   exact zcU ⟨.map (some w.heap.size),_,_,by simp[Instr.makeMap],.map (jP _ _ _),ziW h⟩
  ·simp at hop
 case makeSlice t l c'=>
  unfold zbF at hop
  split at hop
  ·rename_i lv cv hl hc
   exact zcU ((zeE (hE l (by simp[Op.operands]) _ hl) (hE c' (by simp[Op.operands]) _ hc) hop).sim h)
  ·simp at hop
 case slice t x lo hi mx=>
  unfold zfh at hop
  split at hop
  ·rename_i xv l hh hx hl hi'
   obtain⟨h1,rfl⟩:=jf hop
   exact yS h (zkS h (hE x (by simp[Op.operands]) _ hx) (zhP (fun y hy=>hE y (by simp[Op.operands]at *;simp[hy])) hl) (zhP (fun y hy=>hE y (by simp[Op.operands]at *;simp[hy])) hi') h1)
  ·simp at hop
 case fieldAddr t x f=>
  unfold zco at hop
  split at hop
  ·rename_i xv hx
   obtain⟨h1,rfl⟩:=jf hop
   exact yS h (ziY (hE x (by simp[Op.operands]) _ hx) h1)
  ·simp at hop
 case field t x f=>
  unfold zhc at hop
  split at hop
  ·rename_i xv hx
   obtain⟨h1,rfl⟩:=jf hop
   exact yS h (zox (hE x (by simp[Op.operands]) _ hx) h1)
  ·simp at hop
 case indexAddr t x i=>
  unfold zcp at hop
  split at hop
  ·rename_i xv iv hx hi
   obtain⟨h1,rfl⟩:=jf hop
   exact yS h (ziZ (hE x (by simp[Op.operands]) _ hx) (hE i (by simp[Op.operands]) _ hi) h1)
  ·simp at hop
 case index t x i=>
  unfold zhd at hop
  split at hop
  ·rename_i xv iv hx hi
   obtain⟨h1,rfl⟩:=jf hop
   exact yS h (zoy (hE x (by simp[Op.operands]) _ hx) (hE i (by simp[Op.operands]) _ hi) h1)
  ·simp at hop
 case lookup t m k ok=>
  unfold zdF at hop
  split at hop
  ·rename_i mv kv hm hk
   obtain⟨h1,rfl⟩:=jf hop
   exact yS h (zmi h (hE m (by simp[Op.operands]) _ hm) (hE k (by simp[Op.operands]) _ hk) h1)
  ·simp at hop
 case mapUpdate t m k v=>
  unfold zcq at hop
  split at hop
  ·rename_i mv kv vv hm hk hv
   split at hop
   ·rename_i H1 hs
    simp only[Option.some.injEq,Prod.mk.injEq]at hop
    obtain⟨rfl,rfl⟩:=hop
    exact zkU (zi1 h (hE m (by simp[Op.operands]) _ hm) (hE k (by simp[Op.operands]) _ hk) (hE v (by simp[Op.operands]) _ hv) hs)
   ·simp at hop
  ·simp at hop
 case extract x i=>
  unfold zed at hop
  split at hop
  ·rename_i xv hx
   obtain⟨h1,rfl⟩:=jf hop
   exact yS h (zkK (hE x (by simp[Op.operands]) _ hx) h1)
  ·simp at hop
theorem zkV (h:R B H w G) {keep:Bool}{b:Builtin}{ts:Array TypeId}{ty:TypeId}{consts:Array Bool}{cs:List AV}{vs:List Value}{c:AV} (hv:VRs G cs vs) (hb:zaE P keep H b ts.toList cs=some (c,H')) :
 Sim P B H G w (builtin b ts ty consts vs.toArray) c H':=by
 unfold zaE at hb
 split at hb
 ·split at hb
  ·rename_i t u s x hts
   have hts':ts=#[t,u]:=by apply Array.ext';simpa using hts
   subst hts'
   match vs,hv with
   | [sv,xv],hv=>
     obtain⟨h1,h2⟩:=hv.of_cons
     obtain⟨h3,_⟩:=h2.of_cons
     exact zcU (zmg h h1 h3 hb)
   | [],hv=>have:=hv.1;simp at this
   | [_],hv=>have:=hv.1;simp at this
   | _::_::_::_,hv=>have:=hv.1;simp at this
  ·simp at hb
 ·split at hb
  ·rename_i t x hts
   have hts':ts=#[t]:=by apply Array.ext';simpa using hts
   subst hts'
   split at hb
   ·rename_i v hl
    simp only[Option.some.injEq,Prod.mk.injEq]at hb
    obtain⟨rfl,rfl⟩:=hb
    match vs,hv with
    | [xv],hv=>
      obtain⟨h1,_⟩:=hv.of_cons
      exact yS h (zsc h h1 hl)
    | [],hv=>have:=hv.1;simp at this
    | _::_::_,hv=>have:=hv.1;simp at this
   ·simp at hb
  ·simp at hb
 ·split at hb
  ·rename_i x xs
   split at hb
   ·rename_i v hm
    simp only[Option.some.injEq,Prod.mk.injEq]at hb
    obtain⟨rfl,rfl⟩:=hb
    match vs,hv with
    | [],hv=>have:=hv.1;simp at this
    | xv::xvs,hv=>
      obtain⟨h1,h2⟩:=hv.of_cons
      have:=zjR (P:=P) (w:=w) h1 h2 hm
      exact yS h (by simpa [Builtin.max_]using this)
   ·simp at hb
  ·simp at hb
 ·split at hb
  ·rename_i x xs
   split at hb
   ·rename_i v hm
    simp only[Option.some.injEq,Prod.mk.injEq]at hb
    obtain⟨rfl,rfl⟩:=hb
    match vs,hv with
    | [],hv=>have:=hv.1;simp at this
    | xv::xvs,hv=>
      obtain⟨h1,h2⟩:=hv.of_cons
      have:=zjR (P:=P) (w:=w) h1 h2 hm
      exact yS h (by simpa [Builtin.min_]using this)
   ·simp at hb
  ·simp at hb
 ·simp at hb
end
def zmk:AX→Exit
 | .normal=>.normal
 | .exit id=>.exit id
 | .ret=>.ret
def zf0 (B:Bs) (N nx:Nat) (G:Gh) (w:World) (x:AX) (E':Env) (H':Hp):Exit→Act→World→Prop:=fun e a' w'=>
 e=zmk x∧∃ G',TR N G' E' a'∧Step B nx G w H' w' G'∧a'.defers=[]
structure Fit (P:Program):Prop where
 name:∀ (f:FuncId) (fn:Func),P.funcs[f]?=some fn→fn.body.isSome=true→(fn.name == "runtime.NumGoroutine")=false
 mixed:P.follows .mixedOrders=true
structure Snd (P:Program) (B:Bs) (n:Nat) (ih:Task→Res):Prop where
 call:∀ f args H r H',ih (.call f args H)=.val r H'→∀ G w vs,R B H w G→VRs G args vs →
  (∃ fn,P.funcs[f]?=some fn∧fn.body.isSome=true)∧Calls P f vs.toArray w (fun e w'=>∃ v G',e=.returned v∧VR G' r v∧Step B H.next G w H' w' G')
 code:∀ f N c E H x E' H',ih (.code f N c E H)=.done x E' H'→∀ G w a,R B H w G→TR N G E a→a.defers=[]→Code.wp P c (zf0 B N H.next G w x E' H') a w
 loop:∀ f N c E H x E' H',ih (.code f N (.loop c) E H)=.done x E' H'→∀ G w a,R B H w G→TR N G E a→a.defers=[]→Code.rounds P c (zf0 B N H.next G w x E' H') n a w
theorem zdO {P:Program}{c:Code}{Q Q':Exit→Act→World→Prop} (h:∀ e a w,Q e a w→Q' e a w):∀ {n:Nat}{a:Act}{w:World},Code.rounds P c Q n a w→Code.rounds P c Q' n a w
 | 0,_,_,hr=>hr
 | n+1,_,_,hr=>by
   rw[rounds_succ]at *
   exact Code.wp_mono (fun e a w he=>by
    cases e with
    | normal=>exact zdO h he
    | _=>exact h _ _ _ he) hr
theorem zf0.trans {B:Bs}{N nx:Nat}{G G':Gh}{w w':World}{H' H'':Hp}{x:AX}{E'':Env} (hs:Step B nx G w H' w' G') {e:Exit}{a:Act}{w'':World} (h:zf0 B N H'.next G' w' x E'' H'' e a w''):zf0 B N nx G w x E'' H'' e a w'':=by
 obtain⟨he,G2,h1,h2,h3⟩:=h
 exact⟨he,G2,h1,hs.trans h2,h3⟩
section
variable {P:Program} {B:Bs} {G:Gh} {H H':Hp} {w:World}
theorem zf1 {N:Nat}{E:Env}{a:Act} (h:TR N G E a) {x:Operand}{c:AV} (hc:zn E x=some c):VR G c (a.eval x):=by
 cases x with
 | tmp t=>simp only[zn,Option.some.injEq]at hc;subst hc;exact h.slots t
 | const v=>exact zcQ hc
 | global g=>simp[zn]at hc
 | func f=>simp only[zn,Option.some.injEq]at hc;subst hc;exact .clo (vs:=[]) rfl (by simp)
theorem TR.knows {N:Nat}{E:Env}{a:Act} (h:TR N G E a) (xs:Array Operand):zhO G E a xs:=fun _ _ _ hc=>zf1 h hc
theorem zoG {E:Env}{a:Act}{d:Nat} (h:VR G (E.at d) (a.tmps.getD d undef)):(match E.at d with|.bool b=>some b | _=>none)=(match a.tmps[d]? with|some (.bool b)=>some b | _=>none):=by
 rw[Array.getD_eq_getD_getElem?]at h
 cases hd:a.tmps[d]? with
 | none=>
   rw[hd]at h
   simp only[Option.getD_none,undef]at h
   generalize E.at d=c at h
   cases h
   rfl
 | some v=>
   rw[hd]at h
   simp only[Option.getD_some]at h
   generalize E.at d=c at h
   cases h<;>rfl
theorem zkW {E:Env}{a:Act}{ops:Array Oper}{j:Nat} (h:∀ d,(ops[j]?).bind (·.dst)=some d→VR G (E.at d) (a.tmps.getD d undef)):zfi ops.toList E j=yielded ops a.tmps j:=by
 unfold zfi yielded
 rw[Array.getElem?_toList]
 cases hd:(ops[j]?).bind (·.dst)with
 | none=>rfl
 | some d=>exact zoG (h d hd)
theorem zhQ {E:Env}{a:Act}{ops:Array Oper}{o:Oper} (h:∀ j b d,o.guard=some (j,b)→(ops[j]?).bind (·.dst)=some d→VR G (E.at d) (a.tmps.getD d undef)):jj ops.toList E o=Region.wanted o (yielded ops a.tmps):=by
 unfold jj Region.wanted
 cases hg:o.guard with
 | none=>rfl
 | some p=>
   obtain⟨j,b⟩:=p
   simp only[]
   rw[zkW (fun d hd=>h j b d hg hd)]
   cases yielded ops a.tmps j with
   | none=>rfl
   | some b'=>cases b<;>cases b' <;>rfl
theorem zfp (fit:Fit P) {n:Nat}{ih:Task→Res} (hih:Snd P B n ih) {f:FuncId}{E:Env}{a:Act}{o:Oper}{c:AV} (h:R B H w G) (hE:zhO G E a o.op.operands) (hop:yI P B.cfg ih f E H o.op=.val c H')
 {K:Act→World→Prop}{Q:Exit→Act→World→Prop} (hK:∀ v w' G',VR G' c v→Step B H.next G w H' w' G'→K (a.put o.dst v) w'):o.wp P a w K Q:=by
 have hsim:∀ s:Sem Next,Sim P B H G w s c H'→execOp a.eval o=s→o.wp P a w K Q:=fun s hs he=>by
  obtain⟨m,w',G',v,h1,h2,h3,h4⟩:=hs
  unfold Oper.wp
  rw[he,h1]
  rcases h2 with rfl|⟨rfl,rfl⟩
  ·exact hK v w' G' h3 h4
  ·exact hK undef w' G' h3 h4
 unfold yI at hop
 split at hop
 ·rename_i cl hcl
  unfold zgx at hop
  split at hop
  ·rename_i g hg
   split at hop
   ·rename_i k cap vs hgv hvs
    have hE':zhO G E a cl.operands:=by rw[hcl]at hE;exact hE
    have hgr:=hE' g (by simp[Call.operands,hg]) _ hgv
    have hargs:=zeg (G:=G) (a:=a) (fun x hx=>hE' x (by simp[Call.operands,hg];exact .inr (by simpa using hx))) hvs
    generalize hge:a.eval g=gv at hgr
    cases hgr with
    | clo hl hv=>
      rename_i capvs
      have hall:=hargs.append (G:=G) ⟨hl,hv⟩
      obtain⟨⟨fn,hfn,hbody⟩,hcalls⟩:=hih.call _ _ _ _ _ hop G w _ h hall
      have hname:=fit.name _ _ hfn hbody
      unfold Oper.wp
      have hrun:(execOp a.eval o).run P w=.ok (.enter k ((cl.args.toList.map a.eval)++capvs).toArray) w:=by
       have hargs':cl.args.map a.eval=(cl.args.toList.map a.eval).toArray:=by apply Array.ext';simp
       unfold execOp
       rw[hcl]
       simp only[Sem.run_bind,resolve,hg,hge,Deferred.ofValue,Sem.run_pure,Result.andThen_ok,invoke,callFunc,run_program,hfn,hname]
       simp only[Bool.false_eq_true,if_false]
       have hb:fn.body.isNone=false:=by cases hb:fn.body<;>simp_all
       rw[hb]
       simp[hargs']
      rw[hrun]
      show Calls P k _ w _
      refine hcalls.mono fun e w' hr=>?_
      obtain⟨v,G',rfl,h1,h2⟩:=hr
      exact hK v w' G' h1 h2
   ·simp at hop
  ·rename_i b hg
   split at hop
   ·rename_i vs hvs
    split at hop
    ·rename_i v H1 hb
     simp only[Res.val.injEq]at hop
     obtain⟨rfl,rfl⟩:=hop
     have hE':zhO G E a cl.operands:=by rw[hcl]at hE;exact hE
     have hargs:=zeg (G:=G) (a:=a) (fun x hx=>hE' x (by simp[Call.operands,hg];simpa using hx)) hvs
     have hs:=zkV (ty:=o.type) (consts:=cl.args.map fun|.const _=>true | _=>false) h hargs hb
     refine hsim _ hs ?_
     have hargs':cl.args.map a.eval=(cl.args.toList.map a.eval).toArray:=by apply Array.ext';simp
     unfold execOp
     rw[hcl]
     simp only[resolve,hg,hargs']
     rfl
    ·simp at hop
   ·simp at hop
  ·simp at hop
 ·rename_i op hne
  unfold jZ at hop
  split at hop
  ·rename_i v H1 ho
   simp only[Res.val.injEq]at hop
   obtain⟨rfl,rfl⟩:=hop
   exact hsim _ (zsd h hE ho) rfl
  ·simp at hop
theorem zeV (fit:Fit P) {n:Nat}{ih:Task→Res} (hih:Snd P B n ih) {f N:Nat}{ops:Array Oper}:∀ (l:List Oper) {E E':Env}{H:Hp}{x:AX}{a:Act}{w:World}{G:Gh}{Q:Exit→Act→World→Prop},j9 P B.cfg ih f N ops.toList l E H=.done x E' H' →
 R B H w G→TR N G E a→a.defers=[]→(∀ e a' w',zf0 B N H.next G w x E' H' e a' w'→Q e a' w')→wpList P ops Q l a w
 | [],E,E',H,x,a,w,G,Q,hr,h,ht,hd,hQ=>by
   simp only[j9,Res.done.injEq]at hr
   obtain⟨rfl,rfl,rfl⟩:=hr
   exact hQ _ _ _ ⟨rfl,G,ht,Step.refl h,hd⟩
 | o::l,E,E',H,x,a,w,G,Q,hr,h,ht,hd,hQ=>by
   have hrec:∀ E H,(List.rec (motive:=fun _=>Env→Hp→Res) (fun E H=>.done .normal E H)
    (fun o _ go E H=>match jj ops.toList E o with
      | true=>match yI P B.cfg ih f E H o.op with
        | .val v H=>yW go H (zaB N E o.dst v)
        | _=>.fail
      | false=>yW go H (zaB N E o.dst yp)) l E H:Res)=j9 P B.cfg ih f N ops.toList l E H:=fun _ _=>rfl
   have hstep:j9 P B.cfg ih f N ops.toList (o::l) E H=match jj ops.toList E o with
    | true=>match yI P B.cfg ih f E H o.op with
      | .val v H=>yW (j9 P B.cfg ih f N ops.toList l) H (zaB N E o.dst v)
      | _=>.fail
    | false=>yW (j9 P B.cfg ih f N ops.toList l) H (zaB N E o.dst yp):=rfl
   rw[hstep]at hr
   have hw:=zhQ (G:=G) (E:=E) (a:=a) (ops:=ops) (o:=o) (fun _ _ d _ _=>ht.slots d)
   have hdput:∀ dst v,(a.put dst v).defers=[]:=fun dst v=>by cases dst<;>exact hd
   cases hwa:jj ops.toList E o with
   | true=>
     rw[hwa]at hr hw
     simp only[]at hr
     split at hr
     ·rename_i v H1 hop
      cases hp:zaB N E o.dst v with
      | none=>rw[hp]at hr;simp[yW]at hr
      | some E1=>
        rw[hp]at hr
        simp only[yW]at hr
        unfold wpList
        rw[if_pos hw.symm]
        refine .inl (zfp fit hih h (ht.knows _) hop fun v' w' G' hv hst=>?_)
        have ht':TR N G' E1 (a.put o.dst v'):=(ht.mono hst.ext).put hv hp
        exact zeV fit hih l hr hst.r ht' (hdput _ _) (fun e a w he=>hQ _ _ _ (zf0.trans hst he))
     ·simp at hr
   | false=>
     rw[hwa]at hr hw
     simp only[]at hr
     cases hp:zaB N E o.dst yp with
     | none=>rw[hp]at hr;simp[yW]at hr
     | some E1=>
       rw[hp]at hr
       simp only[yW]at hr
       unfold wpList
       rw[if_neg (by rw[← hw];simp)]
       exact zeV fit hih l hr h (ht.put (VR.undef G) hp) (hdput _ _) hQ
end
section
variable {P:Program} {B:Bs} {G:Gh} {H H':Hp} {w:World} {cfg:Cfg}
theorem Sx.beq_eq:∀ {a b:Sx},Sx.beq a b=true→a=b
 | .var i,b,h=>by
   cases b<;>simp only[Sx.beq,Bool.false_eq_true]at h
   rw[Nat.eq_of_beq_eq_true h]
 | .lit i,b,h=>by
   cases b<;>simp only[Sx.beq,Bool.false_eq_true,beq_iff_eq]at h
   rw[h]
 | .bin o k x y,b,h=>by
   cases b<;>simp only[Sx.beq,Bool.false_eq_true,Bool.and_eq_true,decide_eq_true_eq]at h
   obtain⟨⟨⟨rfl,rfl⟩,h1⟩,h2⟩:=h
   rw[Sx.beq_eq h1,Sx.beq_eq h2]
 | .conv k x,b,h=>by
   cases b<;>simp only[Sx.beq,Bool.false_eq_true,Bool.and_eq_true,decide_eq_true_eq]at h
   obtain⟨rfl,h1⟩:=h
   rw[Sx.beq_eq h1]
mutual
theorem AV.beq_eq:∀ {a b:AV},AV.beq a b=true→a=b
 | .int k a,b,h=>by
   cases b<;>simp only[AV.beq,Bool.and_eq_true,decide_eq_true_eq,beq_iff_eq,Bool.false_eq_true]at h
   obtain⟨rfl,rfl⟩:=h;rfl
 | .sx k a,b,h=>by
   cases b<;>simp only[AV.beq,Bool.and_eq_true,decide_eq_true_eq,Bool.false_eq_true]at h
   obtain⟨rfl,h1⟩:=h
   rw[Sx.beq_eq h1]
 | .bool a,b,h=>by
   cases b<;>simp only[AV.beq,beq_iff_eq,Bool.false_eq_true]at h
   subst h;rfl
 | .str a,b,h=>by
   cases b<;>simp only[AV.beq,beq_iff_eq,Bool.false_eq_true]at h
   subst h;rfl
 | .nilP,b,h=>by cases b<;>simp only[AV.beq,Bool.false_eq_true]at h;rfl
 | .nilM,b,h=>by cases b<;>simp only[AV.beq,Bool.false_eq_true]at h;rfl
 | .nilF,b,h=>by cases b<;>simp only[AV.beq,Bool.false_eq_true]at h;rfl
 | .nilS,b,h=>by cases b<;>simp only[AV.beq,Bool.false_eq_true]at h;rfl
 | .ptr r o,b,h=>by
   cases b<;>simp only[AV.beq,Bool.and_eq_true,Bool.false_eq_true]at h
   obtain⟨h1,h2⟩:=h
   rw[Nat.eq_of_beq_eq_true h1,Nat.eq_of_beq_eq_true h2]
 | .iptr a,b,h=>by
   cases b<;>simp only[AV.beq,Bool.false_eq_true]at h
   rw[jC h]
 | .sl r o l z,b,h=>by
   cases b<;>simp only[AV.beq,Bool.and_eq_true,Bool.false_eq_true]at h
   obtain⟨⟨⟨h1,h2⟩,h3⟩,h4⟩:=h
   rw[Nat.eq_of_beq_eq_true h1,Nat.eq_of_beq_eq_true h2,Nat.eq_of_beq_eq_true h3,Nat.eq_of_beq_eq_true h4]
 | .lst a,b,h=>by
   cases b<;>simp only[AV.beq,Bool.false_eq_true]at h
   rw[zgG h]
 | .map r,b,h=>by
   cases b<;>simp only[AV.beq,Bool.false_eq_true]at h
   rw[Nat.eq_of_beq_eq_true h]
 | .clo f a,b,h=>by
   cases b<;>simp only[AV.beq,Bool.and_eq_true,Bool.false_eq_true]at h
   rw[Nat.eq_of_beq_eq_true h.1,jC h.2]
 | .agg a,b,h=>by
   cases b<;>simp only[AV.beq,Bool.false_eq_true]at h
   rw[jC h]
 | .tup a,b,h=>by
   cases b<;>simp only[AV.beq,Bool.false_eq_true]at h
   rw[jC h]
theorem jC:∀ {a b:List AV},jW a b=true→a=b
 | [],b,h=>by cases b<;>simp only[jW,Bool.false_eq_true]at h;rfl
 | a::x,b,h=>by
   cases b<;>simp only[jW,Bool.and_eq_true,Bool.false_eq_true]at h
   rw[AV.beq_eq h.1,jC h.2]
theorem zgG:∀ {a b:List (List AV)},zb0 a b=true→a=b
 | [],b,h=>by cases b<;>simp only[zb0,Bool.false_eq_true]at h;rfl
 | a::x,b,h=>by
   cases b<;>simp only[zb0,Bool.and_eq_true,Bool.false_eq_true]at h
   rw[jC h.1,zgG h.2]
end
theorem zpK {α β:Type}:∀ {a b:List (α×β)},a.map (·.1)=b.map (·.1)→a.map (·.2)=b.map (·.2)→a=b
 | [],b,h,_=>by cases b<;>simp at h;rfl
 | (x,y)::a,b,h,h'=>by
   cases b with
   | nil=>simp at h
   | cons c b=>
     obtain⟨u,v⟩:=c
     simp only[List.map_cons,List.cons.injEq]at h h'
     obtain⟨rfl,h⟩:=h
     obtain⟨rfl,h'⟩:=h'
     rw[zpK h h']
theorem HB.beq_eq {a b:HB} (h:HB.beq a b=true):a=b:=by
 cases a<;>cases b<;>simp only[HB.beq,Bool.and_eq_true,Bool.false_eq_true,beq_iff_eq]at h
 ·obtain⟨⟨h1,h2⟩,h3⟩:=h
  rw[jC h1,Nat.eq_of_beq_eq_true h2,h3]
 ·rw[zpK (jC h.1) (jC h.2)]
def zbt (P:Program) (cfg:Cfg) (ih:Task→Res) (f N:Nat) (all:List Oper):List Rec→List Oper→Env→Hp→Env→Hp→Prop
 | [],[],E,H,E',H'=>E=E'∧H=H'
 | r::rs,o::l,E,H,E',H'=>r.o=o∧r.E=E∧r.H=H∧jj all E o=r.did∧(r.did=true→yI P cfg ih f E H o.op=.val r.val r.H')∧(r.did=false→r.val=yp∧r.H'=H) ∧
    ∃ E1,zaB N E o.dst r.val=some E1∧zbt P cfg ih f N all rs l E1 r.H' E' H'
 | _,_,_,_,_,_=>False
theorem zb5 {ih:Task→Res}{f N:Nat}{all:List Oper}:∀ {l:List Oper}{E E':Env}{H H':Hp}{rs:List Rec},zcN P cfg ih f N all l E H=.done E' H' rs→zbt P cfg ih f N all rs l E H E' H'
 | [],E,E',H,H',rs,h=>by
   simp only[zcN,ResD.done.injEq]at h
   obtain⟨rfl,rfl,rfl⟩:=h
   exact⟨rfl,rfl⟩
 | o::l,E,E',H,H',rs,h=>by
   simp only[zcN]at h
   cases hw:jj all E o with
   | true=>
     rw[hw]at h
     simp only[]at h
     cases hop:yI P cfg ih f E H o.op with
     | val v H1=>
       rw[hop]at h
       simp only[]at h
       cases hp:zaB N E o.dst v with
       | none=>rw[hp]at h;simp[jO,zdA]at h
       | some E1=>
         rw[hp]at h
         simp only[jO]at h
         cases hr:zcN P cfg ih f N all l E1 H1 with
         | fail=>rw[hr]at h;simp[zdA]at h
         | done E2 H2 rs2=>
           rw[hr]at h
           simp only[zdA,ResD.done.injEq]at h
           obtain⟨rfl,rfl,rfl⟩:=h
           exact⟨rfl,rfl,rfl,hw,fun _=>hop,by simp,E1,hp,zb5 hr⟩
     | done _ _ _=>rw[hop]at h;simp at h
     | fail=>rw[hop]at h;simp at h
   | false=>
     rw[hw]at h
     simp only[]at h
     cases hp:zaB N E o.dst yp with
     | none=>rw[hp]at h;simp[jO,zdA]at h
     | some E1=>
       rw[hp]at h
       simp only[jO]at h
       cases hr:zcN P cfg ih f N all l E1 H with
       | fail=>rw[hr]at h;simp[zdA]at h
       | done E2 H2 rs2=>
         rw[hr]at h
         simp only[zdA,ResD.done.injEq]at h
         obtain⟨rfl,rfl,rfl⟩:=h
         exact⟨rfl,rfl,rfl,hw,by simp,fun _=>⟨rfl,rfl⟩,E1,hp,zb5 hr⟩
def jU (rs:List Rec) (E':Env) (e:Nat):Env:=match rs[e]? with
 | some r=>r.E
 | none=>E'
theorem zf2 {ih:Task→Res}{f N:Nat}{all:List Oper}:∀ {rs:List Rec}{l:List Oper}{E E':Env}{H H':Hp},zbt P cfg ih f N all rs l E H E' H'→rs.length=l.length
 | [],[],_,_,_,_,_=>rfl
 | [],_::_,_,_,_,_,h=>by simp[zbt]at h
 | _::_,[],_,_,_,_,h=>by simp[zbt]at h
 | r::rs,o::l,E,E',H,H',h=>by
   obtain⟨_,_,_,_,_,_,E1,_,h⟩:=h
   simp[zf2 h]
theorem zeW {ih:Task→Res}{f N:Nat}{all:List Oper}{rs:List Rec}{l:List Oper}{E E':Env}{H H':Hp} (h:zbt P cfg ih f N all rs l E H E' H'):jU rs E' 0=E∧zL rs H' 0=H:=by
 cases rs with
 | nil=>
   cases l with
   | nil=>obtain⟨rfl,rfl⟩:=h;exact⟨rfl,rfl⟩
   | cons o l=>simp[zbt]at h
 | cons r rs=>
   cases l with
   | nil=>simp[zbt]at h
   | cons o l=>
     obtain⟨_,h1,h2,_⟩:=h
     exact⟨by simp[jU,h1],by simp[zL,h2]⟩
structure AtD (P:Program) (cfg:Cfg) (ih:Task→Res) (f N:Nat) (all:List Oper) (o:Oper) (r:Rec) (E E1:Env) (H H1:Hp):Prop where
 eo:r.o=o
 eE:r.E=E
 eH:r.H=H
 want:jj all E o=r.did
 yes:r.did=true→yI P cfg ih f E H o.op=.val r.val H1
 no:r.did=false→r.val=yp∧H1=H
 put:zaB N E o.dst r.val=some E1
 eH':r.H'=H1
theorem zb6 {ih:Task→Res}{f N:Nat}{all:List Oper}:∀ {rs:List Rec}{l:List Oper}{E E':Env}{H H':Hp},zbt P cfg ih f N all rs l E H E' H'→∀ {i:Nat}{r:Rec},rs[i]?=some r →
 ∃ o,l[i]?=some o∧AtD P cfg ih f N all o r (jU rs E' i) (jU rs E' (i+1)) (zL rs H' i) (zL rs H' (i+1))
 | [],_,_,_,_,_,_,i,r,hr=>by simp at hr
 | r::rs,[],_,_,_,_,h,_,_,_=>by simp[zbt]at h
 | r::rs,o::l,E,E',H,H',h,i,r',hr=>by
   obtain⟨h1,h2,h3,h4,h5,h6,E1,h7,h8⟩:=h
   obtain⟨z1,z2⟩:=zeW h8
   cases i with
   | zero=>
     simp at hr
     subst hr
     have e1:jU (r::rs) E' 1=E1:=by rw[← z1];simp[jU]
     have e2:zL (r::rs) H' 1=r.H':=by rw[← z2];simp[zL]
     have e3:jU (r::rs) E' 0=E:=by simp[jU,h2]
     have e4:zL (r::rs) H' 0=H:=by simp[zL,h3]
     refine⟨o,rfl,?_⟩
     rw[e1,e2,e3,e4]
     exact⟨h1,h2,h3,h4,h5,fun hn=>⟨(h6 hn).1,(h6 hn).2⟩,h7,rfl⟩
   | succ i=>
     obtain⟨o',g1,g2⟩:=zb6 h8 (i:=i) (r:=r') (by simpa using hr)
     have e1:∀ k,jU (r::rs) E' (k+1)=jU rs E' k:=fun k=>by simp[jU]
     have e2:∀ k,zL (r::rs) H' (k+1)=zL rs H' k:=fun k=>by simp[zL]
     refine⟨o',by simpa using g1,?_⟩
     rw[e1,e1,e2,e2]
     exact g2
def zdf (op:Op):Bool:=match y9 op with|.calm=>true | _=>false
def zcF (op:Op):Bool:=match y9 op with|.read=>true | _=>false
theorem zpL {D:BinOp→Sx→Sx→Option Bool}{E:Env}{op:Op} (hk:zdf op=true):∃ u,∀ X,opA P D E X op=ret X u:=by
 cases op<;>simp only[zdf,y9,Bool.false_eq_true]at hk<;>simp only[opA]
 case move x=>exact⟨_,fun X=>rfl⟩
 case assign x=>exact⟨_,fun X=>rfl⟩
 case pick c a b=>
  unfold zjN
  cases zn E c with
  | none=>exact⟨none,fun X=>rfl⟩
  | some v=>cases v with
    | bool t=>cases t<;>exact⟨_,fun X=>rfl⟩
    | _=>exact⟨none,fun X=>rfl⟩
 case build t parts=>
  unfold zha
  cases jS E parts.toList with
  | none=>exact⟨none,fun X=>rfl⟩
  | some ps=>exact⟨_,fun X=>rfl⟩
 case nilCheck x=>
  unfold zc5
  cases zn E x with
  | none=>exact⟨none,fun X=>rfl⟩
  | some v=>cases v with
    | ptr r o=>exact⟨some (.ptr r o),fun X=>rfl⟩
    | iptr cs=>exact⟨some (.iptr cs),fun X=>rfl⟩
    | _=>exact⟨none,fun X=>rfl⟩
 case binOp op t x y yt=>
  unfold znt
  cases zn E x with
  | none=>exact⟨none,fun X=>rfl⟩
  | some v=>cases zn E y with
    | none=>exact⟨none,fun X=>rfl⟩
    | some u=>exact⟨_,fun X=>rfl⟩
 case unOp op t x=>
  unfold opUn
  cases zn E x with
  | none=>exact⟨none,fun X=>rfl⟩
  | some v=>exact⟨_,fun X=>rfl⟩
 case makeFunc fn first captured=>
  unfold zc6
  cases fn with
  | func f=>
    cases first.toList with
    | nil=>cases yO E captured.toList with
      | none=>exact⟨none,fun X=>rfl⟩
      | some vs=>exact⟨some (.clo f vs),fun X=>rfl⟩
    | cons _ _=>exact⟨none,fun X=>rfl⟩
  | _=>exact⟨none,fun X=>rfl⟩
 case fieldAddr t x f=>
  unfold zco
  cases zn E x with
  | none=>exact⟨none,fun X=>rfl⟩
  | some v=>exact⟨_,fun X=>rfl⟩
 case field t x f=>
  unfold zhc
  cases zn E x with
  | none=>exact⟨none,fun X=>rfl⟩
  | some v=>exact⟨_,fun X=>rfl⟩
 case indexAddr t x i=>
  unfold zcp
  cases zn E x with
  | none=>exact⟨none,fun X=>rfl⟩
  | some v=>cases zn E i with
    | none=>exact⟨none,fun X=>rfl⟩
    | some u=>exact⟨_,fun X=>rfl⟩
 case index t x i=>
  unfold zhd
  cases zn E x with
  | none=>exact⟨none,fun X=>rfl⟩
  | some v=>cases zn E i with
    | none=>exact⟨none,fun X=>rfl⟩
    | some u=>exact⟨_,fun X=>rfl⟩
 case extract x i=>
  unfold zed
  cases zn E x with
  | none=>exact⟨none,fun X=>rfl⟩
  | some v=>exact⟨_,fun X=>rfl⟩
 all_goals exact⟨none,fun X=>rfl⟩
theorem zhR {D:BinOp→Sx→Sx→Option Bool}{E:Env}{op:Op}{v:AV} (hk:zdf op=true) (h:opA P D E H op=some (v,H')):H'=H∧∀ X,opA P D E X op=some (v,X):=by
 obtain⟨u,hu⟩:=zpL (P:=P) (D:=D) (E:=E) hk
 rw[hu]at h
 obtain⟨rfl,rfl⟩:=jf h
 exact⟨rfl,fun X=>by rw[hu];rfl⟩
theorem zf3 {ih:Task→Res}{f:FuncId}{E:Env}{op:Op}{v:AV} (hk:zcF op=true) (h:yI P cfg ih f E H op=.val v H'):H'=H:=by
 cases op<;>simp only[zcF,y9,Bool.false_eq_true]at hk<;>simp only[yI,opA]at h
 case load t x=>
  unfold zhB at h
  split at h
  ·cases hx:zaZ P H t ‹AV› <;>rw[hx]at h<;>simp[ret,jZ]at h
   exact h.2.symm
  ·simp[jZ]at h
 case slice t x lo hi mx=>
  unfold zfh at h
  split at h
  ·rename_i xv lv hv _ _ _
   cases hx:zaP P H t xv lv hv<;>rw[hx]at h<;>simp[ret,jZ]at h
   exact h.2.symm
  ·simp[jZ]at h
 case convert s d x=>
  unfold zcL at h
  split at h
  ·cases hx:jo P H s d ‹AV› <;>rw[hx]at h<;>simp[ret,jZ]at h
   exact h.2.symm
  ·simp[jZ]at h
 case lookup t m k ok=>
  unfold zdF at h
  split at h
  ·rename_i mv kv _ _
   cases hx:ji P H t mv kv ok<;>rw[hx]at h<;>simp[ret,jZ]at h
   exact h.2.symm
  ·simp[jZ]at h
 case call c=>
  unfold zgx at h
  cases hc:c.callee with
  | value g=>rw[hc]at hk;simp at hk
  | invoke g m=>rw[hc]at hk;simp at hk
  | builtin b=>
    rw[hc]at hk h
    simp only[]at h
    split at h
    ·rename_i vs _
     cases b<;>simp only[Bool.false_eq_true]at hk<;>simp only[zaE]at h
     all_goals
      split at h
      ·rename_i v1 H1 hb
       simp only[Res.val.injEq]at h
       obtain⟨rfl,rfl⟩:=h
       split at hb
       ·split at hb
        ·simp only[Option.some.injEq,Prod.mk.injEq]at hb
         exact hb.2.symm
        ·simp at hb
       ·simp at hb
      ·simp at h
    ·simp at h
theorem zoH {D:BinOp→Sx→Sx→Option Bool}{E:Env}{o:Oper}{v:AV} (hk:zdG o=true) (h:opA P D E H o.op=some (v,H')):∃ blk,H'=H.alloc blk:=by
 obtain⟨dst,op,ty,pos,after,guard⟩:=o
 simp only[]at h
 cases op<;>simp only[zdG,y9,Bool.false_eq_true]at hk<;>simp only[opA,reduceCtorEq]at h
 case alloc t=>
  unfold zfg at h
  split at h
  ·simp only[Option.some.injEq,Prod.mk.injEq]at h;exact⟨_,h.2.symm⟩
  ·simp at h
 case box t x=>
  unfold zky at h
  split at h
  ·simp only[Option.some.injEq,Prod.mk.injEq]at h;exact⟨_,h.2.symm⟩
  ·simp at h
 case buildSlice t len parts=>
  unfold zbc at h
  split at h
  ·unfold zI at h
   (repeat' split at h)<;>first|(simp only[Option.some.injEq,Prod.mk.injEq]at h;exact⟨_,h.2.symm⟩)|simp at h
  ·simp at h
 case makeMap t r=>
  unfold zcM at h
  split at h
  ·simp only[Option.some.injEq,Prod.mk.injEq]at h;exact⟨_,h.2.symm⟩
  ·simp at h
 case makeSlice t l c=>
  unfold zbF at h
  split at h
  ·unfold jB at h
   (repeat' split at h)<;>first|(simp only[Option.some.injEq,Prod.mk.injEq]at h;exact⟨_,h.2.symm⟩)|simp at h
  ·simp at h
theorem zbu {ih:Task→Res}{f:FuncId}{E:Env}{op:Op}{v:AV} (hn:∀ c,op≠.call c):yI P cfg ih f E H op=.val v H'↔opA P cfg.dec E H op=some (v,H'):=by
 have:yI P cfg ih f E H op=jZ (opA P cfg.dec E H op):=by
  unfold yI
  split
  ·exact(hn _ rfl).elim
  ·rfl
 rw[this]
 cases opA P cfg.dec E H op with
 | none=>simp[jZ]
 | some p=>obtain⟨a,b⟩:=p;simp[jZ]
theorem zml {ih:Task→Res}{f:FuncId}{E:Env}{o:Oper}{v:AV} (hk:zcs o=false) (h:yI P cfg ih f E H o.op=.val v H'):H'=H∨∃ blk,H'=H.alloc blk:=by
 cases hkind:y9 o.op with
 | act=>simp[zcs,hkind]at hk
 | read=>exact .inl (zf3 (by simp[zcF,hkind]) h)
 | calm=>
   have hn:∀ c,o.op≠.call c:=fun c e=>by
    rw[e]at hkind
    simp only[y9]at hkind
    split at hkind<;>simp at hkind
   exact .inl (zhR (P:=P) (by simp[zdf,hkind]) ((zbu hn).1 h)).1
 | make=>
   have hn:∀ c,o.op≠.call c:=fun c e=>by
    rw[e]at hkind
    simp only[y9]at hkind
    split at hkind<;>simp at hkind
   exact .inr (zoH (by simp[zdG,hkind]) ((zbu hn).1 h))
end
end Go.Ab
