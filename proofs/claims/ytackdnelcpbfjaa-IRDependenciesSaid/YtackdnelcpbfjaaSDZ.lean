/-
  The Go function fullinglaw7.IRDependencies returns true whatever its three arguments are, and leaves all memory that was there as it was. Conditions: none.
-/
import Derived.OpenShut
import Derived.ProofKit
import Derived.Test.YtackdnelcpbfjaaSDK
import Derived.WalkKit
set_option linter.unusedSimpArgs false
set_option linter.unusedVariables false
set_option linter.unusedSectionVars false
set_option linter.defProp false
set_option maxHeartbeats 32000000
namespace Go.Proofs.Ytackdnelcpbfjaa.iRDependencies
set_option maxRecDepth 20000
set_option maxRecDepth 20000
open Go Go.Ab
namespace tyIRDependencies
def tyF:=And.intro @tq2 (And.intro @tq3 (And.intro @tq4 (And.intro @tq26 (And.intro @tq60 (And.intro @tq66 (@bsN0))))))
end tyIRDependencies
open tyIRDependencies Go.ChangeShapes Go.WideShapes Go.ChangeAt Go.RowKit
theorem own:ownKnob Try.prog.godebug=none:=by kernel_rfl
noncomputable def code7:{ c:SC // slim 119 (Try.f7.body.getD .skip)=c }:=by
 refine ⟨?_,?_⟩
 rotate_left
 · simp only [Try.f7, Option.getD_some, slim, slimR, slimL, slimD, slimG, Nat.blt, Nat.ble]
   rfl
noncomputable def code27:{ c:SC // slim 26 (Try.f27.body.getD .skip)=c }:=by
 refine ⟨?_,?_⟩
 rotate_left
 · simp only [Try.f27, Option.getD_some, slim, slimR, slimL, slimD, slimG, Nat.blt, Nat.ble]
   rfl
noncomputable def code26:{ c:SC // slim 17 (Try.f26.body.getD .skip)=c }:=by
 refine ⟨?_,?_⟩
 rotate_left
 · simp only [Try.f26, Option.getD_some, slim, slimR, slimL, slimD, slimG, Nat.blt, Nat.ble]
   rfl
def hasD (s:List Int) (n:Int):Bool:=s.any fun x=>decide (x=n)
def hdE (x:List Int × Int):List AV:=[lstI x.1,.int .i64 x.2]
theorem hdE_inj (x y:List Int × Int) (h:hdE x=hdE y):x=y:=by
 simp only [hdE,List.cons.injEq,AV.int.injEq,and_true,true_and] at h
 exact Prod.ext (lstI_inj h.1) h.2
theorem has_con' (ρ:Nat → Int) (x:List Int × Int) (hx:x.1.length < 2 ^ 60):Con Try.prog ρ 26 (hdE x) (.bool (hasD x.1 x.2)):=Con.lev fit (pls:=pls) (l:=[]) trivial (.cons (ints_pure _) (.cons (.int _ _) .nil)) (.bool _) (by
 obtain ⟨s,n⟩:=x
 have hw:=plain0 26
 rw [hdE]
 simp only [] at hx ⊢
 refine WpCall.slim (M:=17) (rs:=[.tmp 4]) (hw.call _) hw.ice hw.froz Try.func26 rfl rfl code26.2 rfl ?_;dsimp only [code26,envOf,Nat.reduceAdd]
 repeat' (first
    | (apply Rx.nl ?_;clear hK K)|apply Rx.o ?_|(apply Rx.cd (fun hb hbp=>?_) (fun hb hbp=>?_) <;> try (cases hb;done))|apply Wp.seq ?_|(apply Wp.ops' fun K hK=>?_)|apply Wp.block ?_|apply Rx.sk ?_|apply Rx.rt ?_|apply Rx.xt ?_)
 refine Wp.forI [1,7,8] [] 9 s.length (fun i E H=>hasD s n=hasD (s.drop i) n) eE (by simp) ?_
 rintro i E H2 hi hcE hrH hnH hsI hJ
 (try simp only [forall_cons,forall_nil,and_true,sB,sO,Nat.reduceBEq,Nat.reduceAdd,Nat.reduceLeDiff,tyF, *] at hcE)
 (try simp only [forall_cons,forall_nil,and_true,sB,sO,Nat.reduceBEq,Nat.reduceAdd,Nat.reduceLeDiff,tyF, *] at hrH)
 (try simp only [Hp.next_alloc,Hp.next_set,H0_next,Nat.zero_add,Nat.reduceAdd] at hnH)
 repeat' (first
    | (apply Rx.nl ?_;clear hK K)|apply Rx.o ?_|(apply Rx.cd (fun hb hbp=>?_) (fun hb hbp=>?_) <;> try (cases hb;done))|apply Wp.seq ?_|(apply Wp.ops' fun K hK=>?_)|apply Wp.block ?_|apply Rx.sk ?_|apply Rx.rt ?_|apply Rx.xt ?_)
 · have hlt : i < s.length := by simpa using hb
   have hgx:s[i]?=some s[i]:=List.getElem?_eq_getElem hlt
   have hdr:hasD (s.drop i) n=(decide (s[i]=n) || hasD (s.drop (i + 1)) n):=by rw [List.drop_eq_getElem_cons hlt];rfl
   generalize s[i]=m at *
   repeat' (first
      | (apply Rx.nl ?_;clear hK K)|apply Rx.o ?_|(apply Rx.cd (fun hb hbp=>?_) (fun hb hbp=>?_) <;> try (cases hb;done))|apply Wp.seq ?_|(apply Wp.ops' fun K hK=>?_)|apply Wp.block ?_|apply Rx.sk ?_|apply Rx.rt ?_|apply Rx.xt ?_)
   · all_goals (refine ⟨eI, _, eR, ?_⟩; try simp only [oneOr])
     rw [hJ,hdr];simp_all
   · refine ⟨by omega, eL, eL, eN, (by simp only [sB, Nat.reduceBEq, *]; exact i64_succ (n := s.length) (by omega) (by omega)), ?_⟩
     rw [hJ,hdr];simp_all
 · repeat' (first
      | (apply Rx.nl ?_;clear hK K)|apply Rx.o ?_|(apply Rx.cd (fun hb hbp=>?_) (fun hb hbp=>?_) <;> try (cases hb;done))|apply Wp.seq ?_|(apply Wp.ops' fun K hK=>?_)|apply Wp.block ?_|apply Rx.sk ?_|apply Rx.rt ?_|apply Rx.xt ?_)
   all_goals (refine ⟨eI,_,eR,?_⟩;try simp only [oneOr])
   rw [hJ,show i=s.length by simp at hb;omega,List.drop_length];rfl)
theorem ints_con (ρ : Nat → Int) (x : List Int × List Int) (hx : x.1.length < 2 ^ 60) : Con Try.prog ρ 27 (mtE x) (.bool (decide (x.1 = x.2))) := Con.lev fit (pls := pls) (l := []) trivial (.cons (ints_pure _) (.cons (ints_pure _) .nil)) (.bool _) (by
  obtain ⟨s,w⟩:=x
  have hw:=plain0 27
  rw [mtE]
  simp only [] at hx ⊢
  by_cases hl:w.length=s.length
  · refine WpCall.slim (M := 26) (rs := [.tmp 4]) (hw.call _) hw.ice hw.froz Try.func27 rfl rfl code27.2 rfl ?_; dsimp only [code27, envOf, Nat.reduceAdd]
    repeat' (first
       | (apply Rx.nl ?_;clear hK K)|apply Ry.o ?_|(apply Ry.cd (fun hb hbp=>?_) (fun hb hbp=>?_) <;> try (cases hb;done))|apply Wp.seq ?_|(apply Wp.ops' fun K hK=>?_)|(apply Rx.dT 6 [(3,9),(7,9)] fun K hK=>?_)|(apply Rx.nq ?_;try intro _)|(apply Rx.nt ?_ ?_ <;> clear hK K)|apply WpT.step ?_|apply Wp.block ?_|apply Rx.sk ?_|apply Rx.rt ?_|apply Rx.xt ?_)
    refine Wp.forI [0,1,12] [] 13 s.length (fun i E H=>decide (s=w)=decide (s.drop i=w.drop i)) eE (by simp) ?_
    rintro i E H2 hi hcE hrH hnH hsI hJ
    (try simp only [forall_cons,forall_nil,and_true,sB,sO,Nat.reduceBEq,Nat.reduceAdd,Nat.reduceLeDiff,tyF, *] at hcE)
    (try simp only [forall_cons,forall_nil,and_true,sB,sO,Nat.reduceBEq,Nat.reduceAdd,Nat.reduceLeDiff,tyF, *] at hrH)
    (try simp only [Hp.next_alloc,Hp.next_set,H0_next,Nat.zero_add,Nat.reduceAdd] at hnH)
    repeat' (first
       | (apply Rx.nl ?_;clear hK K)|apply Rx.o ?_|(apply Rx.cd (fun hb hbp=>?_) (fun hb hbp=>?_) <;> try (cases hb;done))|apply Wp.seq ?_|(apply Wp.ops' fun K hK=>?_)|(apply Rx.dT 6 [(3,9),(7,9)] fun K hK=>?_)|(apply Rx.nq ?_;try intro _)|(apply Rx.nt ?_ ?_ <;> clear hK K)|apply WpT.step ?_|apply Wp.block ?_|apply Rx.sk ?_|apply Rx.rt ?_|apply Rx.xt ?_)
    · have hlt : i < s.length := by simpa using hb
      have hgx:s[i]?=some s[i]:=List.getElem?_eq_getElem hlt
      have hgy:w[i]?=some (w[i]'(by omega)):=List.getElem?_eq_getElem (by omega)
      have hdr:=eq_drop hl.symm hlt
      rw [List.getD_eq_getElem?_getD,List.getD_eq_getElem?_getD,hgx,hgy] at hdr
      simp only [Option.getD_some] at hdr
      generalize s[i]=x at *
      generalize w[i]'(by omega)=y at *
      repeat' (first
         | (apply Rx.nl ?_;clear hK K)|apply Rx.o ?_|(apply Rx.cd (fun hb hbp=>?_) (fun hb hbp=>?_) <;> try (cases hb;done))|apply Wp.seq ?_|(apply Wp.ops' fun K hK=>?_)|(apply Rx.dT 6 [(3,9),(7,9)] fun K hK=>?_)|(apply Rx.nq ?_;try intro _)|(apply Rx.nt ?_ ?_ <;> clear hK K)|apply WpT.step ?_|apply Wp.block ?_|apply Rx.sk ?_|apply Rx.rt ?_|apply Rx.xt ?_)
      · exact eK
      · all_goals (refine ⟨eI, _, eR, ?_⟩; try simp only [oneOr])
        rw [hJ,hdr];simp_all
      · refine ⟨by omega, eL, eL, eN, (by simp only [sB, Nat.reduceBEq, *]; exact i64_succ (n := s.length) (by omega) (by omega)), ?_⟩
        rw [hJ,hdr];simp_all
    · repeat' (first
         | (apply Rx.nl ?_;clear hK K)|apply Rx.o ?_|(apply Rx.cd (fun hb hbp=>?_) (fun hb hbp=>?_) <;> try (cases hb;done))|apply Wp.seq ?_|(apply Wp.ops' fun K hK=>?_)|(apply Rx.dT 6 [(3,9),(7,9)] fun K hK=>?_)|(apply Rx.nq ?_;try intro _)|(apply Rx.nt ?_ ?_ <;> clear hK K)|apply WpT.step ?_|apply Wp.block ?_|apply Rx.sk ?_|apply Rx.rt ?_|apply Rx.xt ?_)
      all_goals (refine ⟨eI,_,eR,?_⟩;try simp only [oneOr])
      rw [hJ,show i=s.length by simp at hb;omega,List.drop_length,← hl,List.drop_length]
      simp_all
  · have hne : ¬ s = w := fun e => hl (by rw [e])
    have hl2:¬ (s.length:Int)=w.length:=by omega
    refine WpCall.slim (M:=26) (rs:=[.tmp 4]) (hw.call _) hw.ice hw.froz Try.func27 rfl rfl code27.2 rfl ?_;dsimp only [code27,envOf,Nat.reduceAdd]
    repeat' (first
       | (apply Rx.nl ?_;clear hK K)|apply Ry.o ?_|(apply Ry.cd (fun hb hbp=>?_) (fun hb hbp=>?_) <;> try (cases hb;done))|apply Wp.seq ?_|(apply Wp.ops' fun K hK=>?_)|(apply Rx.dT 6 [(3,9),(7,9)] fun K hK=>?_)|(apply Rx.nq ?_;try intro _)|(apply Rx.nt ?_ ?_ <;> clear hK K)|apply WpT.step ?_|apply Wp.block ?_|apply Rx.sk ?_|apply Rx.rt ?_|apply Rx.xt ?_)
    all_goals
      refine ⟨eI,_,eRW,?_⟩;try simp only [oneOr]
      rw [decide_eq_false hne])
noncomputable def enHas7:En:=⟨26,false,spP (fun x=>x.1.length < 2 ^ 60) hdE fun x=>.bool (hasD x.1 x.2)⟩
theorem enHas7_ok (ρ:Nat → Int):EnOk Try.prog ρ enHas7:=spP_ok fun x hx=>has_con' ρ x hx
noncomputable def enInts7:En:=⟨27,false,spP (fun x=>x.1.length < 2 ^ 60) mtE fun x=>.bool (decide (x.1=x.2))⟩
theorem enInts7_ok (ρ:Nat → Int):EnOk Try.prog ρ enInts7:=spP_ok fun x hx=>ints_con ρ x hx
noncomputable def enIEx:En:=⟨28,false,fun args=>lookK knIEx.list 28 args⟩
theorem enIEx_ok (ρ:Nat → Int):EnOk Try.prog ρ enIEx:=fun args r hr=>lookK_ok (knIEx.ok ρ) _ args r hr
noncomputable def levX:List En:=[enNd,enMut,enPick,enW enSo,enW enDe,enHas7,enInts7,enIEx]
theorem levX_ok (ρ:Nat → Int):EnsOk Try.prog ρ levX:=⟨enNd_ok ρ,enMut_ok ρ,enPick_ok ρ,enW_ok (enSo_ok ρ),enW_ok (enDe_ok ρ),enHas7_ok ρ,enInts7_ok ρ,enIEx_ok ρ,trivial⟩
theorem kIEx (H:Hp):WpCall Try.prog (cfgN pls levX) 28 [] H fun v H'=>v=.bool true ∧ H'=H:=WpCall.kn rfl
theorem srE_wk (x:List Nd × Int):(srE x).map (wkN 60)=srE x:=by
 show [wkN 60 (lstN x.1),wkN 60 (.int .i64 x.2)]=_
 rw [wk60_nds];rfl
theorem srE_ns (y:List Nd × Int):(srE y).any (hasSl 90)=false:=rfl
theorem so_V (l:List Nd) (i:Int) (hl:NdsOk l) (H:Hp):WpCall Try.prog (cfgN pls levX) 25 [lstN l,.int .i64 i] H fun v H'=>v=.int .i64 (sortI l i) ∧ H'=H:=
 enV_wp (enc:=srE) (ok:=fun x=>NdsOk x.1) (out:=fun x=>.int .i64 (sortI x.1 x.2)) srE_inj (x:=(l,i)) (fun _=>rfl) (srE_wk _) hl
theorem de_V (l:List Nd) (i:Int) (hl:NdsOk l) (H:Hp):WpCall Try.prog (cfgN pls levX) 24 [lstN l,.int .i64 i] H fun v H'=>v=lstI (depsI l i) ∧ H'=H:=
 enV_wp (enc:=srE) (ok:=fun x=>NdsOk x.1) (out:=fun x=>lstI (depsI x.1 x.2)) srE_inj (x:=(l,i)) (fun _=>rfl) (srE_wk _) hl
theorem so_M {S:Nat → Prop} {n:Nat} {H:Hp} {v:AV} {l:List Nd} (hn:n < 58) (hv:RowOwn S n H 3 v (l.map Nd.cells)) (i:Int) (hl:NdsOk l):WpCall Try.prog (cfgN pls levX) 25 [v,.int .i64 i] H fun w H'=>w=.int .i64 (sortI l i) ∧ Icy S H H':=by
 obtain ⟨us,h1,h2⟩:CellsW S (n + 1) H [v,.int .i64 i] (srE (l,i)):=.cons hv.rd (.cons (.int _ _) .nil)
 exact WpCall.enX (x:=((l,i):List Nd × Int)) (enc:=srE) (ok:=fun x=>NdsOk x.1) (out:=fun x=>.int .i64 (sortI x.1 x.2)) srE_inj (fun _=>rfl) rfl srE_ns hl (by omega) h1 (h2 60 (by omega))
theorem de_M {S:Nat → Prop} {n:Nat} {H:Hp} {v:AV} {l:List Nd} (hn:n < 58) (hv:RowOwn S n H 3 v (l.map Nd.cells)) (i:Int) (hl:NdsOk l):WpCall Try.prog (cfgN pls levX) 24 [v,.int .i64 i] H fun w H'=>w=lstI (depsI l i) ∧ Icy S H H':=by
 obtain ⟨us,h1,h2⟩:CellsW S (n + 1) H [v,.int .i64 i] (srE (l,i)):=.cons hv.rd (.cons (.int _ _) .nil)
 exact WpCall.enX (x:=((l,i):List Nd × Int)) (enc:=srE) (ok:=fun x=>NdsOk x.1) (out:=fun x=>lstI (depsI x.1 x.2)) srE_inj (fun _=>rfl) rfl srE_ns hl (by omega) h1 (h2 60 (by omega))
theorem hs_en (s:List Int) (n:Int) (hs:s.length < 2 ^ 60) (H:Hp):WpCall Try.prog (cfgN pls levX) 26 [lstI s,.int .i64 n] H fun v H'=>v=.bool (hasD s n) ∧ H'=H:=
 WpCall.en (enc:=hdE) (ok:=fun x=>x.1.length < 2 ^ 60) (out:=fun x=>.bool (hasD x.1 x.2)) hdE_inj (x:=(s,n)) rfl hs
theorem is_en (s w:List Int) (hs:s.length < 2 ^ 60) (H:Hp):WpCall Try.prog (cfgN pls levX) 27 [lstI s,lstI w] H fun v H'=>v=.bool (decide (s=w)) ∧ H'=H:=
 WpCall.en (enc:=mtE) (ok:=fun x=>x.1.length < 2 ^ 60) (out:=fun x=>.bool (decide (x.1=x.2))) mtE_inj (x:=(s,w)) rfl hs
theorem bne_tt (D:BinOp → Sx → Sx → Option Bool):binA Try.prog D .neq 4 (.bool true) (.bool true)=some (.bool false):=by kernel_rfl
theorem bne_ff (D:BinOp → Sx → Sx → Option Bool):binA Try.prog D .neq 4 (.bool false) (.bool false)=some (.bool false):=by kernel_rfl
theorem bNd99 (a b:Int):buildA Try.prog 66 [(0,.int .i64 a),(1,.int .i64 b)]=some (.agg [.int .i64 a,.int .i64 b,.nilS]):=by kernel_rfl
theorem depsI_len (l:List Nd) (i:Nat):(depsI l i).length ≤ i + 1:=by
 rw [depsI_eq];split
 · simp
 · rw [List.length_map];exact Nat.le_trans (List.length_filter_le _ _) (by simp)
set_option maxRecDepth 100000 in
theorem law (l : List Int) (how a : Int) (hl : l.length < 2 ^ 63) : WpCall Try.prog (cfgN pls levX) 7 [intRows l, .int .i64 how, .int .i64 a] H0 fun v _ => v = .bool true := by
  have hw:Plain (cfgN pls levX) 7:=plainN (fun _=>rfl) rfl
  have hkeep:(cfgN pls levX).keep 7=false:=rfl
  have hno:NdsOk (nodesL l false) ∧ nodesL l false ≠ []:=⟨nodesL_ok l,nodesL_ne l false⟩
  obtain ⟨hx,hlx,hxn⟩:=mutL_ok l how a
  change WpCall _ _ _ [lstI l,.int .i64 how,.int .i64 a] _ _
  generalize hxe:mutN (nodesL l false) how a=x at hx hlx hxn
  have hlp:0 < x.length:=List.length_pos_iff.2 hxn
  have hr:=pickG_range (n:=a) (m:=x.length) (by omega) (by omega)
  obtain ⟨k,hk⟩:=Int.eq_ofNat_of_zero_le hr.1
  rw [hk] at hr
  have hkl:k < x.length:=by omega
  have hne:(x.length:Int) ≠ 0:=by omega
  have hdl:=depsI_len x k
  have hdl60:(depsI x k).length < 2 ^ 60:=by omega
  have hnil:=depsI_nil (l:=x) (i:=k)
  have hyo:NdsOk (x ++ [⟨1,99,[]⟩]):=⟨by rw [List.length_append];have:=hx.1;simp;omega,fun n hn=>by
    rcases List.mem_append.1 hn with h|h
    · exact hx.2 n h
    · rw [List.mem_singleton] at h;subst h;decide⟩
  have hyd:depsI (x ++ [⟨1,99,[]⟩]) k=depsI x k:=depsI_app hkl
  have hys:sortI (x ++ [⟨1,99,[]⟩]) k=sortI x k:=sortI_app hkl
  have hlast:=depsI_last (l:=x) (i:=k)
  have hsort:=depsI_sorted x k
  have hwf:∀ y ∈ depsI x k,sortI x y ≠ 0 ∧ 0 ≤ y ∧ y ≤ k:=fun y hy=>depsI_wf hy
  have hcl:∀ y ∈ depsI x k,∀ n:Nd,x[y.toNat]?=some n → ∀ c ∈ n.kids,c ∈ depsI x k:=fun y hy n hn c hc=>depsI_closed hy hn hc
  obtain ⟨D,hD⟩:∃ D,depsI x k=D:=⟨_,rfl⟩
  rw [hD] at hdl hdl60 hnil hyd hlast hsort hwf hcl
  obtain ⟨s,hs⟩:∃ s,sortI x k=s:=⟨_,rfl⟩
  rw [hs] at hnil hlast hys
  by_cases hs0:s=0
  have hd0:D=[]:=hnil.2 hs0
  clear hsort hwf hcl hlast hnil
  refine WpCall.slim (M:=119) (rs:=[.tmp 6]) (hw.call _) hw.ice hw.froz Try.func7 rfl rfl code7.2 rfl ?_;dsimp only [code7,envOf,Nat.reduceAdd]
  have gh0:=@bne_tt
  repeat' (first
     | (apply Rx.nl ?_;clear hK K)|apply Ry.o ?_|(apply Ry.call ?_;first|refine Rx.k (nd_en (fun _=>rfl) _ hl _) ?_|refine Rx.k (mutn_en (fun _=>rfl) _ _ _ hno _) ?_|refine Rx.k (pick_en (fun _=>rfl) _ _ hne _) ?_|refine Rx.k (de_V _ _ hx _) ?_|refine Rx.k (so_V _ _ hx _) ?_)|(apply Ry.gd (fun hg hgp=>?_) (fun hg hgp=>?_) <;> try (cases hg;done))|(apply Ry.cd (fun hb hbp=>?_) (fun hb hbp=>?_) <;> try (cases hb;done))|apply Wp.seq ?_|(apply Wp.ops' fun K hK=>?_)|(apply Rx.dT 9 [(6,20),(11,20),(19,20)] fun K hK=>?_)|(apply Rx.nq ?_;try intro _)|(apply Rx.nt ?_ ?_ <;> clear hK K)|apply WpT.step ?_|(apply Ry.gt (fun hg hgp=>?_) (fun hg hgp=>?_) <;> try (cases hg;done))|apply Wp.block ?_|apply Rx.sk ?_|apply Rx.rt ?_|apply Rx.xt ?_)
  refine Wp.forI [7,8,9,50] [] 51 0 (fun i E H=>H=H0) eE rfl ?_
  rintro i E H2 hi hcE hrH hnH hsI hH
  (try simp only [forall_cons,forall_nil,and_true,sB,sO,Nat.reduceBEq,Nat.reduceAdd,Nat.reduceLeDiff,tyF, *] at hcE)
  (try simp only [forall_cons,forall_nil,and_true,sB,sO,Nat.reduceBEq,Nat.reduceAdd,Nat.reduceLeDiff,tyF, *] at hrH)
  (try simp only [Hp.next_alloc,Hp.next_set,H0_next,Nat.zero_add,Nat.reduceAdd] at hnH)
  subst hH
  have hi0:i=0:=by omega
  subst hi0
  repeat' (first
     | (apply Rx.nl ?_;clear hK K)|apply Ry.o ?_|(apply Ry.gd (fun hg hgp=>?_) (fun hg hgp=>?_) <;> try (cases hg;done))|(apply Ry.cd (fun hb hbp=>?_) (fun hb hbp=>?_) <;> try (cases hb;done))|apply Wp.seq ?_|(apply Wp.ops' fun K hK=>?_)|(apply Rx.dT 9 [(6,20),(11,20),(19,20)] fun K hK=>?_)|(apply Rx.nq ?_;try intro _)|(apply Rx.nt ?_ ?_ <;> clear hK K)|apply WpT.step ?_|(apply Ry.gt (fun hg hgp=>?_) (fun hg hgp=>?_) <;> try (cases hg;done))|apply Wp.block ?_|apply Rx.sk ?_|apply Rx.rt ?_|apply Rx.xt ?_)
  rotate_left
  have hdn:D ≠ []:=fun e=>hs0 (hnil.1 e)
  have hlast':=hlast hs0
  have hdp:0 < D.length:=List.length_pos_iff.2 hdn
  have hlx:D[D.length - 1]?=some (k:Int):=by rw [← List.getLast?_eq_getElem?];exact hlast'
  have el:IntKind.wrap .i64 ((D.length:Int) - 1)=((D.length - 1:Nat):Int):=by rw [i64_id (by omega) (by omega)];omega
  have hne0:¬ (D.length:Int)=0:=by omega
  have hgt0:(0:Int) < D.length:=by omega
  clear hlast hlast' hnil
  refine WpCall.slim (M:=119) (rs:=[.tmp 6]) (hw.call _) hw.ice hw.froz Try.func7 rfl rfl code7.2 rfl ?_;dsimp only [code7,envOf,Nat.reduceAdd]
  have gh0:=@bne_ff
  repeat' (first
     | (apply Rx.nl ?_;clear hK K)|apply Ry.o ?_|(apply Ry.call ?_;first|refine Rx.k (nd_en (fun _=>rfl) _ hl _) ?_|refine Rx.k (mutn_en (fun _=>rfl) _ _ _ hno _) ?_|refine Rx.k (pick_en (fun _=>rfl) _ _ hne _) ?_|refine Rx.k (de_V _ _ hx _) ?_|refine Rx.k (so_V _ _ hx _) ?_)|(apply Ry.gd (fun hg hgp=>?_) (fun hg hgp=>?_) <;> try (cases hg;done))|(apply Ry.cd (fun hb hbp=>?_) (fun hb hbp=>?_) <;> try (cases hb;done))|apply Wp.seq ?_|(apply Wp.ops' fun K hK=>?_)|(apply Rx.dT 9 [(6,20),(11,20),(19,20)] fun K hK=>?_)|(apply Rx.nq ?_;try intro _)|(apply Rx.nt ?_ ?_ <;> clear hK K)|apply WpT.step ?_|(apply Ry.gt (fun hg hgp=>?_) (fun hg hgp=>?_) <;> try (cases hg;done))|apply Wp.block ?_|apply Rx.sk ?_|apply Rx.rt ?_|apply Rx.xt ?_)
  refine Wp.forI [7,8,9,50] [] 51 D.length (fun i E H=>H=H0) eE rfl ?_
  rintro i E H2 hi hcE hrH hnH hsI hH
  (try simp only [forall_cons,forall_nil,and_true,sB,sO,Nat.reduceBEq,Nat.reduceAdd,Nat.reduceLeDiff,tyF, *] at hcE)
  (try simp only [forall_cons,forall_nil,and_true,sB,sO,Nat.reduceBEq,Nat.reduceAdd,Nat.reduceLeDiff,tyF, *] at hrH)
  (try simp only [Hp.next_alloc,Hp.next_set,H0_next,Nat.zero_add,Nat.reduceAdd] at hnH)
  subst hH
  by_cases hlt:i < D.length
  · have hlt' : (i : Int) < D.length := by omega
    have hgi:D[i]?=some D[i]:=List.getElem?_eq_getElem hlt
    obtain ⟨w1,w2,w3⟩:=hwf _ (List.getElem_mem hlt)
    have hcl':=hcl _ (List.getElem_mem hlt)
    have hpr:∀ j,(hj:j < i) → D[j]'(by omega) < D[i]:=fun j hj=>List.pairwise_iff_getElem.1 hsort j i (by omega) hlt hj
    generalize hd:D[i]=d at *
    obtain ⟨m,rfl⟩:=Int.eq_ofNat_of_zero_le w2
    have hml:m < x.length:=by omega
    have hgx:x[m]?=some x[m]:=List.getElem?_eq_getElem hml
    have hnk:=hx.2 _ (List.getElem_mem hml)
    have hcl2:=hcl' x[m] (by rw [Int.toNat_natCast];exact hgx)
    clear hcl' hcl hwf hsort
    generalize x[m]=nd at *
    obtain ⟨r,hr1⟩:∃ r,sortI x m=r:=⟨_,rfl⟩
    rw [hr1] at w1
    have hm0:(0:Int) ≤ m:=by omega
    by_cases hi0:i=0
    · subst hi0
      repeat' (first
         | (apply Rx.nl ?_;clear hK K)|apply Ry.o ?_|(apply Ry.call ?_;first|refine Rx.k (so_V _ _ hx _) ?_)|(apply Ry.gd (fun hg hgp=>?_) (fun hg hgp=>?_) <;> try (cases hg;done))|(apply Ry.cd (fun hb hbp=>?_) (fun hb hbp=>?_) <;> try (cases hb;done))|apply Wp.seq ?_|(apply Wp.ops' fun K hK=>?_)|(apply Rx.dT 9 [(6,20),(11,20),(19,20)] fun K hK=>?_)|(apply Rx.nq ?_;try intro _)|(apply Rx.nt ?_ ?_ <;> clear hK K)|apply WpT.step ?_|(apply Ry.gt (fun hg hgp=>?_) (fun hg hgp=>?_) <;> try (cases hg;done))|apply Wp.block ?_|apply Rx.sk ?_|apply Rx.rt ?_|apply Rx.xt ?_)
      · exact eK
      · refine Wp.forI [7, 8, 9, 50, 51, 84, 85] [] 86 nd.kids.length (fun j E H => H = H0) eE rfl ?_
        rintro j E3 H3 hj hcE hrH hnH hsI hH3
        (try simp only [forall_cons,forall_nil,and_true,sB,sO,Nat.reduceBEq,Nat.reduceAdd,Nat.reduceLeDiff,tyF, *] at hcE)
        (try simp only [forall_cons,forall_nil,and_true,sB,sO,Nat.reduceBEq,Nat.reduceAdd,Nat.reduceLeDiff,tyF, *] at hrH)
        (try simp only [Hp.next_alloc,Hp.next_set,H0_next,Nat.zero_add,Nat.reduceAdd] at hnH)
        subst hH3
        by_cases hjt:j < nd.kids.length
        · have hjt' : (j : Int) < nd.kids.length := by omega
          have hgj:nd.kids[j]?=some nd.kids[j]:=List.getElem?_eq_getElem hjt
          have hin:hasD D nd.kids[j]=true:=List.any_eq_true.2 ⟨_,hcl2 _ (List.getElem_mem hjt),by simp⟩
          generalize nd.kids[j]=kd at *
          repeat' (first
             | (apply Rx.nl ?_;clear hK K)|apply Ry.o ?_|(apply Ry.call ?_;first|refine Rx.k (hs_en _ _ hdl60 _) ?_)|(apply Ry.gd (fun hg hgp=>?_) (fun hg hgp=>?_) <;> try (cases hg;done))|(apply Ry.cd (fun hb hbp=>?_) (fun hb hbp=>?_) <;> try (cases hb;done))|apply Wp.seq ?_|(apply Wp.ops' fun K hK=>?_)|(apply Rx.dT 9 [(6,20),(11,20),(19,20)] fun K hK=>?_)|(apply Rx.nq ?_;try intro _)|(apply Rx.nt ?_ ?_ <;> clear hK K)|apply WpT.step ?_|(apply Ry.gt (fun hg hgp=>?_) (fun hg hgp=>?_) <;> try (cases hg;done))|apply Wp.block ?_|apply Rx.sk ?_|apply Rx.rt ?_|apply Rx.xt ?_)
          refine ⟨by omega,eL,eL,eN,(by simp only [sB,Nat.reduceBEq, *];exact i64_succ (n:=nd.kids.length) (by omega) (by omega)),?_⟩
          trivial
        · have hjt' : ¬ (j : Int) < nd.kids.length := by omega
          repeat' (first
             | (apply Rx.nl ?_;clear hK K)|apply Ry.o ?_|(apply Ry.gd (fun hg hgp=>?_) (fun hg hgp=>?_) <;> try (cases hg;done))|(apply Ry.cd (fun hb hbp=>?_) (fun hb hbp=>?_) <;> try (cases hb;done))|apply Wp.seq ?_|(apply Wp.ops' fun K hK=>?_)|(apply Rx.dT 9 [(6,20),(11,20),(19,20)] fun K hK=>?_)|(apply Rx.nq ?_;try intro _)|(apply Rx.nt ?_ ?_ <;> clear hK K)|apply WpT.step ?_|(apply Ry.gt (fun hg hgp=>?_) (fun hg hgp=>?_) <;> try (cases hg;done))|apply Wp.block ?_|apply Rx.sk ?_|apply Rx.rt ?_|apply Rx.xt ?_)
          refine ⟨by omega,eL,eL,eN,(by simp only [sB,Nat.reduceBEq, *];exact i64_succ (n:=D.length) (by omega) (by omega)),?_⟩
          trivial
    · have hip : (0 : Int) < i := by omega
      have e1:IntKind.wrap .i64 ((i:Int) - 1)=((i - 1:Nat):Int):=by rw [i64_id (by omega) (by omega)];omega
      have hgq:D[i - 1]?=some D[i - 1]:=List.getElem?_eq_getElem (by omega)
      have hlt2:=hpr (i - 1) (by omega)
      generalize D[i - 1]=d2 at *
      have hnle:¬ (m:Int) ≤ d2:=by omega
      repeat' (first
         | (apply Rx.nl ?_;clear hK K)|apply Ry.o ?_|(apply Ry.call ?_;first|refine Rx.k (so_V _ _ hx _) ?_)|(apply Ry.gd (fun hg hgp=>?_) (fun hg hgp=>?_) <;> try (cases hg;done))|(apply Ry.cd (fun hb hbp=>?_) (fun hb hbp=>?_) <;> try (cases hb;done))|apply Wp.seq ?_|(apply Wp.ops' fun K hK=>?_)|(apply Rx.dT 9 [(6,20),(11,20),(19,20)] fun K hK=>?_)|(apply Rx.nq ?_;try intro _)|(apply Rx.nt ?_ ?_ <;> clear hK K)|apply WpT.step ?_|(apply Ry.gt (fun hg hgp=>?_) (fun hg hgp=>?_) <;> try (cases hg;done))|apply Wp.block ?_|apply Rx.sk ?_|apply Rx.rt ?_|apply Rx.xt ?_)
      · exact eK
      · refine Wp.forI [7, 8, 9, 50, 51, 84, 85] [] 86 nd.kids.length (fun j E H => H = H0) eE rfl ?_
        rintro j E3 H3 hj hcE hrH hnH hsI hH3
        (try simp only [forall_cons,forall_nil,and_true,sB,sO,Nat.reduceBEq,Nat.reduceAdd,Nat.reduceLeDiff,tyF, *] at hcE)
        (try simp only [forall_cons,forall_nil,and_true,sB,sO,Nat.reduceBEq,Nat.reduceAdd,Nat.reduceLeDiff,tyF, *] at hrH)
        (try simp only [Hp.next_alloc,Hp.next_set,H0_next,Nat.zero_add,Nat.reduceAdd] at hnH)
        subst hH3
        by_cases hjt:j < nd.kids.length
        · have hjt' : (j : Int) < nd.kids.length := by omega
          have hgj:nd.kids[j]?=some nd.kids[j]:=List.getElem?_eq_getElem hjt
          have hin:hasD D nd.kids[j]=true:=List.any_eq_true.2 ⟨_,hcl2 _ (List.getElem_mem hjt),by simp⟩
          generalize nd.kids[j]=kd at *
          repeat' (first
             | (apply Rx.nl ?_;clear hK K)|apply Ry.o ?_|(apply Ry.call ?_;first|refine Rx.k (hs_en _ _ hdl60 _) ?_)|(apply Ry.gd (fun hg hgp=>?_) (fun hg hgp=>?_) <;> try (cases hg;done))|(apply Ry.cd (fun hb hbp=>?_) (fun hb hbp=>?_) <;> try (cases hb;done))|apply Wp.seq ?_|(apply Wp.ops' fun K hK=>?_)|(apply Rx.dT 9 [(6,20),(11,20),(19,20)] fun K hK=>?_)|(apply Rx.nq ?_;try intro _)|(apply Rx.nt ?_ ?_ <;> clear hK K)|apply WpT.step ?_|(apply Ry.gt (fun hg hgp=>?_) (fun hg hgp=>?_) <;> try (cases hg;done))|apply Wp.block ?_|apply Rx.sk ?_|apply Rx.rt ?_|apply Rx.xt ?_)
          refine ⟨by omega,eL,eL,eN,(by simp only [sB,Nat.reduceBEq, *];exact i64_succ (n:=nd.kids.length) (by omega) (by omega)),?_⟩
          trivial
        · have hjt' : ¬ (j : Int) < nd.kids.length := by omega
          repeat' (first
             | (apply Rx.nl ?_;clear hK K)|apply Ry.o ?_|(apply Ry.gd (fun hg hgp=>?_) (fun hg hgp=>?_) <;> try (cases hg;done))|(apply Ry.cd (fun hb hbp=>?_) (fun hb hbp=>?_) <;> try (cases hb;done))|apply Wp.seq ?_|(apply Wp.ops' fun K hK=>?_)|(apply Rx.dT 9 [(6,20),(11,20),(19,20)] fun K hK=>?_)|(apply Rx.nq ?_;try intro _)|(apply Rx.nt ?_ ?_ <;> clear hK K)|apply WpT.step ?_|(apply Ry.gt (fun hg hgp=>?_) (fun hg hgp=>?_) <;> try (cases hg;done))|apply Wp.block ?_|apply Rx.sk ?_|apply Rx.rt ?_|apply Rx.xt ?_)
          refine ⟨by omega,eL,eL,eN,(by simp only [sB,Nat.reduceBEq, *];exact i64_succ (n:=D.length) (by omega) (by omega)),?_⟩
          trivial
  have hlt':¬ (i:Int) < D.length:=by omega
  repeat' (first
     | (apply Rx.nl ?_;clear hK K)|apply Ry.o ?_|(apply Ry.gd (fun hg hgp=>?_) (fun hg hgp=>?_) <;> try (cases hg;done))|(apply Ry.cd (fun hb hbp=>?_) (fun hb hbp=>?_) <;> try (cases hb;done))|apply Wp.seq ?_|(apply Wp.ops' fun K hK=>?_)|(apply Rx.dT 9 [(6,20),(11,20),(19,20)] fun K hK=>?_)|(apply Rx.nq ?_;try intro _)|(apply Rx.nt ?_ ?_ <;> clear hK K)|apply WpT.step ?_|(apply Ry.gt (fun hg hgp=>?_) (fun hg hgp=>?_) <;> try (cases hg;done))|apply Wp.block ?_|apply Rx.sk ?_|apply Rx.rt ?_|apply Rx.xt ?_)
  all_goals
    obtain ⟨q,H1,a1,gq,hq1,hq2,n1,n1',o1⟩:=app_rows (P:=Try.prog) (t:=60) (H:=H0.alloc (.cells [] 0 true)) (q:=0) Try.underlying60 sz66 bt66 zr66 rfl (by kernel_rfl) (by rw [Hp.get_alloc,if_pos (by rfl)]) (by rw [Hp.next_alloc];omega) (rows:=x.map Nd.cells) (rows_nds x) (nds_one x) (by simp [maxRoom];omega) (by simp [maxRoom];omega)
    have a2:=app_row0 (P:=Try.prog) (t:=60) (H:=H1.alloc (.cells [.int .i64 1,.int .i64 99,.nilS] 0 true)) (q:=q) (r:=H1.next) (imm:=0) (rows:=x.map Nd.cells) (row:=[.int .i64 1,.int .i64 99,.nilS]) Try.underlying60 sz66 bt66 zr66 rfl (by kernel_rfl) (by rw [Hp.get_alloc,if_neg (by omega)];exact gq) (rows_nds x) (by rw [Hp.get_alloc,if_pos rfl]) rfl rfl (by simp [maxRoom];omega) (by simp [maxRoom];omega)
    rw [List.length_map] at a1 a2
    generalize hHc:Hp.alloc (Hp.kill (H1.alloc _) _) _=H5 at a2
    have hv:RowOwn (fun _=>True) 2 H5 3 (.sl (H1.next + 1) 0 (x.length + 1) 3) ((x ++ [(⟨1,99,[]⟩:Nd)]).map Nd.cells):=by
      refine .inr ⟨H1.next + 1,0,x.map Nd.cells ++ [[.int .i64 1,.int .i64 99,.nilS]],by simp,trivial,by rw [← hHc];exact Nat.lt_succ_self _,?_,Nat.zero_le _,?_⟩
      · rw [← hHc,Hp.get_alloc,if_pos (by simp only [Hp.next_kill,Hp.next_alloc])];simp
      · rw [List.map_append]
        exact All2.append (RowsW.nds x) ⟨⟨rfl,nd_nil 1 99⟩,trivial⟩
    rw [Hp.next_alloc] at a2
    clear hHc gq hq1 hq2 n1 n1' o1
    have kbs:=fun H=>bsN1 H (cs:=[.int .i64 1,.int .i64 99,.nilS]) rfl rfl
    have gh0:=@bNd99
    repeat' (first
       | (apply Rx.nl ?_;clear hK K)|apply Rx.o ?_|apply Wp.seq ?_|(apply Wp.ops' fun K hK=>?_)|(apply Rx.dT 9 [(6,20),(11,20),(19,20)] fun K hK=>?_)|(apply Rx.nq ?_;try intro _)|(apply Rx.nt ?_ ?_ <;> clear hK K)|apply WpT.step ?_|apply Wp.block ?_|apply Rx.sk ?_|apply Rx.rt ?_|apply Rx.xt ?_)
    refine WpL.call rfl eVk eAk ?_;simp only [List.cons_append,List.nil_append,List.append_nil]
    refine WpCall.mono ?_ (de_M (by omega) hv _ hyo)
    rintro w H6 ⟨rfl,hy⟩
    have hv6:=hv.icyB (by rw [hy.next];exact Nat.le_refl _) fun k _ _=>hy.same k
    clear hy hv
    rw [hyd]
    dsimp only [setO]
    have kid:∀ H,WpCall Try.prog (cfgN pls levX) 27 [lstI D,lstI D] H fun v H'=>v=.bool true ∧ H'=H:=fun H=>WpCall.mono (fun v H' h=>⟨h.1.trans (by rw [decide_eq_true rfl]),h.2⟩) (is_en D D hdl60 H)
    have kin:∀ H,WpCall Try.prog (cfgN pls levX) 27 [lstI [],lstI []] H fun v H'=>v=.bool true ∧ H'=H:=fun H=>WpCall.mono (fun v H' h=>⟨h.1.trans (by rw [decide_eq_true rfl]),h.2⟩) (is_en [] [] (by decide) H)
    repeat' (first
       | (apply Rx.nl ?_;clear hK K)|apply Ry.o ?_|(apply Ry.call ?_;first|refine Rx.k (kid _) ?_|refine Rx.k (kin _) ?_)|(apply Ry.gd (fun hg hgp=>?_) (fun hg hgp=>?_) <;> try (cases hg;done))|(apply Ry.cd (fun hb hbp=>?_) (fun hb hbp=>?_) <;> try (cases hb;done))|apply Wp.seq ?_|(apply Wp.ops' fun K hK=>?_)|(apply Rx.dT 9 [(6,20),(11,20),(19,20)] fun K hK=>?_)|(apply Rx.nq ?_;try intro _)|(apply Rx.nt ?_ ?_ <;> clear hK K)|apply WpT.step ?_|(apply Ry.gt (fun hg hgp=>?_) (fun hg hgp=>?_) <;> try (cases hg;done))|apply Wp.block ?_|apply Rx.sk ?_|apply Rx.rt ?_|apply Rx.xt ?_)
    refine WpL.call rfl eVk eAk ?_;simp only [List.cons_append,List.nil_append,List.append_nil]
    refine WpCall.mono ?_ (so_M (by omega) hv6 _ hyo)
    rintro w H7 ⟨rfl,hy7⟩
    clear hy7 hv6
    rw [hys]
    dsimp only [setO]
    repeat' (first
       | (apply Rx.nl ?_;clear hK K)|apply Ry.o ?_|(apply Ry.call ?_;first|refine Rx.k (so_V _ _ hx _) ?_|refine Rx.k (kIEx _) ?_)|(apply Ry.gd (fun hg hgp=>?_) (fun hg hgp=>?_) <;> try (cases hg;done))|(apply Ry.cd (fun hb hbp=>?_) (fun hb hbp=>?_) <;> try (cases hb;done))|apply Wp.seq ?_|(apply Wp.ops' fun K hK=>?_)|(apply Rx.dT 9 [(6,20),(11,20),(19,20)] fun K hK=>?_)|(apply Rx.nq ?_;try intro _)|(apply Rx.nt ?_ ?_ <;> clear hK K)|apply WpT.step ?_|(apply Ry.gt (fun hg hgp=>?_) (fun hg hgp=>?_) <;> try (cases hg;done))|apply Wp.block ?_|apply Rx.sk ?_|apply Rx.rt ?_|apply Rx.xt ?_)
    all_goals first
      | exact eK
      | (refine ⟨eI,_,eRW,?_⟩;try simp only [oneOr];done)
      | trace_state
theorem con (l:List Int) (a b:Int) (hl:l.length < 2 ^ 63):Con Try.prog (fun _=>0) 7 [intRows l,.int .i64 a,.int .i64 b] (.bool true):=
 Con.lev fit (pls:=pls) (levX_ok _) (.cons (intRows_pure l) (.cons (.int _ _) (.cons (.int _ _) .nil))) (.bool _) (law l a b hl)
set_option maxRecDepth 100000 in
theorem walk {H:Type} {enc:TypeId × Value → H} (W:World) (v0:Value) {r:Reach} {b0:Nat} (k0:Value.okWide Try.prog W r b0 26 v0) {d:DataW H} {ps:List MemPlace} {sp:Nat → Bool} {held:Bool} (h0:DataW.Trod enc Try.prog W 0 sp held 26 v0 d ps) (a1 a2:Int) :
   Calls Try.prog 7 #[v0,.int .i64 a1,.int .i64 a2] W fun e w'=>e=.returned (.bool true) ∧ Below W.heap.size W w':=by
 obtain ⟨l,hv,hl⟩:=seeds_arg k0 h0
 exact Con.walk (ρ:=fun _=>0) (F:=memF W) (con l a1 a2 hl) (memF_ok W) (VRs.cons hv (VRs.cons (.int .i64 a1) (VRs.cons (.int .i64 a2) (VRs.nil _))))
set_option maxRecDepth 100000 in
theorem lifted (os:Os) (started:os.Started) (H:Type) (enc:TypeId × Value → H) :
   ReturnsInHanded {} Try.checked os 7 .any (Rows.iRDependenciesSpec.pre6 enc Try.prog Try.f7 Rows.iRDependenciesRow.domain false) (Rows.iRDependenciesSpec.post enc Try.prog Try.f7 false true false false):=by
 refine returnsInHanded_of_change (C:=Try.checked) own started (by kernel_rfl) Try.func7
   (ChangeSpec.witness6 (enc:=enc) (C:=Try.checked) false ⟨#[],#[.slice none 0 0,.int .i64 0,.int .i64 0],[]⟩ 8 (by kernel_rfl) (by kernel_rfl) (by kernel_rfl) (by kernel_rfl)) ?_
 intro W base args ds gs before hval0 hW hcnd _
 have hval:∀ (j:Nat) t v,Try.f7.params[j]?=some t → args[j]?=some v → Value.okWide Try.prog W .any base t v:=hval0
 have hW':=hW
 obtain ⟨p,q,hA0,hV,rfl,hfz,hnd⟩:=hW
 have hA:DataW.TrodAll enc Try.prog W 0 (fun _=>true) true Try.f7.params.toList args.toList ds p:=hA0
 rw [Try.params7] at hA hval
 obtain ⟨v0,vs0,d0,ds0,p0,q0,hargs,rfl,rfl,h0,r0⟩:=trodAll_cons hA
 obtain ⟨v1,vs1,d1,ds1,p1,q1,rfl,rfl,rfl,h1,r1⟩:=trodAll_cons r0
 obtain ⟨v2,vs2,d2,ds2,p2,q2,rfl,rfl,rfl,h2,r2⟩:=trodAll_cons r1
 obtain ⟨rfl,rfl,rfl⟩:=trodAll_nil r2
 obtain rfl:args=#[v0,v1,v2]:=by cases args;simp_all
 obtain ⟨rfl,rfl⟩:=trodVars_none hV
 have k0:=hval 0 26 v0 rfl rfl
 obtain ⟨a1,rfl,rfl,rfl,w1⟩:=open_int Try.underlying3 (hval 1 3 v1 rfl rfl) h1
 obtain ⟨a2,rfl,rfl,rfl,w2⟩:=open_int Try.underlying3 (hval 2 3 v2 rfl rfl) h2
 clear hA0 hval0
 refine (walk W v0 k0 h0 a1 a2).mono fun e W' ⟨he,hg⟩=>?_
 subst he
 exact ⟨_,rfl,post_of_below (pv:=[]) hW' (fun _ _ _=>(trodAll_cons_mk (shut_bool Try.underlying4 _) trodAll_mk0)) (fun sp hsp=>(trodAll_cons_mk (arg_stays (by kernel_rfl) (by kernel_rfl) (of_decide_eq_true (by kernel_rfl)) h0 hg (fun p hp=>hW'.lt p hp) (fun x hx=>by simp [hx]) hsp) (trodAll_cons_mk (shut_int Try.underlying3 w1) (trodAll_cons_mk (shut_int Try.underlying3 w2) trodAll_mk0)))) (fun _ _=>rfl) (by simp) hg (ok_one (by kernel_rfl) rfl (okWide_bool_mk Try.underlying4 _))⟩
theorem over:Rows.iRDependenciesRow.holds Try.pinned (OpenSpec.ofChange Rows.iRDependenciesSpec):=
 OpenClaim.holds_of_wide 7 Try.f7 rfl rfl rfl rfl rfl rfl rfl ⟨rfl,rfl,rfl,rfl,rfl⟩ rfl rfl rfl rfl rfl (by kernel_rfl) Try.func7 (by kernel_rfl)
   (of_decide_eq_true (by kernel_rfl)) (by unfold Func.isWrapper;first|(rw [if_pos (by decide +kernel)];kernel_rfl)|(rw [if_neg (by decide +kernel)];exact ⟨rfl,rfl⟩))
   (fun os started H enc _=>lifted os started H enc)
theorem proved:Rows.IRDependenciesSaid:=
 over
#print axioms proved
end Go.Proofs.Ytackdnelcpbfjaa.iRDependencies
