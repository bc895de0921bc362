/- Parts: K4, K5, G2, G2r, G2s, Mu1, K6. -/
import Derived.Test.YtackdnelcpbfjaaSDH
set_option linter.unusedSimpArgs false
set_option linter.unusedVariables false
set_option linter.unusedSectionVars false
set_option linter.defProp false
set_option maxHeartbeats 32000000
namespace Go.Proofs.Ytackdnelcpbfjaa
set_option maxRecDepth 20000
set_option maxRecDepth 20000
open Go Go.Ab
namespace tyK4
def tyF:=And.intro @tq3 (And.intro @tq2 (And.intro @tq26 (And.intro @tq60 (@tq66))))
end tyK4
open tyK4
noncomputable def code102:{ c:SC // slim 13 (Try.f102.body.getD .skip)=c }:=by
 refine ⟨?_,?_⟩
 rotate_left
 · simp only [Try.f102, Option.getD_some, slim, slimR, slimL, slimD, slimG, Nat.blt, Nat.ble]
   rfl
noncomputable def code59:{ c:SC // slim 20 (Try.f59.body.getD .skip)=c }:=by
 refine ⟨?_,?_⟩
 rotate_left
 · simp only [Try.f59, Option.getD_some, slim, slimR, slimL, slimD, slimG, Nat.blt, Nat.ble]
   rfl
noncomputable def code103:{ c:SC // slim 45 (Try.f103.body.getD .skip)=c }:=by
 refine ⟨?_,?_⟩
 rotate_left
 · simp only [Try.f103, Option.getD_some, slim, slimR, slimL, slimD, slimG, Nat.blt, Nat.ble]
   rfl
noncomputable def code60:{ c:SC // slim 18 (Try.f60.body.getD .skip)=c }:=by
 refine ⟨?_,?_⟩
 rotate_left
 · simp only [Try.f60, Option.getD_some, slim, slimR, slimL, slimD, slimG, Nat.blt, Nat.ble]
   rfl
theorem srt_con (ρ:Nat → Int) (op:Int):Con Try.prog ρ 102 [.int .i64 op] (.int .i64 (srtK op)):=Con.lev fit (pls:=pls) (l:=[]) trivial (.cons (.int _ _) .nil) (.int _ _) (by
 have hw:=plain0 102
 refine WpCall.slim (M:=13) (rs:=[.tmp 2]) (hw.call _) hw.ice hw.froz Try.func102 rfl rfl code102.2 rfl ?_;dsimp only [code102,envOf,Nat.reduceAdd]
 repeat' (first
    | (apply Rx.nl ?_;clear hK K)|apply Rx.o ?_|(apply Rx.gd (fun hg hgp=>?_) (fun hg hgp=>?_) <;> try (cases hg;done))|(apply Rx.cd (fun hb hbp=>?_) (fun hb hbp=>?_) <;> try (cases hb;done))|apply Wp.seq ?_|(apply Wp.ops' fun K hK=>?_)|apply Rx.sk ?_|apply Rx.rt ?_)
 all_goals
   refine ⟨eI,_,eRW,?_⟩;try simp only [oneOr]
   simp_all [srtK])
noncomputable def enSrt:En:=⟨102,false,spP (fun _=>True) (fun n:Int=>[.int .i64 n]) fun n=>.int .i64 (srtK n)⟩
theorem enSrt_ok (ρ:Nat → Int):EnOk Try.prog ρ enSrt:=spP_ok fun n _=>srt_con ρ n
theorem srt_en {l:List En} (hl:∀ ar,lookN l 102 ar=enSrt.sp ar) (n:Int) (H:Hp):WpCall Try.prog (cfgN pls l) 102 [.int .i64 n] H fun v H'=>v=.int .i64 (srtK n) ∧ H'=H:=
 WpCall.en (enc:=fun n:Int=>[.int .i64 n]) (ok:=fun _=>True) (out:=fun n=>.int .i64 (srtK n)) i1E_inj (x:=n) (hl _) trivial
theorem opSort_con (ρ:Nat → Int) (x:Int × Int):Con Try.prog ρ 59 (ii2E x) (.int .i64 (opSortK x.1 x.2)):=Con.lev fit (pls:=pls) (l:=[enSrt]) ⟨enSrt_ok ρ,trivial⟩ (.cons (.int _ _) (.cons (.int _ _) .nil)) (.int _ _) (by
 obtain ⟨op,k⟩:=x
 have hw:Plain (cfgN pls [enSrt]) 59:=plainN (fun _=>rfl) rfl
 rw [ii2E]
 simp only []
 refine WpCall.slim (M:=20) (rs:=[.tmp 4]) (hw.call _) hw.ice hw.froz Try.func59 rfl rfl code59.2 rfl ?_;dsimp only [code59,envOf,Nat.reduceAdd]
 repeat' (first
    | (apply Rx.nl ?_;clear hK K)|apply Rx.o ?_|(apply Rx.call ?_;first|refine Rx.k (srt_en (fun _=>rfl) _ _) ?_)|apply Rx.gu ?_|(apply Rx.gd (fun hg hgp=>?_) (fun hg hgp=>?_) <;> try (cases hg;done))|(apply Rx.cd (fun hb hbp=>?_) (fun hb hbp=>?_) <;> try (cases hb;done))|apply Wp.seq ?_|(apply Wp.ops' fun K hK=>?_)|apply Rx.sk ?_|apply Rx.rt ?_)
 all_goals
   refine ⟨eI,_,eRW,?_⟩;try simp only [oneOr]
   simp_all [opSortK])
noncomputable def enOs:En:=⟨59,false,spP (fun _=>True) ii2E fun x=>.int .i64 (opSortK x.1 x.2)⟩
theorem enOs_ok (ρ:Nat → Int):EnOk Try.prog ρ enOs:=spP_ok fun n _=>opSort_con ρ n
theorem os_en {l:List En} (hl:∀ ar,lookN l 59 ar=enOs.sp ar) (a b:Int) (H:Hp):WpCall Try.prog (cfgN pls l) 59 [.int .i64 a,.int .i64 b] H fun v H'=>v=.int .i64 (opSortK a b) ∧ H'=H:=
 WpCall.en (enc:=ii2E) (ok:=fun _=>True) (out:=fun x=>.int .i64 (opSortK x.1 x.2)) ii2E_inj (x:=(a,b)) (hl _) trivial
def snE (x:Nd × Nd):List AV:=[.agg x.1.cells,.agg x.2.cells]
theorem snE_inj (x y:Nd × Nd) (h:snE x=snE y):x=y:=by
 simp only [snE,List.cons.injEq,AV.agg.injEq,and_true] at h
 exact Prod.ext (Nd.inj h.1) (Nd.inj h.2)
def snOk (x:Nd × Nd):Prop:=x.1.kids.length < 2 ^ 60
theorem eq_drop {s w:List Int} (hl:s.length=w.length) {i:Nat} (hi:i < s.length):decide (s.drop i=w.drop i)=(decide (s.getD i 0=w.getD i 0) && decide (s.drop (i + 1)=w.drop (i + 1))):=by
 rw [List.drop_eq_getElem_cons hi,List.drop_eq_getElem_cons (l:=w) (by omega)]
 rw [List.getD_eq_getElem?_getD,List.getD_eq_getElem?_getD,List.getElem?_eq_getElem hi,List.getElem?_eq_getElem (by omega:i < w.length)]
 simp only [Option.getD_some,List.cons.injEq,Bool.decide_and]
theorem sameNode_con (ρ : Nat → Int) (x : Nd × Nd) (hx : snOk x) : Con Try.prog ρ 103 (snE x) (.bool (decide (x.1 = x.2))) := Con.lev fit (pls := pls) (l := []) trivial (.cons (.agg (Nd.pure _)) (.cons (.agg (Nd.pure _)) .nil)) (.bool _) (by
  obtain ⟨⟨o1,i1,s⟩,⟨o2,i2,w⟩⟩:=x
  have hw:=plain0 103
  unfold snOk at hx
  rw [snE]
  simp only [Nd.cells] at hx ⊢
  have hd:decide ((⟨o1,i1,s⟩:Nd)=⟨o2,i2,w⟩)=(decide (o1=o2) && decide (i1=i2) && decide (s=w)):=by
    simp [Bool.decide_and,Bool.and_assoc]
  rw [hd]
  by_cases hl:w.length=s.length
  · clear hd
    refine WpCall.slim (M:=45) (rs:=[.tmp 4]) (hw.call _) hw.ice hw.froz Try.func103 rfl rfl code103.2 rfl ?_;dsimp only [code103,envOf,Nat.reduceAdd]
    repeat' (first
       | (apply Rx.nl ?_;clear hK K)|apply Ry.o ?_|(apply Ry.gd (fun hg hgp=>?_) (fun hg hgp=>?_) <;> try (cases hg;done))|(apply Ry.cd (fun hb hbp=>?_) (fun hb hbp=>?_) <;> try (cases hb;done))|apply Wp.seq ?_|(apply Wp.ops' fun K hK=>?_)|(apply Rx.dT 6 [(1,11),(4,11),(6,11),(9,11)] fun K hK=>?_)|(apply Rx.nq ?_;try intro _)|(apply Rx.nt ?_ ?_ <;> clear hK K)|apply WpT.step ?_|apply Wp.block ?_|apply Rx.sk ?_|apply Rx.rt ?_|apply Rx.xt ?_)
    all_goals first
      | (refine ⟨eI,_,eRW,?_⟩;try simp only [oneOr]
         simp_all;done)
      | skip
    refine Wp.forI [2,3] [0,1] 5 s.length (fun i E H=>decide (s=w)=decide (s.drop i=w.drop i)) eE (by simp) ?_
    rintro i E H2 hi hcE hrH hnH hsI hJ
    (try simp only [forall_cons,forall_nil,and_true,sB,sO,Nat.reduceBEq,Nat.reduceAdd,Nat.reduceLeDiff,tyF, *] at hcE)
    (try simp only [forall_cons,forall_nil,and_true,sB,sO,Nat.reduceBEq,Nat.reduceAdd,Nat.reduceLeDiff,tyF, *] at hrH)
    (try simp only [Hp.next_alloc,Hp.next_set,H0_next,Nat.zero_add,Nat.reduceAdd] at hnH)
    have hB0:(0 == H2.next)=false:=ne_beq (by omega)
    have hC0:(H2.next == 0)=false:=ne_beq (by omega)
    have hB1:(1 == H2.next)=false:=ne_beq (by omega)
    have hC1:(H2.next == 1)=false:=ne_beq (by omega)
    repeat' (first
       | (apply Rx.nl ?_;clear hK K)|apply Rx.o ?_|(apply Rx.cd (fun hb hbp=>?_) (fun hb hbp=>?_) <;> try (cases hb;done))|apply Wp.seq ?_|(apply Wp.ops' fun K hK=>?_)|(apply Rx.dT 6 [(1,11),(4,11),(6,11),(9,11)] fun K hK=>?_)|(apply Rx.nq ?_;try intro _)|(apply Rx.nt ?_ ?_ <;> clear hK K)|apply WpT.step ?_|apply Wp.block ?_|apply Rx.sk ?_|apply Rx.rt ?_|apply Rx.xt ?_)
    · have hlt : i < s.length := by simpa using hb
      have hgx:s[i]?=some s[i]:=List.getElem?_eq_getElem hlt
      have hgy:w[i]?=some (w[i]'(by omega)):=List.getElem?_eq_getElem (by omega)
      have hdr:=eq_drop hl.symm hlt
      rw [List.getD_eq_getElem?_getD,List.getD_eq_getElem?_getD,hgx,hgy] at hdr
      simp only [Option.getD_some] at hdr
      generalize s[i]=x at *
      generalize w[i]'(by omega)=y at *
      repeat' (first
         | (apply Rx.nl ?_;clear hK K)|apply Rx.o ?_|(apply Rx.cd (fun hb hbp=>?_) (fun hb hbp=>?_) <;> try (cases hb;done))|apply Wp.seq ?_|(apply Wp.ops' fun K hK=>?_)|(apply Rx.dT 6 [(1,11),(4,11),(6,11),(9,11)] fun K hK=>?_)|(apply Rx.nq ?_;try intro _)|(apply Rx.nt ?_ ?_ <;> clear hK K)|apply WpT.step ?_|apply Wp.block ?_|apply Rx.sk ?_|apply Rx.rt ?_|apply Rx.xt ?_)
      · exact eK
      · all_goals (refine ⟨eI, _, eR, ?_⟩; try simp only [oneOr])
        rw [hJ,hdr];simp_all
      · refine ⟨by omega, eL, eL, eN, (by simp only [sB, Nat.reduceBEq, *]; exact i64_succ (n := s.length) (by omega) (by omega)), ?_⟩
        rw [hJ,hdr];simp_all
    · repeat' (first
         | (apply Rx.nl ?_;clear hK K)|apply Rx.o ?_|(apply Rx.cd (fun hb hbp=>?_) (fun hb hbp=>?_) <;> try (cases hb;done))|apply Wp.seq ?_|(apply Wp.ops' fun K hK=>?_)|(apply Rx.dT 6 [(1,11),(4,11),(6,11),(9,11)] fun K hK=>?_)|(apply Rx.nq ?_;try intro _)|(apply Rx.nt ?_ ?_ <;> clear hK K)|apply WpT.step ?_|apply Wp.block ?_|apply Rx.sk ?_|apply Rx.rt ?_|apply Rx.xt ?_)
      all_goals (refine ⟨eI,_,eR,?_⟩;try simp only [oneOr])
      rw [hJ,show i=s.length by simp at hb;omega,List.drop_length,← hl,List.drop_length]
      simp_all
  · have hne : ¬ s = w := fun e => hl (by rw [e])
    have hl2:¬ (s.length:Int)=w.length:=by omega
    clear hd
    refine WpCall.slim (M:=45) (rs:=[.tmp 4]) (hw.call _) hw.ice hw.froz Try.func103 rfl rfl code103.2 rfl ?_;dsimp only [code103,envOf,Nat.reduceAdd]
    repeat' (first
       | (apply Rx.nl ?_;clear hK K)|apply Ry.o ?_|(apply Ry.gd (fun hg hgp=>?_) (fun hg hgp=>?_) <;> try (cases hg;done))|(apply Ry.cd (fun hb hbp=>?_) (fun hb hbp=>?_) <;> try (cases hb;done))|apply Wp.seq ?_|(apply Wp.ops' fun K hK=>?_)|(apply Rx.dT 6 [(1,11),(4,11),(6,11),(9,11)] fun K hK=>?_)|(apply Rx.nq ?_;try intro _)|(apply Rx.nt ?_ ?_ <;> clear hK K)|apply WpT.step ?_|apply Wp.block ?_|apply Rx.sk ?_|apply Rx.rt ?_|apply Rx.xt ?_)
    all_goals
      refine ⟨eI,_,eRW,?_⟩;try simp only [oneOr]
      rw [decide_eq_false hne,Bool.and_false])
noncomputable def enSn:En:=⟨103,false,spP snOk snE fun x=>.bool (decide (x.1=x.2))⟩
theorem enSn_ok (ρ:Nat → Int):EnOk Try.prog ρ enSn:=spP_ok fun x hx=>sameNode_con ρ x hx
theorem sn_en {l:List En} (hl:∀ ar,lookN l 103 ar=enSn.sp ar) (a b:Nd) (h:a.kids.length < 2 ^ 60) (H:Hp):WpCall Try.prog (cfgN pls l) 103 [.agg a.cells,.agg b.cells] H fun v H'=>v=.bool (decide (a=b)) ∧ H'=H:=
 WpCall.en (enc:=snE) (ok:=snOk) (out:=fun x=>.bool (decide (x.1=x.2))) snE_inj (x:=(a,b)) (hl _) h
def coE (x:List Nd × Nd):List AV:=[lstN x.1,.agg x.2.cells]
theorem coE_inj (x y:List Nd × Nd) (h:coE x=coE y):x=y:=imE_inj x y h
theorem contains_con' (ρ:Nat → Int) (x:List Nd × Nd) (hx:NdsOk x.1):Con Try.prog ρ 60 (coE x) (.bool (hasK x.1 x.2)):=Con.lev fit (pls:=pls) (l:=[enSn]) ⟨enSn_ok ρ,trivial⟩ (.cons (nds_pure _) (.cons (.agg (Nd.pure _)) .nil)) (.bool _) (by
 obtain ⟨l,n⟩:=x
 obtain ⟨hl1,hl2⟩:=hx
 have hw:Plain (cfgN pls [enSn]) 60:=plainN (fun _=>rfl) rfl
 rw [coE]
 simp only [] at hl1 hl2 ⊢
 refine WpCall.slim (M:=18) (rs:=[.tmp 4]) (hw.call _) hw.ice hw.froz Try.func60 rfl rfl code60.2 rfl ?_;dsimp only [code60,envOf,Nat.reduceAdd]
 repeat' (first
    | (apply Rx.nl ?_;clear hK K)|apply Rx.o ?_|(apply Rx.cd (fun hb hbp=>?_) (fun hb hbp=>?_) <;> try (cases hb;done))|apply Wp.seq ?_|(apply Wp.ops' fun K hK=>?_)|(apply Rx.dT 4 [(3,5),(4,5)] fun K hK=>?_)|(apply Rx.nq ?_;try intro _)|(apply Rx.nt ?_ ?_ <;> clear hK K)|apply WpT.step ?_|apply Wp.block ?_|apply Rx.sk ?_|apply Rx.rt ?_|apply Rx.xt ?_)
 refine Wp.forI [0,3] [0] 5 l.length (fun i E H=>hasK l n=hasK (l.drop i) n) eE (by simp) ?_
 rintro i E H2 hi hcE hrH hnH hsI hJ
 (try simp only [forall_cons,forall_nil,and_true,sB,sO,Nat.reduceBEq,Nat.reduceAdd,Nat.reduceLeDiff,tyF, *] at hcE)
 (try simp only [forall_cons,forall_nil,and_true,sB,sO,Nat.reduceBEq,Nat.reduceAdd,Nat.reduceLeDiff,tyF, *] at hrH)
 (try simp only [Hp.next_alloc,Hp.next_set,H0_next,Nat.zero_add,Nat.reduceAdd] at hnH)
 have hB0:(0 == H2.next)=false:=ne_beq (by omega)
 have hC0:(H2.next == 0)=false:=ne_beq (by omega)
 repeat' (first
    | (apply Rx.nl ?_;clear hK K)|apply Rx.o ?_|(apply Rx.cd (fun hb hbp=>?_) (fun hb hbp=>?_) <;> try (cases hb;done))|apply Wp.seq ?_|(apply Wp.ops' fun K hK=>?_)|(apply Rx.dT 4 [(3,5),(4,5)] fun K hK=>?_)|(apply Rx.nq ?_;try intro _)|(apply Rx.nt ?_ ?_ <;> clear hK K)|apply WpT.step ?_|apply Wp.block ?_|apply Rx.sk ?_|apply Rx.rt ?_|apply Rx.xt ?_)
 · have hlt : i < l.length := by simpa using hb
   have hgx:l[i]?=some l[i]:=List.getElem?_eq_getElem hlt
   have hkb:l[i].kids.length < 2 ^ 60:=by have:=hl2 _ (List.getElem_mem hlt);omega
   have hdr:hasK (l.drop i) n=(decide (l[i]=n) || hasK (l.drop (i + 1)) n):=by rw [List.drop_eq_getElem_cons hlt];rfl
   generalize l[i]=m at *
   repeat' (first
      | (apply Rx.nl ?_;clear hK K)|apply Rx.o ?_|(apply Rx.call ?_;first|refine Rx.k (sn_en (fun _=>rfl) _ _ hkb _) ?_)|(apply Rx.cd (fun hb hbp=>?_) (fun hb hbp=>?_) <;> try (cases hb;done))|apply Wp.seq ?_|(apply Wp.ops' fun K hK=>?_)|(apply Rx.dT 4 [(3,5),(4,5)] fun K hK=>?_)|(apply Rx.nq ?_;try intro _)|(apply Rx.nt ?_ ?_ <;> clear hK K)|apply WpT.step ?_|apply Wp.block ?_|apply Rx.sk ?_|apply Rx.rt ?_|apply Rx.xt ?_)
   · exact eK
   · all_goals (refine ⟨eI, _, eR, ?_⟩; try simp only [oneOr])
     rw [hJ,hdr];simp_all
   · refine ⟨by omega, eL, eL, eN, (by simp only [sB, Nat.reduceBEq, *]; exact i64_succ (n := l.length) (by omega) (by omega)), ?_⟩
     rw [hJ,hdr];simp_all
 · repeat' (first
      | (apply Rx.nl ?_;clear hK K)|apply Rx.o ?_|(apply Rx.cd (fun hb hbp=>?_) (fun hb hbp=>?_) <;> try (cases hb;done))|apply Wp.seq ?_|(apply Wp.ops' fun K hK=>?_)|(apply Rx.dT 4 [(3,5),(4,5)] fun K hK=>?_)|(apply Rx.nq ?_;try intro _)|(apply Rx.nt ?_ ?_ <;> clear hK K)|apply WpT.step ?_|apply Wp.block ?_|apply Rx.sk ?_|apply Rx.rt ?_|apply Rx.xt ?_)
   all_goals (refine ⟨eI,_,eR,?_⟩;try simp only [oneOr])
   rw [hJ,show i=l.length by simp at hb;omega,List.drop_length];rfl)
noncomputable def enCo:En:=⟨60,true,spP (fun x=>NdsOk x.1) coE fun x=>.bool (hasK x.1 x.2)⟩
theorem enCo_ok (ρ:Nat → Int):EnOk Try.prog ρ enCo:=spP_ok fun x hx=>contains_con' ρ x hx
end Go.Proofs.Ytackdnelcpbfjaa
namespace Go.Proofs.Ytackdnelcpbfjaa
set_option maxRecDepth 20000
set_option maxRecDepth 20000
open Go Go.Ab
namespace tyK5
def tyF:=And.intro @tq3 (And.intro @tq26 (And.intro @tq60 (And.intro @tq66 (@bn1))))
end tyK5
open tyK5
noncomputable def code58:{ c:SC // slim 39 (Try.f58.body.getD .skip)=c }:=by
 refine ⟨?_,?_⟩
 rotate_left
 · simp only [Try.f58, Option.getD_some, slim, slimR, slimL, slimD, slimG, Nat.blt, Nat.ble]
   rfl
noncomputable def enRs:En:=⟨101,true,spP NdsOk ndsE fun l=>lstI (sortsI l l.length)⟩
theorem enRs_ok (ρ:Nat → Int):EnOk Try.prog ρ enRs:=spP_ok fun l hl=>rsorts_con ρ l hl
theorem rs_en {tb:List En} (ht:∀ ar,lookN tb 101 ar=enRs.sp ar) (l:List Nd) (hl:NdsOk l) (H:Hp):WpCall Try.prog (cfgN pls tb) 101 [lstN l] H fun v H'=>v=lstI (sortsI l l.length) ∧ H'=H:=
 WpCall.en (enc:=ndsE) (ok:=NdsOk) (out:=fun l=>lstI (sortsI l l.length)) ndsE_inj (x:=l) (ht _) hl
structure OfX where
 l:List Nd
 t:Int
 n:Int
def ofE (x:OfX):List AV:=[lstN x.l,.int .i64 x.t,.int .i64 x.n]
theorem ofE_inj (x y:OfX) (h:ofE x=ofE y):x=y:=by
 obtain ⟨a,b,c⟩:=x
 obtain ⟨a',b',c'⟩:=y
 simp only [ofE,List.cons.injEq,AV.int.injEq,and_true,true_and] at h
 rw [lstN_inj h.1,h.2.1,h.2.2]
def ofOk (x:OfX):Prop:=NdsOk x.l ∧ 0 < (allK (sortsI x.l x.l.length) x.t x.l.length).length
theorem of_con (ρ:Nat → Int) (x:OfX) (hx:ofOk x):Con Try.prog ρ 58 (ofE x) (.int .i64 (ofK x.l x.t x.n)):=Con.lev fit (pls:=pls) (l:=[enRs,enPick]) ⟨enRs_ok ρ,enPick_ok ρ,trivial⟩ (.cons (nds_pure _) (.cons (.int _ _) (.cons (.int _ _) .nil))) (.int _ _) (by
 obtain ⟨l,t,n⟩:=x
 obtain ⟨hl,hpos⟩:=hx
 have hl1:=hl.1
 have hw:Plain (cfgN pls [enRs,enPick]) 58:=plainN (fun _=>rfl) rfl
 have hkeep:(cfgN pls [enRs,enPick]).keep 58=false:=rfl
 rw [ofE,ofK]
 simp only [] at hl hpos hl1 ⊢
 have hsl:=sortsI_len l l.length
 have krs:∀ H,WpCall Try.prog (cfgN pls [enRs,enPick]) 101 [lstN l] H fun v H'=>v=lstI (sortsI l l.length) ∧ H'=H:=fun H=>rs_en (fun _=>rfl) l hl H
 generalize sortsI l l.length=s at *
 refine WpCall.slim (M:=39) (rs:=[.tmp 6]) (hw.call _) hw.ice hw.froz Try.func58 rfl rfl code58.2 rfl ?_;dsimp only [code58,envOf,Nat.reduceAdd]
 repeat' (first
    | (apply Rx.nl ?_;clear hK K)|apply Rx.o ?_|(apply Rx.call ?_;first|refine Rx.k (krs _) ?_)|(apply Rx.cd (fun hb hbp=>?_) (fun hb hbp=>?_) <;> try (cases hb;done))|apply Wp.seq ?_|(apply Wp.ops' fun K hK=>?_)|apply Wp.block ?_|apply Rx.sk ?_|apply Rx.rt ?_|apply Rx.xt ?_)
 refine Wp.forI [0,1,2,6,7] [] 9 l.length (fun i E H=>∃ v,E.at 8=v ∧ IntN H v (allK s t i) 0) eE ⟨.nilS,eE,.inl ⟨rfl,rfl⟩⟩ ?_
 rintro i E H2 hi hcE hrH hnH hsI ⟨v,k8,hv⟩
 (try simp only [forall_cons,forall_nil,and_true,sB,sO,Nat.reduceBEq,Nat.reduceAdd,Nat.reduceLeDiff,tyF, *] at hcE)
 (try simp only [forall_cons,forall_nil,and_true,sB,sO,Nat.reduceBEq,Nat.reduceAdd,Nat.reduceLeDiff,tyF, *] at hrH)
 (try simp only [Hp.next_alloc,Hp.next_set,H0_next,Nat.zero_add,Nat.reduceAdd] at hnH)
 repeat' (first
    | (apply Rx.nl ?_;clear hK K)|apply Rx.o ?_|(apply Rx.cd (fun hb hbp=>?_) (fun hb hbp=>?_) <;> try (cases hb;done))|apply Wp.seq ?_|(apply Wp.ops' fun K hK=>?_)|apply Wp.block ?_|apply Rx.sk ?_|apply Rx.rt ?_|apply Rx.xt ?_)
 · have hlt : i < l.length := by simpa using hb
   have hgx:s[i]?=some (s.getD i 0):=by rw [List.getD_eq_getElem?_getD,List.getElem?_eq_getElem (by omega)];rfl
   have hst:allK s t (i + 1)=if s.getD i 0=t then allK s t i ++ [(i:Int)] else allK s t i:=rfl
   have hal:=allK_len s t i
   have hvb:IntN (H2.alloc (.cells [.int .i64 i] 0 true)) v (allK s t i) 0:=hv.keep (Nat.le_succ _) fun k hk=>by rw [Hp.get_alloc,if_neg (by have:=(hv.lt hk).2;omega)]
   obtain ⟨v5,H5,a5,s5,n5,f5,o5⟩:=appI_one (r:=H2.next) (imm:=0) (i:Int) hvb (Nat.zero_le _) (by rw [Hp.get_alloc,if_pos rfl]) (by omega)
   have n5':H2.next ≤ H5.next:=by simp only [Hp.next_alloc] at n5;omega
   clear n5 f5 o5 hvb hsl
   generalize s.getD i 0=x at *
   repeat' (first
      | (apply Rx.nl ?_;clear hK K)|apply Rx.o ?_|(apply Rx.cd (fun hb hbp=>?_) (fun hb hbp=>?_) <;> try (cases hb;done))|apply Wp.seq ?_|(apply Wp.ops' fun K hK=>?_)|apply Wp.block ?_|apply Rx.sk ?_|apply Rx.rt ?_|apply Rx.xt ?_)
   · refine ⟨by omega, eL, eL, eN, (by simp only [sB, Nat.reduceBEq, *]; exact i64_succ (n := l.length) (by omega) (by omega)), ?_⟩
     exact ⟨v5,eE,by rw [hst,if_pos (by assumption)];exact .inr s5⟩
   · refine ⟨by omega, eL, eL, eN, (by simp only [sB, Nat.reduceBEq, *]; exact i64_succ (n := l.length) (by omega) (by omega)), ?_⟩
     exact ⟨v,eE,by rw [hst,if_neg (by assumption)];exact hv⟩
 · have hie : i = l.length := by simp at hb; omega
   rw [hie] at hv
   have hal:=allK_len s t l.length
   generalize allK s t l.length=a at *
   rcases hv with ⟨_,rfl⟩|hv
   · simp at hpos
   obtain ⟨r,imm,rfl,hg,_⟩:=hv
   have hr:=pickG_range (n:=n) (m:=a.length) (by omega) (by omega)
   have hne:(a.length:Int) ≠ 0:=by omega
   obtain ⟨p,hp⟩:=Int.eq_ofNat_of_zero_le hr.1
   rw [hp] at hr
   have e1:IntKind.wrap .i64 ((a.length:Int) - 1)=((a.length - 1:Nat):Int):=by rw [i64_id (by omega) (by omega)];omega
   have e2:IntKind.wrap .i64 (((a.length - 1:Nat):Int) - p)=((a.length - 1 - p:Nat):Int):=by rw [i64_id (by omega) (by omega)];omega
   have hil:a.length - 1 - p < a.length:=by omega
   have hix:indexAddrA Try.prog 26 (.sl r 0 a.length 1) (.int .i64 ((a.length - 1 - p:Nat):Int))=some (.ptr r (a.length - 1 - p)):=by rw [index_sl Try.underlying26 sz3 hil];simp
   have hld:aload Try.prog H2 3 (.ptr r (a.length - 1 - p))=some (.int .i64 (a.getD (a.length - 1 - p) 0)):=by rw [load_one Try.underlying3 rfl hg,List.getElem?_map,List.getD_eq_getElem?_getD,List.getElem?_eq_getElem hil];rfl
   repeat' (first
      | (apply Rx.nl ?_;clear hK K)|apply Rx.o ?_|(apply Rx.call ?_;first|refine Rx.k (pick_en (fun _=>rfl) _ _ hne _) ?_)|(apply Rx.cd (fun hb hbp=>?_) (fun hb hbp=>?_) <;> try (cases hb;done))|apply Wp.seq ?_|(apply Wp.ops' fun K hK=>?_)|apply Wp.block ?_|apply Rx.sk ?_|apply Rx.rt ?_|apply Rx.xt ?_)
   all_goals (refine ⟨eI,_,eR,?_⟩;try simp only [oneOr])
   rw [hp,Int.toNat_natCast])
noncomputable def enOf:En:=⟨58,true,spP ofOk ofE fun x=>.int .i64 (ofK x.l x.t x.n)⟩
theorem enOf_ok (ρ:Nat → Int):EnOk Try.prog ρ enOf:=spP_ok fun x hx=>of_con ρ x hx
end Go.Proofs.Ytackdnelcpbfjaa
namespace Go.Proofs.Ytackdnelcpbfjaa
set_option maxRecDepth 20000
set_option maxRecDepth 20000
open Go Go.Ab
namespace tyG2
def tyF:=And.intro @tq3 (And.intro @tq26 (@tq80))
end tyG2
open tyG2
def RdW (S:Nat → Prop) (n:Nat) (H:Hp) (v w:AV):Prop:=∃ u,Ic S n H v u ∧ ∀ m,n ≤ m → wkN m u=w
def CellsW (S:Nat → Prop) (n:Nat) (H:Hp) (cs ws:List AV):Prop:=∃ us,All2 (Ic S n H) cs us ∧ ∀ m,n ≤ m → us.map (wkN m)=ws
theorem CellsW.frame {S S':Nat → Prop} (hS:∀ k,S k → S' k) {n:Nat} {H H':Hp} {v w:List AV} (h:CellsW S n H v w) (hn:H.next ≤ H'.next) (hf:∀ k,S k → k < H.next → SameB (H.get k) (H'.get k)):CellsW S' n H' v w:=by
 obtain ⟨u,h1,h2⟩:=h
 exact ⟨u,h1.mono fun a b k=>k.frame hS hn hf,h2⟩
theorem CellsW.keep {S S':Nat → Prop} (hS:∀ k,S k → S' k) {n:Nat} {H H':Hp} {v w:List AV} (h:CellsW S n H v w) (hn:H.next ≤ H'.next) (hf:∀ k,S k → k < H.next → H'.get k=H.get k):CellsW S' n H' v w:=h.frame hS hn fun k h1 h2=>.inl (hf k h1 h2).symm
theorem CellsW.nil {S:Nat → Prop} {n:Nat} {H:Hp}:CellsW S n H [] []:=⟨[],trivial,fun _ _=>rfl⟩
theorem CellsW.cons {S:Nat → Prop} {n:Nat} {H:Hp} {v w:AV} {cs ws:List AV} (h:RdW S n H v w) (k:CellsW S n H cs ws):CellsW S n H (v :: cs) (w :: ws):=by
 obtain ⟨u,h1,h2⟩:=h
 obtain ⟨us,h3,h4⟩:=k
 exact ⟨u :: us,⟨h1,h3⟩,fun m hm=>by rw [List.map_cons,h2 m hm,h4 m hm]⟩
theorem RdW.flat {S:Nat → Prop} {n:Nat} {H:Hp} {v:AV} (h:flatA v) (hk:∀ m,wkN m v=v):RdW S (n + 1) H v v:=⟨v,Ic.flat h,fun m _=>hk m⟩
theorem RdW.int {S:Nat → Prop} {n:Nat} {H:Hp} (k:IntKind) (x:Int):RdW S (n + 1) H (.int k x) (.int k x):=.flat ⟨.int _ _,trivial⟩ fun m=>by cases m <;> rfl
theorem RdW.nilS {S:Nat → Prop} {n:Nat} {H:Hp}:RdW S (n + 1) H .nilS (.lst []):=⟨.nilS,Ic.flat ⟨.nilS,trivial⟩,fun m hm=>by
 obtain ⟨m,rfl⟩:∃ k,m=k + 1:=⟨m - 1,by omega⟩
 rfl⟩
theorem RdW.lst0 {S:Nat → Prop} {n:Nat} {H:Hp}:RdW S (n + 1) H (.lst []) (.lst []):=.flat ⟨.lst (by simp),trivial⟩ fun m=>by cases m <;> rfl
def RowsW (S:Nat → Prop) (n:Nat) (H:Hp) (z:Nat):List (List AV) → List (List AV) → Prop:=All2 fun a b=>a.length=z ∧ CellsW S n H a b
theorem RowsW.two {S:Nat → Prop} {n z:Nat} {H:Hp}:∀ {a b:List (List AV)},RowsW S n H z a b → ∃ u,All2 (All2 (Ic S n H)) a u ∧ (∀ m,n ≤ m → u.map (List.map (wkN m))=b) ∧ ∀ x ∈ a,x.length=z
 | [],[],_=>⟨[],trivial,fun _ _=>rfl,by simp⟩
 | x :: a, y :: b, ⟨⟨hz, v, h1, h2⟩, h⟩ => by
   obtain ⟨u,h3,h4,h5⟩:=RowsW.two (a:=a) (b:=b) h
   exact ⟨v :: u,⟨h1,h3⟩,fun m hm=>by rw [List.map_cons,h2 m hm,h4 m hm],fun q hq=>by
     rcases List.mem_cons.1 hq with rfl|hq
     · exact hz
     · exact h5 q hq⟩
theorem RdW.rows {S:Nat → Prop} {n:Nat} {H:Hp} {r z imm:Nat} {tip:Bool} {a b:List (List AV)} (hS:S r) (hr:r < H.next) (hg:H.get r=some (.cells a.flatten imm tip)) (hi:imm ≤ a.flatten.length) (h:RowsW S n H z a b):RdW S (n + 1) H (.sl r 0 a.length z) (.lst b):=by
 obtain ⟨u,h1,h2,h3⟩:=RowsW.two h
 refine ⟨.lst u,Ic.rows hS hr hg hi h3 h1,fun m hm=>?_⟩
 obtain ⟨m,rfl⟩:∃ k,m=k + 1:=⟨m - 1,by omega⟩
 show AV.lst (u.map fun row=>row.map (wkN m))=_
 rw [← h2 m (by omega)]
theorem RowsW.frame {S S':Nat → Prop} (hS:∀ k,S k → S' k) {n z:Nat} {H H':Hp} {a b:List (List AV)} (h:RowsW S n H z a b) (hn:H.next ≤ H'.next) (hf:∀ k,S k → k < H.next → H'.get k=H.get k):RowsW S' n H' z a b:=All2.mono (fun x y k=>⟨k.1,k.2.keep hS hn hf⟩) h
def nextG:List Int → Int × List Int
 | []=>(0,[])
 | a :: l=>(a,l)
def SeedV (lo:Nat) (H:Hp) (r:Nat) (v:AV) (L:List Int):Prop:=(v=.lst [] ∧ L=[]) ∨ ∃ b off cs imm,v=.sl b off L.length 1 ∧ H.get b=some (.cells cs imm true) ∧ cs.drop off=L.map (fun n=>AV.int .i64 n) ∧ b ≠ r ∧ b < lo
def RdOk (lo:Nat) (H:Hp) (r:Nat) (L:List Int) (c:Int):Prop:=r < lo ∧ lo ≤ H.next ∧ ∃ v,H.get r=some (.cells [v,.int .i64 c] 0 true) ∧ SeedV lo H r v L
theorem RdOk.keep {lo:Nat} {H H':Hp} {r:Nat} {L:List Int} {c:Int} (h:RdOk lo H r L c) (hn:H.next ≤ H'.next) (hg:∀ k,k < lo → H'.get k=H.get k):RdOk lo H' r L c:=by
 obtain ⟨h0,h00,v,h1,h2⟩:=h
 refine ⟨h0,by omega,v,by rw [hg _ h0];exact h1,?_⟩
 rcases h2 with h2|⟨b,off,cs,imm,e1,e2,e3,e4,e5⟩
 · exact .inl h2
 · exact .inr ⟨b,off,cs,imm,e1,by rw [hg _ e5];exact e2,e3,e4,e5⟩
noncomputable def code31:{ c:SC // slim 25 (Try.f31.body.getD .skip)=c }:=by
 refine ⟨?_,?_⟩
 rotate_left
 · simp only [Try.f31, Option.getD_some, slim, slimR, slimL, slimD, slimG, Nat.blt, Nat.ble]
   rfl
theorem next_wp {cfg : Cfg} (hw : Plain cfg 31) {lo : Nat} {H : Hp} {r : Nat} {L : List Int} {c : Int} (h : RdOk lo H r L c) (hL : L.length < 2 ^ 60) :
    WpCall Try.prog cfg 31 [.ptr r 0] H fun v H'=>v=.int .i64 (nextG L).1 ∧ RdOk lo H' r (nextG L).2 c ∧ H'.next=H.next ∧ ∀ k,k ≠ r → H'.get k=H.get k:=by
  obtain ⟨h0,h00,v,h1,h2⟩:=h
  rcases h2 with ⟨rfl,rfl⟩|⟨b,off,cs,imm,rfl,e2,e3,e4,e5⟩
  · refine WpCall.slim (M := 25) (rs := [.tmp 2]) (hw.call _) hw.ice hw.froz Try.func31 rfl rfl code31.2 rfl ?_; dsimp only [code31, envOf, Nat.reduceAdd]
    repeat' (first
       | (apply Rx.nl ?_;clear hK K)|apply Rx.o ?_|(apply Rx.cd (fun hb hbp=>?_) (fun hb hbp=>?_) <;> try (cases hb;done))|apply Wp.seq ?_|(apply Wp.ops' fun K hK=>?_)|apply Rx.sk ?_|apply Rx.rt ?_)
    all_goals (refine ⟨eI,_,eR,?_⟩;try simp only [oneOr])
    exact ⟨by first|rfl|trivial,⟨h0,h00,_,h1,.inl ⟨rfl,rfl⟩⟩,by first|rfl|trivial,fun _ _=>by first|rfl|trivial⟩
  · cases L with
    | nil =>
      refine WpCall.slim (M:=25) (rs:=[.tmp 2]) (hw.call _) hw.ice hw.froz Try.func31 rfl rfl code31.2 rfl ?_;dsimp only [code31,envOf,Nat.reduceAdd]
      repeat' (first
         | (apply Rx.nl ?_;clear hK K)|apply Rx.o ?_|(apply Rx.cd (fun hb hbp=>?_) (fun hb hbp=>?_) <;> try (cases hb;done))|apply Wp.seq ?_|(apply Wp.ops' fun K hK=>?_)|apply Rx.sk ?_|apply Rx.rt ?_)
      all_goals (refine ⟨eI,_,eR,?_⟩;try simp only [oneOr])
      exact ⟨by first|rfl|trivial,⟨h0,h00,_,h1,.inr ⟨b,off,cs,imm,rfl,e2,e3,e4,e5⟩⟩,by first|rfl|trivial,fun _ _=>by first|rfl|trivial⟩
    | cons a L =>
      have hg:cs[off]?=some (.int .i64 a):=by
        have:=congrArg (fun l=>l[0]?) e3
        simpa using this
      have hd:cs.drop (off + 1)=L.map (fun n=>AV.int .i64 n):=by
        have:=congrArg (List.drop 1) e3
        rw [List.drop_drop] at this
        simpa using this
      have hpos:0 < L.length + 1:=by omega
      have hsl:sliceA Try.prog 26 (.sl b off (L.length + 1) 1) (some (.int .i64 1)) none=if L=[] then some (.lst []) else some (.sl b (off + 1) L.length 1):=by
        simp only [sliceA,Try.underlying26,sz3,boundA]
        by_cases hn:L=[]
        · subst hn;rfl
        · have : 0 < L.length := List.length_pos_iff.2 hn
          rw [if_neg hn,if_pos ⟨by omega,Nat.le_refl _,trivial⟩,if_neg (by omega)]
          rfl
      have hne:¬ (((L.length + 1:Nat):Int)=0):=by omega
      have hrb:(b == r)=false:=ne_beq e4
      refine WpCall.slim (M:=25) (rs:=[.tmp 2]) (hw.call _) hw.ice hw.froz Try.func31 rfl rfl code31.2 rfl ?_;dsimp only [code31,envOf,Nat.reduceAdd]
      by_cases hn:L=[]
      · subst hn
        have hsl':sliceA Try.prog 26 (.sl b off 1 1) (some (.int .i64 1)) none=some (.lst []):=hsl
        have hne':¬ (((1:Nat):Int)=0):=by decide
        have hp':0 < 1:=by decide
        clear hsl hne hpos
        repeat' (first
           | (apply Rx.nl ?_;clear hK K)|apply Ry.o ?_|apply Ry.on ?_|(apply Ry.cd (fun hb hbp=>?_) (fun hb hbp=>?_) <;> try (cases hb;done))|apply Wp.seq ?_|(apply Wp.ops' fun K hK=>?_)|apply Rx.sk ?_|apply Rx.rt ?_)
        all_goals (refine ⟨eI,_,eR,?_⟩;try simp only [oneOr])
        refine ⟨by first|rfl|trivial,⟨h0,h00,_,by rw [Hp.get_set,if_pos rfl],.inl ⟨rfl,rfl⟩⟩,by first|rfl|trivial,fun k hk=>by rw [Hp.get_set,if_neg hk]⟩
      · rw [if_neg hn] at hsl
        repeat' (first
           | (apply Rx.nl ?_;clear hK K)|apply Ry.o ?_|apply Ry.on ?_|(apply Ry.cd (fun hb hbp=>?_) (fun hb hbp=>?_) <;> try (cases hb;done))|apply Wp.seq ?_|(apply Wp.ops' fun K hK=>?_)|apply Rx.sk ?_|apply Rx.rt ?_)
        all_goals (refine ⟨eI,_,eR,?_⟩;try simp only [oneOr])
        refine ⟨by first|rfl|trivial,⟨h0,h00,_,by rw [Hp.get_set,if_pos rfl];rfl,.inr ⟨b,off + 1,cs,imm,rfl,by rw [Hp.get_set,if_neg e4];exact e2,hd,e4,e5⟩⟩,by first|rfl|trivial,fun k hk=>by rw [Hp.get_set,if_neg hk]⟩
end Go.Proofs.Ytackdnelcpbfjaa
namespace Go.Proofs.Ytackdnelcpbfjaa
set_option maxRecDepth 20000
open Go Go.Ab
theorem CellsW.keep2 {S S':Nat → Prop} {n:Nat} {H H':Hp} {v w:List AV} (h:CellsW S n H v w) (hS:∀ k,k < H.next → S k → S' k) (hn:H.next ≤ H'.next) (hf:∀ k,S k → k < H.next → H'.get k=H.get k):CellsW S' n H' v w:=by
 obtain ⟨u,h1,h2⟩:=h
 exact ⟨u,h1.mono fun a b k=>k.frame2 hS hn fun q h3 h4=>.inl (hf q h3 h4).symm,h2⟩
theorem RowsW.keep2 {S S':Nat → Prop} {n z:Nat} {H H':Hp} {a b:List (List AV)} (h:RowsW S n H z a b) (hS:∀ k,k < H.next → S k → S' k) (hn:H.next ≤ H'.next) (hf:∀ k,S k → k < H.next → H'.get k=H.get k):RowsW S' n H' z a b:=All2.mono (fun x y k=>⟨k.1,k.2.keep2 hS hn hf⟩) h
theorem RowsW.len {S:Nat → Prop} {n z:Nat} {H:Hp}:∀ {a b:List (List AV)},RowsW S n H z a b → ∀ x ∈ a,x.length=z
 | [],[],_,x,hx=>by simp at hx
 | y :: a, w :: b, h, x, hx => by
   rcases List.mem_cons.1 hx with rfl|hx
   · exact h.1.1
   · exact RowsW.len h.2 x hx
def RowOwn (S:Nat → Prop) (n:Nat) (H:Hp) (z:Nat) (v:AV) (ws:List (List AV)):Prop:=
 (v=.nilS ∧ ws=[]) ∨ ∃ q imm rows,v=.sl q 0 rows.length z ∧ S q ∧ q < H.next ∧ H.get q=some (.cells rows.flatten imm true) ∧ imm ≤ rows.flatten.length ∧ RowsW (fun k=>S k ∧ k ≠ q) n H z rows ws
theorem RowOwn.rd {S:Nat → Prop} {n:Nat} {H:Hp} {z:Nat} {v:AV} {ws:List (List AV)} (h:RowOwn S n H z v ws):RdW S (n + 1) H v (.lst ws):=by
 rcases h with ⟨rfl,rfl⟩|⟨q,imm,rows,rfl,h1,h2,h3,h4,h5⟩
 · exact .nilS
 · exact .rows h1 h2 h3 h4 (h5.frame (fun k hk=>hk.1) (Nat.le_refl _) fun _ _ _=>rfl)
theorem RowOwn.keep {S S':Nat → Prop} {n:Nat} {H H':Hp} {z:Nat} {v:AV} {ws:List (List AV)} (h:RowOwn S n H z v ws) (hS:∀ k,k < H.next → S k → S' k) (hn:H.next ≤ H'.next) (hf:∀ k,S k → k < H.next → H'.get k=H.get k):RowOwn S' n H' z v ws:=by
 rcases h with h|⟨q,imm,rows,e,h1,h2,h3,h4,h5⟩
 · exact .inl h
 · exact .inr ⟨q,imm,rows,e,hS q h2 h1,by omega,by rw [hf q h1 h2];exact h3,h4,h5.keep2 (fun k hk hq=>⟨hS k hk hq.1,hq.2⟩) hn fun k h6 h7=>hf k h6.1 h7⟩
theorem RowOwn.push {P : Program} {t e : TypeId} {z b : Nat} {zz : List AV} (ht : P.underlying t = some (.slice e)) (hs : sizeA P e = some z) (hb : bytesA P e = some b) (hz : zeroA P e = some zz) (hzz : zz.length = z) (hsrc : srcType P t = true)
    {lo n:Nat} {H:Hp} {v:AV} {ws:List (List AV)} (h:RowOwn (fun k=>lo ≤ k) n H z v ws) (hlo:lo ≤ H.next) {r imm:Nat} {row w:List AV} (hg:H.get r=some (.cells row imm true)) (hrow:row.length=z) (hone:row.all AV.one=true)
    (hw:CellsW (fun k=>lo ≤ k ∧ ∀ o m z',v ≠ .sl k o m z') n H row w) (hb1:(ws.length + 1) * b ≤ maxRoom) (hb2:ws.length + 1 ≤ maxRoom) :
    ∃ v' H',appendA P false H t t v (.sl r 0 1 z)=some (v',H') ∧ RowOwn (fun k=>lo ≤ k) n H' z v' (ws ++ [w]) ∧ H'.next=H.next + 1 ∧ (∀ k,k < H.next → (∀ o m z',v ≠ .sl k o m z') → H'.get k=H.get k) ∧ ∀ k o m z',v'=.sl k o m z' → k=H.next:=by
  have hx:srcCells H z (.sl r 0 1 z)=some (1,row):=by
    have:=src_sl (H:=H) (r:=r) (o:=0) (n:=1) (z:=z) (s:=z) hg (by rw [List.drop_zero,List.length_take];omega)
    rw [this,List.drop_zero,List.take_of_length_le (by omega)]
  rcases h with ⟨rfl,rfl⟩|⟨q,imm',rows,rfl,h1,h2,h3,h4,h5⟩
  · refine ⟨.sl H.next 0 1 z, H.alloc (.cells row 0 true), append_nil ht hs hb hz hsrc hx hone hzz (by simpa using hb1) (by simpa using hb2), .inr ⟨H.next, 0, [row], rfl, hlo, Nat.lt_succ_self _, by rw [Hp.get_alloc, if_pos rfl]; simp, by simp, ⟨⟨hrow, hw.keep2 (fun k h1 h2 => ⟨h2.1, by omega⟩) (Nat.le_succ _) fun k h1 h2 => by rw [Hp.get_alloc, if_neg (by omega)]⟩, trivial⟩⟩, rfl, fun k hk _ => by rw [Hp.get_alloc, if_neg (by omega)], fun k o m z' e => ?_⟩
    simp only [AV.sl.injEq] at e
    exact e.1.symm
  · have hrl := rows_len (RowsW.len h5)
    have hwl:rows.length=ws.length:=All2.len h5
    have htr:trimA false H z (.sl q 0 rows.length z)=H:=by
      unfold trimA
      simp only [h3,Nat.zero_add]
      have:Nat.blt (rows.length * z) rows.flatten.length=false:=by
        cases hb:Nat.blt (rows.length * z) rows.flatten.length with
        | false=>rfl
        | true=>rw [Nat.blt_eq] at hb;omega
      simp only [Bool.not_false,Bool.true_and,this,Bool.false_and]
    refine ⟨.sl H.next 0 (rows.length + 1) z,(H.kill q).alloc (.cells (rows.flatten ++ row) (imm' - 0) true),?_,.inr ⟨H.next,imm' - 0,rows ++ [row],by simp,hlo,Nat.lt_succ_self _,?_,by rw [List.flatten_append,List.length_append];omega,?_⟩,rfl,fun k hk hno=>?_,fun k o m z' e=>?_⟩
    · simp only [appendA, ht, hs, hb, hz, hsrc, hx, hone, htr, hzz, and_self, if_true, appendOnto, h3, Nat.zero_add, List.drop_zero, Bool.false_eq_true, if_false]
      rw [if_pos ⟨by rw [hwl];exact hb1,by rw [hwl];exact hb2,by omega,trivial,h4⟩]
    · show ((H.kill q).alloc _).get (H.kill q).next = _
      rw [Hp.get_alloc,if_pos rfl];simp
    · have hold : ∀ k, k < H.next → k ≠ q → ((H.kill q).alloc (.cells (rows.flatten ++ row) (imm' - 0) true)).get k = H.get k := fun k h6 h7 => by rw [Hp.get_alloc, if_neg (by simp only [Hp.next_kill]; omega), Hp.get_kill, if_neg h7]
      refine All2.append (h5.keep2 (fun k h6 h7=>⟨h7.1,by omega⟩) (Nat.le_succ _) fun k h6 h7=>hold k h7 h6.2) ⟨⟨hrow,hw.keep2 (fun k h6 h7=>⟨h7.1,by omega⟩) (Nat.le_succ _) fun k h6 h7=>hold k h7 fun e=>h6.2 0 rows.length z (by rw [e])⟩,trivial⟩
    · rw [Hp.get_alloc,if_neg (by simp only [Hp.next_kill];omega),Hp.get_kill,if_neg (fun e=>hno 0 rows.length z (by rw [e]))]
    · simp only [AV.sl.injEq] at e
      exact e.1.symm
end Go.Proofs.Ytackdnelcpbfjaa
namespace Go.Proofs.Ytackdnelcpbfjaa
set_option maxRecDepth 20000
open Go Go.Ab
theorem src_rows {z:Nat} {H:Hp} {rows:List (List AV)} (h:∀ r ∈ rows,r.length=z):srcCells H z (.lst rows)=some (rows.length,rows.flatten):=by
 simp only [srcCells]
 rw [if_pos (by rw [List.all_eq_true];intro r hr;simp [h r hr])]
theorem wk_int (m:Nat) (k:IntKind) (n:Int):wkN m (.int k n)=.int k n:=by cases m <;> rfl
theorem wk_rows {α:Type} {f:α → List AV} (h:∀ m x,(f x).map (wkN m)=f x) (l:List α) (m:Nat):wkN m (.lst (l.map f))=.lst (l.map f):=by
 cases m with
 | zero=>rfl
 | succ m =>
   simp only [wkN,List.map_map]
   have:(fun row=>List.map (wkN m) row) ∘ f=f:=funext fun y=>h m y
   rw [this]
theorem wk_ints (l:List Int) (m:Nat):wkN m (.lst (l.map fun n=>[AV.int .i64 n]))=.lst (l.map fun n=>[AV.int .i64 n]):=wk_rows (f:=fun n:Int=>[AV.int .i64 n]) (fun m x=>by simp only [List.map_cons,List.map_nil,wk_int]) l m
theorem RdW.agg {S:Nat → Prop} {n:Nat} {H:Hp} {cs ws:List AV} (h:CellsW S n H cs ws):RdW S (n + 1) H (.agg cs) (.agg ws):=by
 obtain ⟨us,h1,h2⟩:=h
 refine ⟨.agg us,⟨us,h1,rfl⟩,fun m hm=>?_⟩
 obtain ⟨m,rfl⟩:∃ k,m=k + 1:=⟨m - 1,by omega⟩
 show AV.agg (us.map (wkN m))=_
 rw [h2 m (by omega)]
theorem RdW.intsM {S:Nat → Prop} {n:Nat} {H:Hp} {q imm:Nat} {tip:Bool} (l:List Int) (hS:S q) (hq:q < H.next) (hg:H.get q=some (.cells (l.map fun n=>.int .i64 n) imm tip)) (hi:imm ≤ l.length):RdW S (n + 2) H (.sl q 0 l.length 1) (.lst (l.map fun n=>[.int .i64 n])):=by
 have hf:(l.map fun n=>[AV.int .i64 n]).flatten=l.map fun n=>AV.int .i64 n:=by
   clear hg hi
   induction l with
   | nil=>rfl
   | cons a l ih=>rw [List.map_cons,List.flatten_cons,ih];rfl
 have hr:∀ l:List Int,RowsW S (n + 1) H 1 (l.map fun n=>[AV.int .i64 n]) (l.map fun n=>[AV.int .i64 n]):=fun l=>by
   induction l with
   | nil=>trivial
   | cons a l ih=>exact ⟨⟨rfl,.cons (.int _ _) .nil⟩,ih⟩
 have:=RdW.rows (n:=n + 1) (a:=l.map fun n=>[AV.int .i64 n]) (imm:=imm) (tip:=tip) hS hq (by rw [hf];exact hg) (by rw [hf,List.length_map];exact hi) (hr l)
 rw [List.length_map] at this
 exact this
theorem enV_wp {P:Program} {pls:List (Nat × Nat × Plan)} {l:List En} {α:Type} {ok:α → Prop} {enc:α → List AV} {out:α → AV} (inj:∀ x y,enc x=enc y → x=y) {g:FuncId} {x:α} (hl:∀ ar,lookN l g ar=spP ok enc out (ar.map (wkN 60))) (hw:(enc x).map (wkN 60)=enc x) (hx:ok x) {H:Hp}:WpCall P (cfgN pls l) g (enc x) H fun v H'=>v=out x ∧ H'=H:=
 WpCall.kn (by show lookN l g (enc x)=_;rw [hl,hw];exact spP_enc inj hx)
theorem con_of_wk2 {cfg:Cfg} (fit:Fit Try.prog) {ρ:Nat → Int} (hD:DecOk cfg.dec ρ) (hc:∀ f args r,cfg.call f args=some r → Con Try.prog ρ f args r) {g:FuncId} {args:List AV} {r:AV} {n:Nat}
   (hp:PureL args) (h:WpCall Try.prog cfg g args H0 fun v H'=>∃ m u,iceV H' m v=some u ∧ wkN n u=r):Con Try.prog ρ g args r:=by
 unfold WpCall at h
 obtain ⟨v,H',h1,m,u,h2,h3⟩:=h
 refine Con.wk' n (Con.of_made (m:=m) fit hD hc hp ?_) h3
 unfold WpCall
 exact ⟨v,H',h1,h2⟩
end Go.Proofs.Ytackdnelcpbfjaa
namespace Go.Proofs.Ytackdnelcpbfjaa
set_option maxRecDepth 20000
set_option maxRecDepth 20000
open Go Go.Ab
namespace tyMu1
def tyF:=And.intro @tq2 (And.intro @tq3 (And.intro @tq9 (And.intro @tq35 (And.intro @tq37 (And.intro @tq39 (@bin_quo))))))
end tyMu1
open tyMu1
theorem flat_drop {z:Nat}:∀ {rows:List (List AV)} {i:Nat} {r:List AV},(∀ x ∈ rows,x.length=z) → rows[i]?=some r → rows.flatten.drop (i * z)=r ++ (rows.drop (i + 1)).flatten
 | [],i,r,_,e=>by simp at e
 | a :: rows, 0, r, h, e => by
   simp only [List.getElem?_cons_zero,Option.some.injEq] at e
   subst e;simp
 | a :: rows, i + 1, r, h, e => by
   have ha:=h a List.mem_cons_self
   have ih:=flat_drop (rows:=rows) (i:=i) (r:=r) (fun x hx=>h x (List.mem_cons_of_mem _ hx)) (by simpa using e)
   have e1:(i + 1) * z=a.length + i * z:=by rw [Nat.succ_mul,ha];omega
   rw [List.flatten_cons,e1,List.drop_length_add_append,ih];rfl
theorem flat_splice {z:Nat} {w:List AV} (hw:w.length=z):∀ {rows:List (List AV)} {i:Nat},(∀ x ∈ rows,x.length=z) → i < rows.length → splice rows.flatten (i * z) w=(rows.set i w).flatten
 | [],i,_,e=>by simp at e
 | a :: rows, 0, h, e => by
   have ha:=h a List.mem_cons_self
   simp only [splice,Nat.zero_mul,List.take_zero,List.nil_append,Nat.zero_add,List.flatten_cons,List.set_cons_zero]
   rw [List.drop_append_of_le_length (by omega),List.drop_of_length_le (by omega),List.nil_append]
 | a :: rows, i + 1, h, e => by
   have ha:=h a List.mem_cons_self
   have ih:=flat_splice hw (rows:=rows) (i:=i) (fun x hx=>h x (List.mem_cons_of_mem _ hx)) (by simpa using e)
   simp only [splice,List.flatten_cons,List.set_cons_succ] at ih ⊢
   have e1:(i + 1) * z=a.length + i * z:=by rw [Nat.succ_mul,ha];omega
   rw [e1,List.take_length_add_append,Nat.add_assoc,List.drop_length_add_append,List.append_assoc,List.append_assoc]
   rw [List.append_assoc] at ih
   rw [ih]
theorem agg_row {z:Nat} {rows:List (List AV)} {i:Nat} {r:List AV} (h:∀ x ∈ rows,x.length=z) (e:rows[i]?=some r):aggA z (rows.flatten.drop (i * z))=some (.agg r):=by
 have hr:=h r (List.mem_of_getElem? e)
 rw [flat_drop h e]
 unfold aggA
 rw [List.take_append_of_le_length (by omega),List.take_of_length_le (by omega),if_pos hr]
theorem app_rows {P : Program} {t e : TypeId} {z b : Nat} {zz : List AV} (ht : P.underlying t = some (.slice e)) (hs : sizeA P e = some z) (hb : bytesA P e = some b) (hz : zeroA P e = some zz) (hzz : zz.length = z) (hsrc : srcType P t = true)
    {H:Hp} {q:Nat} (hg:H.get q=some (.cells [] 0 true)) (hq:q < H.next) {rows:List (List AV)} (hr:∀ x ∈ rows,x.length=z) (hone:rows.flatten.all AV.one=true) (hb1:rows.length * b ≤ maxRoom) (hb2:rows.length ≤ maxRoom) :
    ∃ q' H',appendA P false H t t (.sl q 0 0 z) (.lst rows)=some (.sl q' 0 rows.length z,H') ∧ H'.get q'=some (.cells rows.flatten 0 true) ∧ (q'=q ∨ q'=H.next) ∧ q' < H'.next ∧ H.next ≤ H'.next ∧ H'.next ≤ H.next + 1 ∧ ∀ k,k < H.next → k ≠ q → H'.get k=H.get k:=by
  have hx:srcCells H z (.lst rows)=some (rows.length,rows.flatten):=src_rows hr
  by_cases h0:rows=[]
  · subst h0
    refine ⟨q,H,?_,hg,.inl rfl,hq,Nat.le_refl _,Nat.le_succ _,fun _ _ _=>rfl⟩
    simp only [List.length_nil] at hx
    simp only [appendA,ht,hs,hb,hz,hsrc,hx,List.length_nil]
  · obtain ⟨m, hm⟩ : ∃ m, rows.length = m + 1 := ⟨rows.length - 1, by have := List.length_pos_iff.2 h0; omega⟩
    have htr:trimA false H z (.sl q 0 0 z)=H:=by
      unfold trimA
      simp only [hg]
      have:Nat.blt (0 + 0 * z) ([]:List AV).length=false:=by
        cases hb:Nat.blt (0 + 0 * z) ([]:List AV).length with
        | false=>rfl
        | true=>rw [Nat.blt_eq] at hb;simp at hb
      simp only [this,Bool.and_false,Bool.false_and]
    refine ⟨H.next,(H.kill q).alloc (.cells rows.flatten 0 true),?_,?_,.inr rfl,Nat.lt_succ_self _,Nat.le_succ _,Nat.le_refl _,fun k hk hno=>?_⟩
    · rw [hm] at hx hb1 hb2
      simp only [appendA,ht,hs,hb,hz,hsrc,hx,hone,htr,hzz,and_self,if_true,appendOnto,hg,Nat.zero_add,Nat.zero_mul,List.drop_nil,Bool.false_eq_true,if_false]
      rw [if_pos ⟨by simpa using hb1,by simpa using hb2,by simp,trivial,by simp⟩,hm]
      simp
    · show ((H.kill q).alloc _).get (H.kill q).next = _
      rw [Hp.get_alloc,if_pos rfl]
    · rw [Hp.get_alloc,if_neg (by simp only [Hp.next_kill];omega),Hp.get_kill,if_neg hno]
theorem astore_row {P:Program} {t z q i:Nat} {tip:Bool} {H:Hp} {rows:List (List AV)} {w:List AV} (hs:sizeA P t=some z) (hg:H.get q=some (.cells rows.flatten 0 tip)) (hz:∀ x ∈ rows,x.length=z) (hi:i < rows.length) (hw:w.length=z) (h1:w.all AV.one=true):astore P H t (.ptr q (i * z)) (.agg w)=some (H.set q (.cells (rows.set i w).flatten 0 tip)):=by
 have hl:=rows_len hz
 have hb:i * z + z ≤ rows.flatten.length:=by
   rw [hl]
   have:(i + 1) * z ≤ rows.length * z:=Nat.mul_le_mul_right z hi
   rw [Nat.succ_mul] at this;exact this
 simp only [astore,hg,hs]
 show (if w.length=z ∧ 0 ≤ i * z ∧ i * z + z ≤ rows.flatten.length ∧ w.all AV.one=true then some (H.set q (.cells (splice rows.flatten (i * z) w) 0 tip)) else none)=_
 rw [if_pos ⟨hw,Nat.zero_le _,hb,h1⟩,flat_splice hw hz hi]
end Go.Proofs.Ytackdnelcpbfjaa
namespace Go.Proofs.Ytackdnelcpbfjaa
set_option maxRecDepth 20000
set_option maxRecDepth 20000
open Go Go.Ab
namespace tyK6
def tyF:=And.intro @tq2 (And.intro @tq3 (And.intro @tq26 (And.intro @tq60 (And.intro @tq66 (And.intro @tq80 (And.intro @bin_quo (And.intro @bn3 (And.intro @xt0 (And.intro @xt1 (@bn1))))))))))
end tyK6
open tyK6
noncomputable def code23:{ c:SC // slim 147 (Try.f23.body.getD .skip)=c }:=by
 refine ⟨?_,?_⟩
 rotate_left
 · simp only [Try.f23, Option.getD_some, slim, slimR, slimL, slimD, slimG, Nat.blt, Nat.ble]
   rfl
theorem Wp.join2 {P:Program} {cfg:Cfg} {f N:Nat} {a:SC} {E:Env} {H:Hp} {Q:AX → Env → Hp → Prop} (F:Env → Hp → Prop) (h1:Wp P cfg f N a E H fun x E' H'=>x=.normal ∧ F E' H') (h2:∀ E' H',F E' H' → Q .normal E' H'):Wp P cfg f N a E H Q:=
 Wp.mono (fun x E' H' h=>by obtain ⟨rfl,h⟩:=h;exact h2 E' H' h) h1
theorem bNd (a:Int):buildA Try.prog 66 [(0,.int .i64 a)]=some (.agg [.int .i64 a,.int .i64 0,.nilS]):=by kernel_rfl
theorem bNd2 (a b:Int):buildA Try.prog 66 [(0,.int .i64 a),(1,.int .i64 b)]=some (.agg [.int .i64 a,.int .i64 b,.nilS]):=by kernel_rfl
theorem bsN3 (H:Hp):buildSliceA Try.prog H 60 3 [(0,.agg [.int .i64 2,.int .i64 0,.nilS]),(1,.agg [.int .i64 2,.int .i64 1,.nilS]),(2,.agg [.int .i64 26,.int .i64 0,.nilS])]=some (.sl H.next 0 3 3,H.alloc (.cells [.int .i64 2,.int .i64 0,.nilS,.int .i64 2,.int .i64 1,.nilS,.int .i64 26,.int .i64 0,.nilS] 0 true)):=by kernel_rfl
theorem len3g {α:Type} {s:List α} (h:s.length=3):∃ a b c,s=[a,b,c]:=by
 match s,h with
 | [a,b,c],_=>exact ⟨a,b,c,rfl⟩
theorem bsN1 (H:Hp) {cs:List AV} (hl:cs.length=3) (ho:cs.all AV.one=true):buildSliceA Try.prog H 60 1 [(0,.agg cs)]=some (.sl H.next 0 1 3,H.alloc (.cells cs 0 true)):=by
 obtain ⟨a,b,c,rfl⟩:=len3g hl
 kernel_rfl
theorem agN (a b c:AV):aggA 3 [a,b,c]=some (.agg [a,b,c]):=rfl
theorem bRd (q n:Nat):buildA Try.prog 80 [(0,.sl q 0 n 1)]=some (.agg [.sl q 0 n 1,.int .i64 0]):=by kernel_rfl
theorem bsOp (H:Hp):buildSliceA Try.prog H 26 5 [(0,.int .i64 23),(1,.int .i64 27),(2,.int .i64 28),(3,.int .i64 29),(4,.int .i64 24)]=some (.sl H.next 0 5 1,H.alloc (.cells [.int .i64 23,.int .i64 27,.int .i64 28,.int .i64 29,.int .i64 24] 0 true)):=by kernel_rfl
theorem RowsW.icyB {S:Nat → Prop} {n z:Nat} {H H':Hp} {a b:List (List AV)} (h:RowsW S n H z a b) (hn:H.next ≤ H'.next) (hf:∀ k,S k → k < H.next → SameB (H.get k) (H'.get k)):RowsW S n H' z a b:=All2.mono (fun x y k=>⟨k.1,k.2.frame (fun _ q=>q) hn hf⟩) h
theorem RowOwn.icyB {S:Nat → Prop} {n:Nat} {H H':Hp} {z:Nat} {v:AV} {ws:List (List AV)} (h:RowOwn S n H z v ws) (hn:H.next ≤ H'.next) (hf:∀ k,S k → k < H.next → SameB (H.get k) (H'.get k)):RowOwn S n H' z v ws:=by
 rcases h with h|⟨q,imm,rows,e,h1,h2,h3,h4,h5⟩
 · exact .inl h
 · have h5' := h5.icyB hn fun k hk hl => hf k hk.1 hl
   rcases hf q h1 h2 with e1|⟨cs,i,j,tip,e1,e2,e3⟩
   · exact .inr ⟨q,imm,rows,e,h1,by omega,by rw [← e1];exact h3,h4,h5'⟩
   · rw [h3] at e1
     simp only [Option.some.injEq,HB.cells.injEq] at e1
     obtain ⟨rfl,rfl,rfl⟩:=e1
     exact .inr ⟨q,j,rows,e,h1,by omega,e2,e3 h4,h5'⟩
theorem ofE_ns (y:OfX):(ofE y).any (hasSl 90)=false:=by obtain ⟨l,t,n⟩:=y;rfl
theorem coE_ns (y:List Nd × Nd):(coE y).any (hasSl 90)=false:=by obtain ⟨l,⟨a,b,c⟩⟩:=y;rfl
theorem of_M {tb:List En} (ht:∀ ar,lookN tb 58 ar=(enW enOf).sp ar) (hi:iceN tb 58=true) {S:Nat → Prop} {n:Nat} {H:Hp} {v:AV} {l:List Nd} (hn:n < 58) (hv:RowOwn S n H 3 v (l.map Nd.cells)) (t m:Int) (hok:ofOk ⟨l,t,m⟩) :
   WpCall Try.prog (cfgN pls tb) 58 [v,.int .i64 t,.int .i64 m] H fun w H'=>w=.int .i64 (ofK l t m) ∧ Icy S H H':=by
 obtain ⟨us,h1,h2⟩:CellsW S (n + 1) H [v,.int .i64 t,.int .i64 m] (ofE ⟨l,t,m⟩):=.cons hv.rd (.cons (.int _ _) (.cons (.int _ _) .nil))
 exact WpCall.enX (x:=(⟨l,t,m⟩:OfX)) (enc:=ofE) (ok:=ofOk) (out:=fun x=>.int .i64 (ofK x.l x.t x.n)) ofE_inj (fun ar=>by rw [ht];rfl) hi ofE_ns hok (by omega) h1 (h2 60 (by omega))
theorem co_M {tb:List En} (ht:∀ ar,lookN tb 60 ar=(enW enCo).sp ar) (hi:iceN tb 60=true) {S:Nat → Prop} {n:Nat} {H:Hp} {v:AV} {l:List Nd} {cs:List AV} {x:Nd} (hn:n < 57) (hv:RowOwn S n H 3 v (l.map Nd.cells)) (hc:CellsW S n H cs x.cells) (hok:NdsOk l) :
   WpCall Try.prog (cfgN pls tb) 60 [v,.agg cs] H fun w H'=>w=.bool (hasK l x) ∧ Icy S H H':=by
 obtain ⟨us,h1,h2⟩:CellsW S (n + 1) H [v,.agg cs] (coE (l,x)):=.cons hv.rd (.cons (.agg hc) .nil)
 exact WpCall.enX (x:=((l,x):List Nd × Nd)) (enc:=coE) (ok:=fun x=>NdsOk x.1) (out:=fun x=>.bool (hasK x.1 x.2)) coE_inj (fun ar=>by rw [ht];rfl) hi coE_ns hok (by omega) h1 (h2 60 (by omega))
theorem nd_nil {S:Nat → Prop} {H:Hp} (op imm:Int):CellsW S 2 H [.int .i64 op,.int .i64 imm,.nilS] (Nd.mk op imm []).cells:=.cons (.int _ _) (.cons (.int _ _) (.cons .nilS .nil))
theorem nd_cells {S:Nat → Prop} {H:Hp} {kv:AV} {kids:List Int} {lo:Nat} (op imm:Int) (hk:IntN H kv kids lo) (hS:∀ k,lo ≤ k → S k):CellsW S 2 H [.int .i64 op,.int .i64 imm,kv] (Nd.mk op imm kids).cells:=by
 refine .cons (.int _ _) (.cons (.int _ _) (.cons ?_ .nil))
 rcases hk with ⟨rfl,rfl⟩|⟨r,i,rfl,h2,h3,h4,h5⟩
 · exact .nilS
 · exact RdW.intsM kids (hS r h4) h5 h2 h3
theorem RdOk.icy {S:Nat → Prop} {lo:Nat} {H H':Hp} {r:Nat} {L:List Int} {c:Int} (h:RdOk lo H r L c) (hI:Icy S H H') (hr:¬ S r):RdOk lo H' r L c:=by
 obtain ⟨h0,h00,v,h1,h2⟩:=h
 refine ⟨h0,by rw [hI.next];exact h00,v,by rw [hI.out r hr];exact h1,?_⟩
 rcases h2 with h2|⟨b,off,cs,imm,e1,e2,e3,e4,e5⟩
 · exact .inl h2
 · rcases hI.same b with e | ⟨cs', i, j, tip, f1, f2, f3⟩
   · exact .inr ⟨b,off,cs,imm,e1,by rw [← e];exact e2,e3,e4,e5⟩
   · rw [e2] at f1
     simp only [Option.some.injEq,HB.cells.injEq] at f1
     obtain ⟨rfl,rfl,rfl⟩:=f1
     exact .inr ⟨b,off,cs,j,e1,f2,e3,e4,e5⟩
noncomputable def levN:List En:=[enPick,enWord,enRa,enOs,enW enOf,enW enCo]
theorem levN_ok (ρ:Nat → Int):EnsOk Try.prog ρ levN:=⟨enPick_ok ρ,enWord_ok ρ,enRa_ok ρ,enOs_ok ρ,enW_ok (enOf_ok ρ),enW_ok (enCo_ok ρ),trivial⟩
def cntK (l:List Int):Nat:=min l.length 14
theorem nodesK_ok (l:List Int) (values:Bool) {i:Nat} (hi:i ≤ 14):NdsOk (nodesK l values i):=by
 refine ⟨?_,fun n hn=>?_⟩
 · have:=nodesK_len l values i;omega
 · have:=nodesK_kids l values i n hn;omega
def opN (n:Int):Int:=if pickG n 11=0 then 1 else opK false n
def immN (n:Int):Int:=if pickG n 11=0 then wordG (w64 (n.tdiv 11)) n else 0
theorem opN_ar (n:Int):0 ≤ (arI (opN n)).1 ∧ (arI (opN n)).1 ≤ 3:=by
 have h9:=pickG_range (n:=w64 (n.tdiv 9)) (m:=5) (by omega) (by omega)
 have h19:=pickG_range (n:=n) (m:=19) (by omega) (by omega)
 refine ⟨?_,arI_le _⟩
 unfold opN
 split
 · decide
 · unfold opK
   split
   · obtain ⟨p, hp⟩ := Int.eq_ofNat_of_zero_le h9.1
     rw [hp,Int.toNat_natCast]
     have hp5:p < 5:=by omega
     match p,hp5 with
     | 0,_=>decide
     | 1,_=>decide
     | 2,_=>decide
     | 3,_=>decide
     | 4,_=>decide
   · exact ar_nn (by omega) (by omega)
structure StN (l:List Int) (i:Nat) (v:AV) (H2:Hp) (op imm:Int) (kv:AV) (L:List Int) (E:Env) (H:Hp):Prop where
 k0:E.at 0=lstI l
 k1:E.at 1=.bool false
 k4:E.at 4=.nilS
 k5:E.at 5=v
 k6:E.at 6=.int .i64 i
 k7:E.at 7=.ptr (H2.next + 1) 0
 k8:E.at 8=.ptr (H2.next + 2) 0
 rd:RdOk (H2.next + 2) H (H2.next + 1) L 0
 gn:H.get (H2.next + 2)=some (.cells [.int .i64 op,.int .i64 imm,kv] 0 true)
 old:∀ k,k < H2.next → SameB (H2.get k) (H.get k)
 nx:H2.next + 3 ≤ H.next
theorem op5 {p:Nat} (h:p < 5):([.int .i64 23,.int .i64 27,.int .i64 28,.int .i64 29,.int .i64 24]:List AV)[p]?=some (.int .i64 ([23,27,28,29,24].getD p 0)):=by
 match p,h with
 | 0,_=>rfl
 | 1,_=>rfl
 | 2,_=>rfl
 | 3,_=>rfl
 | 4,_=>rfl
set_option maxRecDepth 100000 in
theorem nodes_con (ρ : Nat → Int) (l : List Int) (hl : l.length < 2 ^ 63) : Con Try.prog ρ 23 [lstI l, .bool false] (lstN (nodesL l false)) := con_of_wk2 (n := 60) (cfg := cfgN pls levN) fit (noDec ρ) (EnsOk.look (levN_ok ρ)) (.cons (ints_pure _) (.cons (.bool _) .nil)) (by
  have hw:Plain (cfgN pls levN) 23:=plainN (fun _=>rfl) rfl
  have hkeep:(cfgN pls levN).keep 23=false:=rfl
  have hc1:cntK l ≤ l.length:=Nat.min_le_left _ _
  have hc2:cntK l ≤ 14:=Nat.min_le_right _ _
  have hc3:cntK l=l.length ∨ cntK l=14:=by unfold cntK;omega
  have hnl:nodesL l false=nodesK l false (cntK l):=rfl
  generalize cntK l=cnt at *
  have q7:(7:Int) ≠ 0:=by decide
  have q101:(101:Int) ≠ 0:=by decide
  have q1009:(1009:Int) ≠ 0:=by decide
  have q9:(9:Int) ≠ 0:=by decide
  have q11:(11:Int) ≠ 0:=by decide
  have q5:(5:Int) ≠ 0:=by decide
  refine WpCall.slim (M:=147) (rs:=[.tmp 4]) (hw.call _) hw.ice hw.froz Try.func23 rfl rfl code23.2 rfl ?_;dsimp only [code23,envOf,Nat.reduceAdd]
  have gh0:=@bNd
  have gh1:=@bNd2
  have gh2:=@bsN3
  repeat' (first
     | (apply Rx.nl ?_;clear hK K)|apply Rx.o ?_|apply Rx.on ?_|(apply Rx.gd (fun hg hgp=>?_) (fun hg hgp=>?_) <;> try (cases hg;done))|(apply Rx.cd (fun hb hbp=>?_) (fun hb hbp=>?_) <;> try (cases hb;done))|apply Wp.seq ?_|(apply Wp.ops' fun K hK=>?_)|(apply Rx.dT 5 [(3,19),(8,19),(13,19),(15,19),(17,19)] fun K hK=>?_)|(apply Rx.dT 10 [(3,9),(8,9)] fun K hK=>?_)|(apply Rx.dT 15 [(1,6),(1,8),(1,9),(1,11),(4,6),(10,11)] fun K hK=>?_)|(apply Rx.nq ?_;try intro _)|(apply Rx.nt ?_ ?_ <;> clear hK K)|apply WpT.step ?_|apply WpT.step0 rfl ?_|apply Wp.block ?_|apply Rx.sk ?_|apply Rx.rt ?_|apply Rx.xt ?_)
  refine Wp.forI [0,1,4] [] 6 cnt (fun i E H=>∃ v,E.at 5=v ∧ RowOwn (fun _=>True) 2 H 3 v ((nodesK l false i).map Nd.cells)) eE ⟨.sl 0 0 3 3,eE,.inr ⟨0,0,[[.int .i64 2,.int .i64 0,.nilS],[.int .i64 2,.int .i64 1,.nilS],[.int .i64 26,.int .i64 0,.nilS]],rfl,trivial,by rw [Hp.next_alloc];omega,by rw [Hp.get_alloc,if_pos (by rfl)];rfl,Nat.zero_le _,⟨rfl,nd_nil 2 0⟩,⟨rfl,nd_nil 2 1⟩,⟨rfl,nd_nil 26 0⟩,trivial⟩⟩ ?_
  rintro i E H2 hi hcE hrH hnH hsI ⟨v,k5,hv⟩
  (try simp only [forall_cons,forall_nil,and_true,sB,sO,Nat.reduceBEq,Nat.reduceAdd,Nat.reduceLeDiff,tyF, *] at hcE)
  (try simp only [forall_cons,forall_nil,and_true,sB,sO,Nat.reduceBEq,Nat.reduceAdd,Nat.reduceLeDiff,tyF, *] at hrH)
  (try simp only [Hp.next_alloc,Hp.next_set,H0_next,Nat.zero_add,Nat.reduceAdd] at hnH)
  by_cases hic:i < cnt
  · have hi1 : (i : Int) < l.length := by omega
    have hi2:(i:Int) < 14:=by omega
    have hgx:l[i]?=some (l.getD i 0):=by rw [List.getD_eq_getElem?_getD,List.getElem?_eq_getElem (by omega)];rfl
    have hns:nodesK l false (i + 1)=addK (nodesK l false i) (nodeK (nodesK l false i) false (l.getD i 0)):=rfl
    have hno:=nodesK_ok l false (i:=i) (by omega)
    have hnb:=nodesK_base l false i
    have hnlen:=nodesK_len l false i
    have hvL:∀ H:Hp,(∀ k,k < H2.next → SameB (H2.get k) (H.get k)) → H2.next ≤ H.next → RowOwn (fun k=>k < H2.next) 2 H 3 v ((nodesK l false i).map Nd.cells):=fun H h1 h2=>(hv.keep (S':=fun k=>k < H2.next) (fun k hk _=>hk) (Nat.le_refl _) fun _ _ _=>rfl).icyB h2 fun k hk _=>h1 k hk
    have hvq:∀ k o m z',v=.sl k o m z' → k < H2.next:=fun k o m z' e=>by
      rcases hv with ⟨rfl,_⟩|⟨q,imm,rows,rfl,e1,e2,_⟩
      · cases e
      · simp only [AV.sl.injEq] at e
        rw [← e.1];exact e2
    generalize l.getD i 0=n at *
    repeat' (first
       | (apply Rx.nl ?_;clear hK K)|apply Ry.o ?_|apply Ry.on ?_|(apply Ry.gd (fun hg hgp=>?_) (fun hg hgp=>?_) <;> try (cases hg;done))|apply Wp.seq ?_|(apply Wp.ops' fun K hK=>?_)|(apply Rx.dT 5 [(3,19),(8,19),(13,19),(15,19),(17,19)] fun K hK=>?_)|(apply Rx.dT 10 [(3,9),(8,9)] fun K hK=>?_)|(apply Rx.dT 15 [(1,6),(1,8),(1,9),(1,11),(4,6),(10,11)] fun K hK=>?_)|(apply Rx.nq ?_;try intro _)|(apply Rx.nt ?_ ?_ <;> clear hK K)|apply WpT.step ?_|apply WpT.step0 rfl ?_|apply Wp.block ?_|apply Rx.sk ?_|apply Rx.rt ?_|apply Rx.xt ?_)
    (apply Rx.cd (fun hb hbp=>?_) (fun hb hbp=>?_) <;> try (cases hb;done))
    have gh0:=@bRd
    have gh1:=@bNd
    repeat' (first
       | (apply Rx.nl ?_;clear hK K)|apply Ry.o ?_|apply Ry.on ?_|(apply Ry.call ?_;first|refine Rx.k (pick_en (fun _=>rfl) _ _ (by decide) _) ?_)|(apply Ry.gd (fun hg hgp=>?_) (fun hg hgp=>?_) <;> try (cases hg;done))|apply Wp.seq ?_|(apply Wp.ops' fun K hK=>?_)|(apply Rx.dT 5 [(3,19),(8,19),(13,19),(15,19),(17,19)] fun K hK=>?_)|(apply Rx.dT 10 [(3,9),(8,9)] fun K hK=>?_)|(apply Rx.dT 15 [(1,6),(1,8),(1,9),(1,11),(4,6),(10,11)] fun K hK=>?_)|(apply Rx.nq ?_;try intro _)|(apply Rx.nt ?_ ?_ <;> clear hK K)|apply WpT.step ?_|apply WpT.step0 rfl ?_|apply Wp.block ?_|apply Rx.sk ?_|apply Rx.rt ?_|apply Rx.xt ?_)
    · exact eK
    generalize hHb:Hp.set (Hp.alloc (Hp.alloc (Hp.alloc H2 _) _) _) _ _=Hb
    have nb:Hb.next=H2.next + 3:=by rw [← hHb];rfl
    have gb0:Hb.get H2.next=some (.cells [.int .i64 (seedK n 0),.int .i64 (seedK n 1),.int .i64 (seedK n 2)] 0 true):=by
      rw [← hHb,Hp.get_set,if_neg (by (try simp only [Hp.next_alloc]);omega),Hp.get_alloc,if_neg (by (try simp only [Hp.next_alloc]);omega),Hp.get_alloc,if_neg (by (try simp only [Hp.next_alloc]);omega),Hp.get_alloc,if_pos rfl];rfl
    have gb1:Hb.get (H2.next + 1)=some (.cells [.sl H2.next 0 3 1,.int .i64 0] 0 true):=by rw [← hHb];simp [Hp.get_set,Hp.get_alloc,Hp.next_alloc]
    have hrng:=pickG_range (n:=n) (m:=19) (by omega) (by omega)
    have gb2:Hb.get (H2.next + 2)=some (.cells [.int .i64 (4 + pickG n 19),.int .i64 0,.nilS] 0 true):=by
      rw [← hHb];simp [Hp.get_set,Hp.get_alloc,Hp.next_alloc]
      exact i64_id (by omega) (by omega)
    have ob:∀ k,k < H2.next → Hb.get k=H2.get k:=fun k hk=>by rw [← hHb,Hp.get_set,if_neg (by (try simp only [Hp.next_alloc]);omega),Hp.get_alloc,if_neg (by (try simp only [Hp.next_alloc]);omega),Hp.get_alloc,if_neg (by (try simp only [Hp.next_alloc]);omega),Hp.get_alloc,if_neg (by omega)]
    have hrd0:RdOk (H2.next + 2) Hb (H2.next + 1) [seedK n 0,seedK n 1,seedK n 2] 0:=⟨by omega,by omega,_,gb1,.inr ⟨H2.next,0,_,0,rfl,gb0,rfl,by omega,by omega⟩⟩
    clear hHb gb0 gb1
    refine Wp.join2 (fun E' H'=>StN l i v H2 (opK false n) 0 .nilS [seedK n 0,seedK n 1,seedK n 2] E' H') ?_ ?_
    · have hr5 := pickG_range (n := w64 (n.tdiv 9)) (m := 5) (by omega) (by omega)
      obtain ⟨p,hp⟩:=Int.eq_ofNat_of_zero_le hr5.1
      have hp5:p < 5:=by omega
      have hg5:=op5 hp5
      have hp':pickG (IntKind.wrap .i64 (n.tdiv 9)) 5=p:=hp
      have gh0:=@bsOp
      repeat' (first
         | (apply Rx.nl ?_;clear hK K)|apply Ry.o ?_|apply Ry.on ?_|(apply Ry.call ?_;first|refine Rx.k (pick_en (fun _=>rfl) _ _ (by decide) _) ?_)|(apply Ry.gd (fun hg hgp=>?_) (fun hg hgp=>?_) <;> try (cases hg;done))|(apply Ry.cd (fun hb hbp=>?_) (fun hb hbp=>?_) <;> try (cases hb;done))|apply Wp.seq ?_|(apply Wp.ops' fun K hK=>?_)|(apply Rx.dT 5 [(3,19),(8,19),(13,19),(15,19),(17,19)] fun K hK=>?_)|(apply Rx.dT 10 [(3,9),(8,9)] fun K hK=>?_)|(apply Rx.dT 15 [(1,6),(1,8),(1,9),(1,11),(4,6),(10,11)] fun K hK=>?_)|(apply Rx.nq ?_;try intro _)|(apply Rx.nt ?_ ?_ <;> clear hK K)|apply WpT.step ?_|apply WpT.step0 rfl ?_|apply Wp.block ?_|apply Rx.sk ?_|apply Rx.rt ?_|apply Rx.xt ?_)
      · have hop : opK false n = [23, 27, 28, 29, 24].getD p 0 := by rw [opK, if_pos ⟨rfl, by assumption⟩, hp, Int.toNat_natCast]
        refine ⟨rfl,eE,eE,eE,eE,eE,eE,eE,?_,?_,?_,?_⟩
        · exact hrd0.keep (by simp only [Hp.next_set,Hp.next_alloc];omega) fun k hk=>by rw [Hp.get_set,if_neg (by omega),Hp.get_alloc,if_neg (by omega)]
        · rw [Hp.get_set,if_pos rfl,hop]
        · intro k hk;rw [Hp.get_set,if_neg (by omega),Hp.get_alloc,if_neg (by omega),ob k hk];exact .refl _
        · simp only [Hp.next_set,Hp.next_alloc];omega
      · have hop : opK false n = 4 + pickG n 19 := by rw [opK, if_neg (fun h => by have := h.2; omega)]
        exact ⟨rfl,eE,eE,eE,eE,eE,eE,eE,hrd0,by rw [hop];exact gb2,fun k hk=>by rw [ob k hk];exact .refl _,by omega⟩
    clear hrd0 gb2 ob nb hrng
    rintro E3 H3 ⟨k0,k1,k4,k5,k6,k7,k8,rd,gn,old,nx⟩
    dsimp only [thenQ]
    repeat' (first
       | (apply Rx.nl ?_;clear hK K)|apply Ry.o ?_|apply Ry.on ?_|(apply Ry.call ?_;first|refine Rx.k (pick_en (fun _=>rfl) _ _ (by decide) _) ?_)|(apply Ry.gd (fun hg hgp=>?_) (fun hg hgp=>?_) <;> try (cases hg;done))|apply Wp.seq ?_|(apply Wp.ops' fun K hK=>?_)|(apply Rx.dT 5 [(3,19),(8,19),(13,19),(15,19),(17,19)] fun K hK=>?_)|(apply Rx.dT 10 [(3,9),(8,9)] fun K hK=>?_)|(apply Rx.dT 15 [(1,6),(1,8),(1,9),(1,11),(4,6),(10,11)] fun K hK=>?_)|(apply Rx.nq ?_;try intro _)|(apply Rx.nt ?_ ?_ <;> clear hK K)|apply WpT.step ?_|apply WpT.step0 rfl ?_|apply Wp.block ?_|apply Rx.sk ?_|apply Rx.rt ?_|apply Rx.xt ?_)
    refine Wp.join2 (fun E' H'=>StN l i v H2 (opN n) (immN n) .nilS [seedK n 0,seedK n 1,seedK n 2] E' H') ?_ ?_
    · have gh0 := @bNd2
      repeat' (first
         | (apply Rx.nl ?_;clear hK K)|apply Ry.o ?_|apply Ry.on ?_|(apply Ry.call ?_;first|refine Rx.k (word_en (fun _=>rfl) _ _ _) ?_)|(apply Ry.gd (fun hg hgp=>?_) (fun hg hgp=>?_) <;> try (cases hg;done))|(apply Ry.cd (fun hb hbp=>?_) (fun hb hbp=>?_) <;> try (cases hb;done))|apply Wp.seq ?_|(apply Wp.ops' fun K hK=>?_)|(apply Rx.dT 5 [(3,19),(8,19),(13,19),(15,19),(17,19)] fun K hK=>?_)|(apply Rx.dT 10 [(3,9),(8,9)] fun K hK=>?_)|(apply Rx.dT 15 [(1,6),(1,8),(1,9),(1,11),(4,6),(10,11)] fun K hK=>?_)|(apply Rx.nq ?_;try intro _)|(apply Rx.nt ?_ ?_ <;> clear hK K)|apply WpT.step ?_|apply WpT.step0 rfl ?_|apply Wp.block ?_|apply Rx.sk ?_|apply Rx.rt ?_|apply Rx.xt ?_)
      · exact eK
      · have h1 : opN n = 1 := by rw [opN, if_pos (by assumption)]
        have h2:immN n=wordG (w64 (n.tdiv 11)) n:=by rw [immN,if_pos (by assumption)]
        refine ⟨rfl,eE,eE,eE,eE,eE,eE,eE,?_,?_,?_,?_⟩
        · exact rd.keep (Nat.le_refl _) fun k hk=>by rw [Hp.get_set,if_neg (by omega)]
        · rw [Hp.get_set,if_pos rfl,h1,h2]
        · intro k hk;rw [Hp.get_set,if_neg (by omega)];exact old k hk
        · exact nx
      · have h1 : opN n = opK false n := by rw [opN, if_neg (by assumption)]
        have h2:immN n=0:=by rw [immN,if_neg (by assumption)]
        exact ⟨rfl,eE,eE,eE,eE,eE,eE,eE,rd,by rw [h1,h2];exact gn,old,nx⟩
    clear rd gn old nx k0 k1 k4 k5 k6 k7 k8 E3 H3
    rintro E3 H3 ⟨k0,k1,k4,k5,k6,k7,k8,rd,gn,old,nx⟩
    dsimp only [thenQ]
    have har:=opN_ar n
    have hnode:nodeK (nodesK l false i) false n=⟨opN n,if opN n=27 then 1 + pickG (w64 (n.tdiv 5)) 2 else if opN n=23 ∨ opN n=28 then pickG (w64 (n.tdiv 5)) 2 else immN n,kidsK (nodesK l false i) (opN n) n (arI (opN n)).1.toNat⟩:=by
      unfold nodeK opN immN immK
      split <;> rfl
    generalize opN n=op at *
    obtain ⟨c,hca⟩:=Int.eq_ofNat_of_zero_le har.1
    have hc3':c ≤ 3:=by omega
    rw [hca,Int.toNat_natCast] at hnode
    have hav:arV op=.tup [.int .i64 c,.bool (arI op).2]:=by rw [arV,hca]
    clear har
    repeat' (first
       | (apply Rx.nl ?_;clear hK K)|apply Rx.o ?_|apply Rx.on ?_|(apply Rx.call ?_;first|refine Rx.k (ra_en (fun _=>rfl) _ _) ?_)|(apply Rx.gd (fun hg hgp=>?_) (fun hg hgp=>?_) <;> try (cases hg;done))|(apply Rx.cd (fun hb hbp=>?_) (fun hb hbp=>?_) <;> try (cases hb;done))|apply Wp.seq ?_|(apply Wp.ops' fun K hK=>?_)|(apply Rx.dT 5 [(3,19),(8,19),(13,19),(15,19),(17,19)] fun K hK=>?_)|(apply Rx.dT 10 [(3,9),(8,9)] fun K hK=>?_)|(apply Rx.dT 15 [(1,6),(1,8),(1,9),(1,11),(4,6),(10,11)] fun K hK=>?_)|(apply Rx.nq ?_;try intro _)|(apply Rx.nt ?_ ?_ <;> clear hK K)|apply WpT.step ?_|apply WpT.step0 rfl ?_|apply Wp.block ?_|apply Rx.sk ?_|apply Rx.rt ?_|apply Rx.xt ?_)
    refine Wp.forI [9] [] 11 c (fun j E H=>∃ kv,StN l i v H2 op (immN n) kv ([seedK n 0,seedK n 1,seedK n 2].drop j) E H ∧ IntN H kv (kidsK (nodesK l false i) op n j) (H2.next + 3)) eE ⟨.nilS,⟨eE,eE,eE,eE,eE,eE,eE,rd,gn,old,nx⟩,.inl ⟨rfl,rfl⟩⟩ ?_
    clear rd gn old nx k0 k1 k4 k5 k6 k7 k8
    rintro j E4 H4 hj hcE hrH hnH hsI ⟨kv,⟨k0,k1,k4,k5,k6,k7,k8,rd,gn,old,nx⟩,hkv⟩
    (try simp only [forall_cons,forall_nil,and_true,sB,sO,Nat.reduceBEq,Nat.reduceAdd,Nat.reduceLeDiff,tyF, *] at hcE)
    (try simp only [forall_cons,forall_nil,and_true,sB,sO,Nat.reduceBEq,Nat.reduceAdd,Nat.reduceLeDiff,tyF, *] at hrH)
    (try simp only [Hp.next_alloc,Hp.next_set,H0_next,Nat.zero_add,Nat.reduceAdd] at hnH)
    have h1kv:AV.one kv=true ∧ kv.cells=[kv]:=by
      rcases hkv with ⟨rfl,_⟩|⟨r,imm,rfl,_⟩ <;> exact ⟨rfl,rfl⟩
    obtain ⟨hkv1,hkv2⟩:=h1kv
    by_cases hjc:j < c
    · have hjc' : (j : Int) < c := by omega
      have hnx:(nextG ([seedK n 0,seedK n 1,seedK n 2].drop j)).1=seedK n j ∧ (nextG ([seedK n 0,seedK n 1,seedK n 2].drop j)).2=[seedK n 0,seedK n 1,seedK n 2].drop (j + 1):=by
        have hj3:j < 3:=by omega
        match j,hj3 with
        | 0,_=>exact ⟨rfl,rfl⟩
        | 1,_=>exact ⟨rfl,rfl⟩
        | 2,_=>exact ⟨rfl,rfl⟩
      repeat' (first
         | (apply Rx.nl ?_;clear hK K)|apply Ry.o ?_|apply Ry.on ?_|(apply Ry.call ?_;first|refine Rx.k (os_en (fun _=>rfl) _ _ _) ?_)|(apply Ry.gd (fun hg hgp=>?_) (fun hg hgp=>?_) <;> try (cases hg;done))|(apply Ry.cd (fun hb hbp=>?_) (fun hb hbp=>?_) <;> try (cases hb;done))|apply Wp.seq ?_|(apply Wp.ops' fun K hK=>?_)|(apply Rx.dT 5 [(3,19),(8,19),(13,19),(15,19),(17,19)] fun K hK=>?_)|(apply Rx.dT 10 [(3,9),(8,9)] fun K hK=>?_)|(apply Rx.dT 15 [(1,6),(1,8),(1,9),(1,11),(4,6),(10,11)] fun K hK=>?_)|(apply Rx.nq ?_;try intro _)|(apply Rx.nt ?_ ?_ <;> clear hK K)|apply WpT.step ?_|apply WpT.step0 rfl ?_|apply Wp.block ?_|apply Rx.sk ?_|apply Rx.rt ?_|apply Rx.xt ?_)
      refine WpL.call rfl eVk eAk ?_;simp only [List.cons_append,List.nil_append,List.append_nil]
      refine WpCall.mono ?_ (next_wp (plainN (fun _=>rfl) rfl) rd (by simp;omega))
      rintro w H5 ⟨rfl,rd5,n5,o5⟩
      have gn5:H5.get (H2.next + 2)=_:=(o5 _ (by omega)).trans gn
      have old5:∀ k,k < H2.next → SameB (H2.get k) (H5.get k):=fun k hk=>by rw [o5 k (by omega)];exact old k hk
      have nx5:H2.next + 3 ≤ H5.next:=by omega
      have hkv5:IntN H5 kv (kidsK (nodesK l false i) op n j) (H2.next + 3):=hkv.keep (by omega) fun k hk=>o5 k (by have:=(hkv.lt hk).1;omega)
      rw [hnx.2] at rd5
      dsimp only [setO]
      repeat' (first
         | (apply Rx.nl ?_;clear hK K)|apply Rx.o ?_|apply Rx.on ?_|(apply Rx.gd (fun hg hgp=>?_) (fun hg hgp=>?_) <;> try (cases hg;done))|(apply Rx.cd (fun hb hbp=>?_) (fun hb hbp=>?_) <;> try (cases hb;done))|apply Wp.seq ?_|(apply Wp.ops' fun K hK=>?_)|(apply Rx.dT 5 [(3,19),(8,19),(13,19),(15,19),(17,19)] fun K hK=>?_)|(apply Rx.dT 10 [(3,9),(8,9)] fun K hK=>?_)|(apply Rx.dT 15 [(1,6),(1,8),(1,9),(1,11),(4,6),(10,11)] fun K hK=>?_)|(apply Rx.nq ?_;try intro _)|(apply Rx.nt ?_ ?_ <;> clear hK K)|apply WpT.step ?_|apply WpT.step0 rfl ?_|apply Wp.block ?_|apply Rx.sk ?_|apply Rx.rt ?_|apply Rx.xt ?_)
      refine WpL.call rfl eVk eAk ?_;simp only [List.cons_append,List.nil_append,List.append_nil]
      refine WpCall.mono ?_ (of_M (fun _=>rfl) rfl (by omega) (hvL H5 old5 (by omega)) _ _ ⟨hno,allK_pos hnb (opSortK_12 _ _)⟩)
      rintro w H6 ⟨rfl,hy⟩
      have n6:=hy.next
      have gn6:H6.get (H2.next + 2)=_:=(hy.out _ (by omega)).trans gn5
      have rd6:=rd5.icy hy (by omega)
      have old6:∀ k,k < H2.next → SameB (H2.get k) (H6.get k):=fun k hk=>(old5 k hk).trans (hy.same k)
      have hkv6:IntN H6 kv (kidsK (nodesK l false i) op n j) (H2.next + 3):=hkv5.keep (by omega) fun k hk=>hy.out k (by have:=(hkv5.lt hk).1;omega)
      have nx6:H2.next + 3 ≤ H6.next:=by omega
      have n6':H5.next ≤ H6.next:=by omega
      have n5':H4.next ≤ H5.next:=by omega
      clear hy n6 n5
      have hks:kidsK (nodesK l false i) op n (j + 1)=kidsK (nodesK l false i) op n j ++ [ofK (nodesK l false i) (opSortK op j) (seedK n j)]:=by rw [kidsK]
      generalize ofK (nodesK l false i) (opSortK op j) (seedK n j)=x at *
      have hvb:IntN (H6.alloc (.cells [.int .i64 x] 0 true)) kv (kidsK (nodesK l false i) op n j) (H2.next + 3):=hkv6.keep (Nat.le_succ _) fun k hk=>by rw [Hp.get_alloc,if_neg (by have:=(hkv6.lt hk).2;omega)]
      obtain ⟨v5,H7,a5,s5,n7,f7,o7⟩:=appI_one (r:=H6.next) (imm:=0) x hvb (by simp only [Hp.next_alloc];omega) (by rw [Hp.get_alloc,if_pos rfl]) (by rw [kidsK_len];omega)
      have n7':H6.next + 1 ≤ H7.next:=by simp only [Hp.next_alloc] at n7;omega
      have o7':∀ k,k < H2.next + 3 → H7.get k=H6.get k:=fun k hk=>by rw [f7 k hk,Hp.get_alloc,if_neg (by omega)]
      clear n7 f7 o7 hvb
      have gn7:H7.get (H2.next + 2)=_:=(o7' _ (by omega)).trans gn6
      have e7:(H2.next + 2 == H6.next)=false:=ne_beq (by omega)
      have e8:(H2.next + 2 == H7.next)=false:=ne_beq (by omega)
      have h1v5:AV.one v5=true ∧ v5.cells=[v5]:=by obtain ⟨r,imm,rfl,_⟩:=s5;exact ⟨rfl,rfl⟩
      obtain ⟨hv51,hv52⟩:=h1v5
      dsimp only [setO]
      repeat' (first
         | (apply Rx.nl ?_;clear hK K)|apply Rx.o ?_|apply Rx.on ?_|(apply Rx.gd (fun hg hgp=>?_) (fun hg hgp=>?_) <;> try (cases hg;done))|(apply Rx.cd (fun hb hbp=>?_) (fun hb hbp=>?_) <;> try (cases hb;done))|apply Wp.seq ?_|(apply Wp.ops' fun K hK=>?_)|(apply Rx.dT 5 [(3,19),(8,19),(13,19),(15,19),(17,19)] fun K hK=>?_)|(apply Rx.dT 10 [(3,9),(8,9)] fun K hK=>?_)|(apply Rx.dT 15 [(1,6),(1,8),(1,9),(1,11),(4,6),(10,11)] fun K hK=>?_)|(apply Rx.nq ?_;try intro _)|(apply Rx.nt ?_ ?_ <;> clear hK K)|apply WpT.step ?_|apply WpT.step0 rfl ?_|apply Wp.block ?_|apply Rx.sk ?_|apply Rx.rt ?_|apply Rx.xt ?_)
      · exact eK
      · refine ⟨by omega, eL, eL, eN, (by simp only [sB, Nat.reduceBEq, *]; exact i64_succ (n := c) (by omega) (by omega)), ?_⟩
        refine ⟨v5,⟨eE,eE,eE,eE,eE,eE,eE,?_,?_,?_,?_⟩,?_⟩
        · exact (rd6.keep (by omega) fun k hk=>o7' k (by omega)).keep (Nat.le_refl _) fun k hk=>by rw [Hp.get_set,if_neg (by omega)]
        · rw [Hp.get_set,if_pos rfl]
        · intro k hk;rw [Hp.get_set,if_neg (by omega),o7' k (by omega)];exact old6 k hk
        · simp only [Hp.next_set];omega
        · rw [hks];exact .inr (s5.keep (Nat.le_refl _) fun k hk=>by rw [Hp.get_set,if_neg (by have:=(s5.lt hk).1;omega)])
    · have hje : j = c := by omega
      subst hje
      have hjc':¬ (j:Int) < j:=by omega
      repeat' (first
         | (apply Rx.nl ?_;clear hK K)|apply Ry.o ?_|apply Ry.on ?_|(apply Ry.gd (fun hg hgp=>?_) (fun hg hgp=>?_) <;> try (cases hg;done))|apply Wp.seq ?_|(apply Wp.ops' fun K hK=>?_)|(apply Rx.dT 5 [(3,19),(8,19),(13,19),(15,19),(17,19)] fun K hK=>?_)|(apply Rx.dT 10 [(3,9),(8,9)] fun K hK=>?_)|(apply Rx.dT 15 [(1,6),(1,8),(1,9),(1,11),(4,6),(10,11)] fun K hK=>?_)|(apply Rx.nq ?_;try intro _)|(apply Rx.nt ?_ ?_ <;> clear hK K)|apply WpT.step ?_|apply WpT.step0 rfl ?_|apply Wp.block ?_|apply Rx.sk ?_|apply Rx.rt ?_|apply Rx.xt ?_)
      (apply Rx.cd (fun hb hbp=>?_) (fun hb hbp=>?_) <;> try (cases hb;done))
      repeat' (first
         | (apply Rx.nl ?_;clear hK K)|apply Rx.o ?_|apply Rx.on ?_|(apply Rx.gd (fun hg hgp=>?_) (fun hg hgp=>?_) <;> try (cases hg;done))|apply Wp.seq ?_|(apply Wp.ops' fun K hK=>?_)|(apply Rx.dT 5 [(3,19),(8,19),(13,19),(15,19),(17,19)] fun K hK=>?_)|(apply Rx.dT 10 [(3,9),(8,9)] fun K hK=>?_)|(apply Rx.dT 15 [(1,6),(1,8),(1,9),(1,11),(4,6),(10,11)] fun K hK=>?_)|(apply Rx.nq ?_;try intro _)|(apply Rx.nt ?_ ?_ <;> clear hK K)|apply WpT.step ?_|apply WpT.step0 rfl ?_|apply Wp.block ?_|apply Rx.sk ?_|apply Rx.rt ?_|apply Rx.xt ?_)
      have hr5:=pickG_range (n:=w64 (n.tdiv 5)) (m:=2) (by omega) (by omega)
      obtain ⟨p,hpe⟩:∃ p,pickG (w64 (n.tdiv 5)) 2=p:=⟨_,rfl⟩
      have hp':pickG (IntKind.wrap .i64 (n.tdiv 5)) 2=p:=hpe
      rw [hpe] at hr5 hnode
      clear hpe
      have ew:IntKind.wrap .i64 (1 + p)=1 + p:=i64_id (by omega) (by omega)
      refine Wp.join2 (fun E' H'=>StN l i v H2 op (if op=27 then 1 + p else immN n) kv ([seedK n 0,seedK n 1,seedK n 2].drop j) E' H' ∧ IntN H' kv (kidsK (nodesK l false i) op n j) (H2.next + 3)) ?_ ?_
      · repeat' (first
           | (apply Rx.nl ?_;clear hK K)|apply Ry.o ?_|apply Ry.on ?_|(apply Ry.call ?_;first|refine Rx.k (pick_en (fun _=>rfl) _ _ (by decide) _) ?_)|(apply Ry.gd (fun hg hgp=>?_) (fun hg hgp=>?_) <;> try (cases hg;done))|(apply Ry.cd (fun hb hbp=>?_) (fun hb hbp=>?_) <;> try (cases hb;done))|apply Wp.seq ?_|(apply Wp.ops' fun K hK=>?_)|(apply Rx.dT 5 [(3,19),(8,19),(13,19),(15,19),(17,19)] fun K hK=>?_)|(apply Rx.dT 10 [(3,9),(8,9)] fun K hK=>?_)|(apply Rx.dT 15 [(1,6),(1,8),(1,9),(1,11),(4,6),(10,11)] fun K hK=>?_)|(apply Rx.nq ?_;try intro _)|(apply Rx.nt ?_ ?_ <;> clear hK K)|apply WpT.step ?_|apply WpT.step0 rfl ?_|apply Wp.block ?_|apply Rx.sk ?_|apply Rx.rt ?_|apply Rx.xt ?_)
        · refine ⟨rfl, ⟨eE, eE, eE, eE, eE, eE, eE, ?_, ?_, ?_, ?_⟩, ?_⟩
          · exact rd.keep (Nat.le_refl _) fun k hk=>by rw [Hp.get_set,if_neg (by omega)]
          · have hop : op = 27 := by assumption
            rw [Hp.get_set,if_pos rfl,if_pos hop,hop]
          · intro k hk;rw [Hp.get_set,if_neg (by omega)];exact old k hk
          · exact nx
          · exact hkv.keep (Nat.le_refl _) fun k hk=>by rw [Hp.get_set,if_neg (by have:=(hkv.lt hk).1;omega)]
        · refine ⟨rfl, ⟨eE, eE, eE, eE, eE, eE, eE, rd, ?_, old, nx⟩, hkv⟩
          rw [if_neg (by assumption)];exact gn
      clear gn rd old nx hkv k0 k1 k4 k5 k6 k7 k8 hb hbp
      rintro E5 H5 ⟨⟨k0,k1,k4,k5,k6,k7,k8,rd,gn,old,nx⟩,hkv⟩
      dsimp only [thenQ]
      generalize him1:(if op=27 then 1 + p else immN n)=im1 at *
      repeat' (first
         | (apply Rx.nl ?_;clear hK K)|apply Rx.o ?_|apply Rx.on ?_|(apply Rx.gd (fun hg hgp=>?_) (fun hg hgp=>?_) <;> try (cases hg;done))|apply Wp.seq ?_|(apply Wp.ops' fun K hK=>?_)|(apply Rx.dT 5 [(3,19),(8,19),(13,19),(15,19),(17,19)] fun K hK=>?_)|(apply Rx.dT 10 [(3,9),(8,9)] fun K hK=>?_)|(apply Rx.dT 15 [(1,6),(1,8),(1,9),(1,11),(4,6),(10,11)] fun K hK=>?_)|(apply Rx.nq ?_;try intro _)|(apply Rx.nt ?_ ?_ <;> clear hK K)|apply WpT.step ?_|apply WpT.step0 rfl ?_|apply Wp.block ?_|apply Rx.sk ?_|apply Rx.rt ?_|apply Rx.xt ?_)
      all_goals
        refine Wp.join2 (fun E' H'=>StN l i v H2 op (if op=27 then 1 + p else if op=23 ∨ op=28 then p else immN n) kv ([seedK n 0,seedK n 1,seedK n 2].drop j) E' H' ∧ IntN H' kv (kidsK (nodesK l false i) op n j) (H2.next + 3)) ?_ ?_
        · repeat' (first
             | (apply Rx.nl ?_;clear hK K)|apply Ry.o ?_|apply Ry.on ?_|(apply Ry.call ?_;first|refine Rx.k (pick_en (fun _=>rfl) _ _ (by decide) _) ?_)|(apply Ry.gd (fun hg hgp=>?_) (fun hg hgp=>?_) <;> try (cases hg;done))|(apply Ry.cd (fun hb hbp=>?_) (fun hb hbp=>?_) <;> try (cases hb;done))|apply Wp.seq ?_|(apply Wp.ops' fun K hK=>?_)|(apply Rx.dT 5 [(3,19),(8,19),(13,19),(15,19),(17,19)] fun K hK=>?_)|(apply Rx.dT 10 [(3,9),(8,9)] fun K hK=>?_)|(apply Rx.dT 15 [(1,6),(1,8),(1,9),(1,11),(4,6),(10,11)] fun K hK=>?_)|(apply Rx.nq ?_;try intro _)|(apply Rx.nt ?_ ?_ <;> clear hK K)|apply WpT.step ?_|apply WpT.step0 rfl ?_|apply Wp.block ?_|apply Rx.sk ?_|apply Rx.rt ?_|apply Rx.xt ?_)
          all_goals first
            | (refine ⟨rfl,⟨eE,eE,eE,eE,eE,eE,eE,?_,?_,?_,?_⟩,?_⟩
               · exact rd.keep (Nat.le_refl _) fun k hk=>by rw [Hp.get_set,if_neg (by omega)]
               · have hop : op = 23 ∨ op = 28 := by omega
                 rw [Hp.get_set,if_pos rfl,if_neg (by omega),if_pos hop]
                 first
                 | done
                 | (have hop:op=23:=by assumption
                    rw [hop];done)
                 | (have hop:op=28:=by assumption
                    rw [hop];done)
               · intro k hk;rw [Hp.get_set,if_neg (by omega)];exact old k hk
               · exact nx
               · exact hkv.keep (Nat.le_refl _) fun k hk=>by rw [Hp.get_set,if_neg (by have:=(hkv.lt hk).1;omega)])
            | (refine ⟨rfl,⟨eE,eE,eE,eE,eE,eE,eE,rd,?_,old,nx⟩,hkv⟩
               rw [gn,← him1,if_neg (by omega:¬ (op=23 ∨ op=28))])
        clear gn rd old nx hkv k0 k1 k4 k5 k6 k7 k8 him1
        rintro E6 H6 ⟨⟨k0,k1,k4,k5,k6,k7,k8,rd,gn,old,nx⟩,hkv⟩
        dsimp only [thenQ]
        generalize (if op=27 then 1 + p else if op=23 ∨ op=28 then p else immN n)=im2 at *
        obtain ⟨oo,hoo⟩:∃ oo,oo=op:=⟨_,rfl⟩
        rw [← hoo] at gn hnode hkv
        clear hoo
        have hvT:RowOwn (fun _=>True) 2 H6 3 v ((nodesK l false i).map Nd.cells):=(hvL H6 old (by omega)).keep (fun _ _ _=>trivial) (Nat.le_refl _) fun _ _ _=>rfl
        have hcw:CellsW (fun k=>H2.next + 3 ≤ k) 2 H6 [.int .i64 oo,.int .i64 im2,kv] (nodeK (nodesK l false i) false n).cells:=by rw [hnode];exact nd_cells oo im2 hkv fun _ h=>h
        have h1kv:AV.one kv=true:=by rcases hkv with ⟨rfl,_⟩|⟨r,imm,rfl,_⟩ <;> rfl
        have gh0:=@agN
        repeat' (first
           | (apply Rx.nl ?_;clear hK K)|apply Rx.o ?_|apply Rx.on ?_|(apply Rx.gd (fun hg hgp=>?_) (fun hg hgp=>?_) <;> try (cases hg;done))|(apply Rx.cd (fun hb hbp=>?_) (fun hb hbp=>?_) <;> try (cases hb;done))|apply Wp.seq ?_|(apply Wp.ops' fun K hK=>?_)|(apply Rx.dT 5 [(3,19),(8,19),(13,19),(15,19),(17,19)] fun K hK=>?_)|(apply Rx.dT 10 [(3,9),(8,9)] fun K hK=>?_)|(apply Rx.dT 15 [(1,6),(1,8),(1,9),(1,11),(4,6),(10,11)] fun K hK=>?_)|(apply Rx.nq ?_;try intro _)|(apply Rx.nt ?_ ?_ <;> clear hK K)|apply WpT.step ?_|apply WpT.step0 rfl ?_|apply Wp.block ?_|apply Rx.sk ?_|apply Rx.rt ?_|apply Rx.xt ?_)
        refine WpL.call rfl eVk eAk ?_;simp only [List.cons_append,List.nil_append,List.append_nil]
        refine WpCall.mono ?_ (co_M (fun _=>rfl) rfl (by omega) hvT (hcw.keep (S':=fun _=>True) (fun _ _=>trivial) (Nat.le_refl _) fun _ _ _=>rfl) hno)
        rintro w H7 ⟨rfl,hy⟩
        have n7:=hy.next
        have hv7:RowOwn (fun k=>0 ≤ k) 2 H7 3 v ((nodesK l false i).map Nd.cells):=(hvT.icyB (by omega) fun k _ _=>hy.same k).keep (fun _ _ _=>Nat.zero_le _) (Nat.le_refl _) fun _ _ _=>rfl
        have hcw7:CellsW (fun k=>H2.next + 3 ≤ k) 2 H7 [.int .i64 oo,.int .i64 im2,kv] (nodeK (nodesK l false i) false n).cells:=hcw.frame (fun _ h=>h) (by omega) fun k _ _=>hy.same k
        obtain ⟨im,gn7⟩:∃ im,H7.get (H2.next + 2)=some (.cells [.int .i64 oo,.int .i64 im2,kv] im true):=by
          rcases hy.same (H2.next + 2) with e|⟨cs,i1,i2,tip,e1,e2,_⟩
          · exact ⟨0,by rw [← e];exact gn⟩
          · rw [gn] at e1
            simp only [Option.some.injEq,HB.cells.injEq] at e1
            obtain ⟨rfl,rfl,rfl⟩:=e1
            exact ⟨i2,e2⟩
        have n7':H2.next + 3 ≤ H7.next:=by omega
        clear hy n7 hvT hcw gn rd old hkv
        dsimp only [setO]
        generalize nodeK (nodesK l false i) false n=nd at *
        cases hhas:hasK (nodesK l false i) nd with
        | true =>
          have hadd:addK (nodesK l false i) nd=nodesK l false i:=by rw [addK,if_pos hhas]
          repeat' (first
             | (apply Rx.nl ?_;clear hK K)|apply Rx.o ?_|apply Rx.on ?_|(apply Rx.gd (fun hg hgp=>?_) (fun hg hgp=>?_) <;> try (cases hg;done))|(apply Rx.cd (fun hb hbp=>?_) (fun hb hbp=>?_) <;> try (cases hb;done))|apply Wp.seq ?_|(apply Wp.ops' fun K hK=>?_)|(apply Rx.dT 5 [(3,19),(8,19),(13,19),(15,19),(17,19)] fun K hK=>?_)|(apply Rx.dT 10 [(3,9),(8,9)] fun K hK=>?_)|(apply Rx.dT 15 [(1,6),(1,8),(1,9),(1,11),(4,6),(10,11)] fun K hK=>?_)|(apply Rx.nq ?_;try intro _)|(apply Rx.nt ?_ ?_ <;> clear hK K)|apply WpT.step ?_|apply WpT.step0 rfl ?_|apply Wp.block ?_|apply Rx.sk ?_|apply Rx.rt ?_|apply Rx.xt ?_)
          refine ⟨by omega,eL,eL,eN,(by simp only [sB,Nat.reduceBEq, *];exact i64_succ (n:=cnt) (by omega) (by omega)),?_⟩
          refine ⟨v,eE,?_⟩
          rw [hns,hadd]
          exact hv7.keep (fun _ _ _=>trivial) (Nat.le_refl _) fun _ _ _=>rfl
        | false =>
          have hadd:addK (nodesK l false i) nd=nodesK l false i ++ [nd]:=by rw [addK,if_neg (by rw [hhas];simp)]
          have hone:([.int .i64 oo,.int .i64 im2,kv]:List AV).all AV.one=true:=by
            show (true && (true && (AV.one kv && true)))=true
            rw [h1kv];rfl
          have kbs:=fun H=>bsN1 H (cs:=[.int .i64 oo,.int .i64 im2,kv]) rfl hone
          have hvb:RowOwn (fun k=>0 ≤ k) 2 (H7.alloc (.cells [.int .i64 oo,.int .i64 im2,kv] 0 true)) 3 v ((nodesK l false i).map Nd.cells):=hv7.keep (fun _ _ h=>h) (Nat.le_succ _) fun k _ hk=>by rw [Hp.get_alloc,if_neg (by omega)]
          obtain ⟨v8,H8,a8,s8,n8,f8,q8⟩:=RowOwn.push (P:=Try.prog) (t:=60) Try.underlying60 sz66 bt66 zr66 rfl (by kernel_rfl) hvb (Nat.zero_le _) (r:=H7.next) (imm:=0) (row:=[.int .i64 oo,.int .i64 im2,kv]) (w:=nd.cells) (by rw [Hp.get_alloc,if_pos rfl]) rfl hone (hcw7.keep (fun k hk=>⟨Nat.zero_le _,fun o m z' e=>by have:=hvq k o m z' e;omega⟩) (Nat.le_succ _) fun k _ hk=>by rw [Hp.get_alloc,if_neg (by omega)]) (by simp [maxRoom];omega) (by simp [maxRoom];omega)
          have n8':H7.next ≤ H8.next:=by simp only [Hp.next_alloc] at n8;omega
          clear n8 f8 q8 hvb
          have gh0:=@agN
          repeat' (first
             | (apply Rx.nl ?_;clear hK K)|apply Rx.o ?_|apply Rx.on ?_|(apply Rx.gd (fun hg hgp=>?_) (fun hg hgp=>?_) <;> try (cases hg;done))|(apply Rx.cd (fun hb hbp=>?_) (fun hb hbp=>?_) <;> try (cases hb;done))|apply Wp.seq ?_|(apply Wp.ops' fun K hK=>?_)|(apply Rx.dT 5 [(3,19),(8,19),(13,19),(15,19),(17,19)] fun K hK=>?_)|(apply Rx.dT 10 [(3,9),(8,9)] fun K hK=>?_)|(apply Rx.dT 15 [(1,6),(1,8),(1,9),(1,11),(4,6),(10,11)] fun K hK=>?_)|(apply Rx.nq ?_;try intro _)|(apply Rx.nt ?_ ?_ <;> clear hK K)|apply WpT.step ?_|apply WpT.step0 rfl ?_|apply Wp.block ?_|apply Rx.sk ?_|apply Rx.rt ?_|apply Rx.xt ?_)
          refine ⟨by omega,eL,eL,eN,(by simp only [sB,Nat.reduceBEq, *];exact i64_succ (n:=cnt) (by omega) (by omega)),?_⟩
          refine ⟨v8,eE,?_⟩
          rw [hns,hadd,List.map_append]
          exact s8.keep (fun _ _ _=>trivial) (Nat.le_refl _) fun _ _ _=>rfl
  · have hie : i = cnt := by omega
    subst hie
    have hx:∀ H:Hp,RowOwn (fun _=>True) 2 H 3 v ((nodesK l false i).map Nd.cells) → ∃ m u,iceV H m v=some u ∧ wkN 60 u=lstN (nodesL l false):=fun H h=>by
      obtain ⟨u,h1,h2⟩:=h.rd
      obtain ⟨m0,hm⟩:=Ic.iceV h1
      exact ⟨m0,u,hm m0 (Nat.le_refl _),by rw [h2 60 (by omega),hnl]⟩
    have hxx:=hx H2 hv
    clear hx hv
    by_cases c1:(i:Int) < l.length
    · have c2 : ¬ (i : Int) < 14 := by omega
      repeat' (first
         | (apply Rx.nl ?_;clear hK K)|apply Ry.o ?_|apply Ry.on ?_|(apply Ry.gd (fun hg hgp=>?_) (fun hg hgp=>?_) <;> try (cases hg;done))|(apply Ry.cd (fun hb hbp=>?_) (fun hb hbp=>?_) <;> try (cases hb;done))|apply Wp.seq ?_|(apply Wp.ops' fun K hK=>?_)|(apply Rx.dT 5 [(3,19),(8,19),(13,19),(15,19),(17,19)] fun K hK=>?_)|(apply Rx.dT 10 [(3,9),(8,9)] fun K hK=>?_)|(apply Rx.dT 15 [(1,6),(1,8),(1,9),(1,11),(4,6),(10,11)] fun K hK=>?_)|(apply Rx.nq ?_;try intro _)|(apply Rx.nt ?_ ?_ <;> clear hK K)|apply WpT.step ?_|apply WpT.step0 rfl ?_|apply Wp.block ?_|apply Rx.sk ?_|apply Rx.rt ?_|apply Rx.xt ?_)
      all_goals (refine ⟨eI,_,eR,?_⟩;try simp only [oneOr])
      exact hxx
    · repeat' (first
         | (apply Rx.nl ?_;clear hK K)|apply Ry.o ?_|apply Ry.on ?_|(apply Ry.gd (fun hg hgp=>?_) (fun hg hgp=>?_) <;> try (cases hg;done))|(apply Ry.cd (fun hb hbp=>?_) (fun hb hbp=>?_) <;> try (cases hb;done))|apply Wp.seq ?_|(apply Wp.ops' fun K hK=>?_)|(apply Rx.dT 5 [(3,19),(8,19),(13,19),(15,19),(17,19)] fun K hK=>?_)|(apply Rx.dT 10 [(3,9),(8,9)] fun K hK=>?_)|(apply Rx.dT 15 [(1,6),(1,8),(1,9),(1,11),(4,6),(10,11)] fun K hK=>?_)|(apply Rx.nq ?_;try intro _)|(apply Rx.nt ?_ ?_ <;> clear hK K)|apply WpT.step ?_|apply WpT.step0 rfl ?_|apply Wp.block ?_|apply Rx.sk ?_|apply Rx.rt ?_|apply Rx.xt ?_)
      all_goals (refine ⟨eI,_,eR,?_⟩;try simp only [oneOr])
      exact hxx)
end Go.Proofs.Ytackdnelcpbfjaa
