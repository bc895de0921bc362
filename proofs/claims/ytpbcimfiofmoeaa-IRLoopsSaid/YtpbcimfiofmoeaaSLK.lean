/- Parts: P4g, W4e, W4f, W4g, W4h, W4i, W4j, W4k, P4a. -/
import Derived.Test.YtpbcimfiofmoeaaSLJ
set_option linter.unusedSimpArgs false
set_option linter.unusedVariables false
set_option linter.unusedSectionVars false
set_option linter.defProp false
set_option maxHeartbeats 32000000
namespace Go.Proofs.Ytpbcimfiofmoeaa
set_option maxRecDepth 20000
set_option maxRecDepth 20000
open Go Go.Ab
namespace tyP4g
def tyF:=And.intro @tq3 (And.intro @tq9 (And.intro @tq32 (And.intro @tq40 (And.intro @tq42 (And.intro @tq44 (And.intro @tq47 (And.intro @tq48 (And.intro @tq51 (And.intro @tq53 (And.intro @tq55 (And.intro @tq81 (And.intro @tq140 (And.intro @tq167 (And.intro @bsR1 (@bsR2)))))))))))))))
end tyP4g
open tyP4g
noncomputable def code46:{ c:SC // slim 67 (Try.f46.body.getD .skip)=c }:=by
 refine ⟨?_,?_⟩
 rotate_left
 · simp only [Try.f46, Option.getD_some, slim, slimR, slimL, slimD, slimG, Nat.blt, Nat.ble]
   rfl
noncomputable def levRes:List En:=[enDecl]
theorem levRes_ok (ρ:Nat → Int):EnsOk Try.prog ρ levRes:=⟨enDecl_ok ρ,trivial⟩
set_option maxRecDepth 100000 in
theorem resolve_con (ρ : Nat → Int) (p : Pr) (hz : p.sz < 2 ^ 36) : Con Try.prog ρ 46 (prE p) (.int .i64 (resP p)) := Con.lev fit (pls := pls) (levRes_ok ρ) (.cons (.agg p.pure) .nil) (.int _ _) (by
  have hw:Plain (cfgN pls levRes) 46:=plainN (fun _=>rfl) rfl
  have kd:∀ H,WpCall Try.prog (cfgN pls levRes) 81 [.agg p.cells] H fun v H'=>v=.tup [lstS (arNames p),lstS (fnNms p)] ∧ H'=H:=fun H=>WpCall.en (enc:=prE) (out:=fun p=>.tup [lstS (arNames p),lstS (fnNms p)]) prE_inj (x:=p) rfl hz
  have hps:Plains (cfgN pls levRes):=⟨plainN (fun _=>rfl) rfl,plainN (fun _=>rfl) rfl,plainN (fun _=>rfl) rfl,plainN (fun _=>rfl) rfl⟩
  have hpz:p.sz=1 + arrsSz p.arrays + fnsSz p.funcs:=rfl
  have hla:=arrsSz_len p.arrays
  have hlf:=fnsSz_len p.funcs
  have hal:(arNames p).length=p.arrays.length:=by simp [arNames]
  have hfl:(fnNms p).length=p.funcs.length:=by simp [fnNms]
  have hx0:∀ a b,Ab.extract (.tup [a,b]) 0=some a:=fun _ _=>rfl
  have hx1:∀ a b,Ab.extract (.tup [a,b]) 1=some b:=fun _ _=>rfl
  have hnm:=aeval_nm
  rw [prE]
  refine WpCall.slim (M:=67) (rs:=[.tmp 2]) (hw.call _) hw.ice hw.froz Try.func46 rfl rfl code46.2 rfl ?_;dsimp only [code46,envOf,Nat.reduceAdd]
  repeat' (first
     | (apply Rx.nl ?_;clear hK K)|apply Rx.o ?_|apply Rx.on ?_|(apply Rx.call ?_;first|refine Rx.k (kd _) ?_)|(apply Rx.gd (fun hg hgp=>?_) (fun hg hgp=>?_) <;> try (cases hg;done))|(apply Rx.cd (fun hb hbp=>?_) (fun hb hbp=>?_) <;> try (cases hb;done))|apply Wp.seq ?_|(apply Wp.ops' fun K hK=>?_)|(apply Rx.dr 6 fun K hK=>?_)|apply Wp.block ?_|apply Rx.sk ?_|apply Rx.rt ?_|apply Rx.xt ?_)
  refine WpL.call rfl eVk eAk ?_;simp only [List.cons_append,List.nil_append,List.append_nil]
  refine WpCall.mono ?_ (set_wp (x:=[arNames p]) (imm:=0) (plainN (fun _=>rfl) rfl) (by rw [Hp.get_alloc,if_pos (by rfl)];rfl) (Nat.lt_succ_self _) ⟨by simp,by simp;omega⟩)
  rintro v H2 ⟨rfl,⟨la,hma,hla2⟩,hold,hlt2⟩
  simp only [Hp.next_alloc,H0_next] at hma hold hlt2
  rw [show ([arNames p]:List (List (List UInt8))).flatten=arNames p by simp] at hla2
  have g20:H2.get 0=some (.cells p.cells 0 true):=by rw [hold 0 (by omega),Hp.get_alloc,if_neg (by simp),Hp.get_alloc,if_pos (by rfl)]
  clear hold
  dsimp only [setO]
  repeat' (first
     | (apply Rx.nl ?_;clear hK K)|apply Rx.o ?_|apply Rx.on ?_|(apply Rx.gd (fun hg hgp=>?_) (fun hg hgp=>?_) <;> try (cases hg;done))|(apply Rx.cd (fun hb hbp=>?_) (fun hb hbp=>?_) <;> try (cases hb;done))|apply Wp.seq ?_|(apply Wp.ops' fun K hK=>?_)|(apply Rx.dr 6 fun K hK=>?_)|apply Wp.block ?_|apply Rx.sk ?_|apply Rx.rt ?_|apply Rx.xt ?_)
  generalize hHs:Hp.set (Hp.set _ _ _) _ _=Hs
  have ns:H2.next + 3 ≤ Hs.next:=by rw [← hHs];exact Nat.le_refl _
  have gs0:Hs.get 0=some (.cells p.cells 0 true):=by rw [← hHs,Hp.get_set,if_neg (by omega),Hp.get_set,if_neg (by omega),Hp.get_alloc,if_neg (by simp only [Hp.next_alloc];omega),Hp.get_alloc,if_neg (by simp only [Hp.next_alloc];omega),Hp.get_alloc,if_neg (by omega)];exact g20
  have gsa:Hs.get 2=some (.map (bEs la)):=by rw [← hHs,Hp.get_set,if_neg (by omega),Hp.get_set,if_neg (by omega),Hp.get_alloc,if_neg (by simp only [Hp.next_alloc];omega),Hp.get_alloc,if_neg (by simp only [Hp.next_alloc];omega),Hp.get_alloc,if_neg (by omega)];exact hma
  have gs5:Hs.get (H2.next + 1)=some (.cells [.map 2] 0 true):=by rw [← hHs,Hp.get_set,if_neg (by omega),Hp.get_set,if_pos (by rfl)]
  have gs6:Hs.get (H2.next + 2)=some (.cells [.map H2.next] 0 true):=by rw [← hHs,Hp.get_set,if_pos (by rfl)]
  have gsf:Hs.get H2.next=some (.map (vEs [])):=by rw [← hHs,Hp.get_set,if_neg (by omega),Hp.get_set,if_neg (by omega),Hp.get_alloc,if_neg (by simp only [Hp.next_alloc];omega),Hp.get_alloc,if_neg (by simp only [Hp.next_alloc];omega),Hp.get_alloc,if_pos (by rfl)];rfl
  clear hHs hma
  have hlt2':3 ≤ H2.next:=by omega
  clear hlt2
  have hE0:(0 == H2.next)=false:=ne_beq (by omega)
  have hE2:(2 == H2.next)=false:=ne_beq (by omega)
  refine Wp.forI [1,2,5,6,23,24] [0,2,H2.next + 1,H2.next + 2] 25 p.funcs.length (fun i E H=>∃ m,fnPar (p.funcs.drop i) m=fnPar p.funcs [] ∧ H.get H2.next=some (.map (vEs m))) eE ⟨[],by simp,gsf⟩ ?_
  rintro i E H3 hi hcE hrH hnH hsI ⟨m,hJ,hm⟩
  (try simp only [forall_cons,forall_nil,and_true,sB,sO,Nat.reduceBEq,Nat.reduceAdd,Nat.reduceLeDiff,tyF,gs0,gsa,gs5,gs6, *] at hcE)
  (try simp only [forall_cons,forall_nil,and_true,sB,sO,Nat.reduceBEq,Nat.reduceAdd,Nat.reduceLeDiff,tyF,gs0,gsa,gs5,gs6, *] at hrH)
  (try simp only [Hp.next_alloc,Hp.next_set,H0_next,Nat.zero_add,Nat.reduceAdd] at hnH)
  have hB0:(0 == H3.next)=false:=ne_beq (by omega)
  have hC0:(H3.next == 0)=false:=ne_beq (by omega)
  have hB1:(2 == H3.next)=false:=ne_beq (by omega)
  have hC1:(H3.next == 2)=false:=ne_beq (by omega)
  have hB2:(H2.next + 1 == H3.next)=false:=ne_beq (by omega)
  have hC2:(H3.next == H2.next + 1)=false:=ne_beq (by omega)
  have hB3:(H2.next + 2 == H3.next)=false:=ne_beq (by omega)
  have hC3:(H3.next == H2.next + 2)=false:=ne_beq (by omega)
  obtain ⟨h30,h3a,h35,h36⟩:=hrH
  repeat' (first
     | (apply Rx.nl ?_;clear hK K)|apply Rx.o ?_|apply Rx.on ?_|(apply Rx.gd (fun hg hgp=>?_) (fun hg hgp=>?_) <;> try (cases hg;done))|(apply Rx.cd (fun hb hbp=>?_) (fun hb hbp=>?_) <;> try (cases hb;done))|apply Wp.seq ?_|(apply Wp.ops' fun K hK=>?_)|(apply Rx.dr 6 fun K hK=>?_)|apply Wp.block ?_|apply Rx.sk ?_|apply Rx.rt ?_|apply Rx.xt ?_)
  · have hlt : i < p.funcs.length := by simpa using hb
    have hgx:p.funcs[i]?=some p.funcs[i]:=List.getElem?_eq_getElem hlt
    have hgn:(fnNms p)[i]?=some p.funcs[i].name:=by rw [fnNms,List.getElem?_map,hgx];rfl
    have hu:=upd_vEs (P:=Try.prog) (t:=81) Try.underlying81 keyS4 hm p.funcs[i].name p.funcs[i].params.length
    rw [List.drop_eq_getElem_cons hlt,fnPar] at hJ
    repeat' (first
       | (apply Rx.nl ?_;clear hK K)|apply Rx.o ?_|apply Rx.on ?_|(apply Rx.gd (fun hg hgp=>?_) (fun hg hgp=>?_) <;> try (cases hg;done))|(apply Rx.cd (fun hb hbp=>?_) (fun hb hbp=>?_) <;> try (cases hb;done))|apply Wp.seq ?_|(apply Wp.ops' fun K hK=>?_)|(apply Rx.dr 6 fun K hK=>?_)|apply Wp.block ?_|apply Rx.sk ?_|apply Rx.rt ?_|apply Rx.xt ?_)
    refine ⟨by omega,eL,eL,eN,(by simp only [sB,Nat.reduceBEq, *];exact i64_succ (n:=p.funcs.length) (by omega) (by omega)),?_⟩
    exact ⟨_,hJ,by rw [Hp.get_set,if_pos rfl]⟩
  · have hie : i = p.funcs.length := by simp at hb; omega
    rw [hie,List.drop_length,fnPar] at hJ
    subst hJ
    clear hie hsI hi hb hbp
    repeat' (first
       | (apply Rx.nl ?_;clear hK K)|apply Rx.o ?_|apply Rx.on ?_|(apply Rx.gd (fun hg hgp=>?_) (fun hg hgp=>?_) <;> try (cases hg;done))|(apply Rx.cd (fun hb hbp=>?_) (fun hb hbp=>?_) <;> try (cases hb;done))|apply Wp.seq ?_|(apply Wp.ops' fun K hK=>?_)|(apply Rx.dr 6 fun K hK=>?_)|apply Wp.block ?_|apply Rx.sk ?_|apply Rx.rt ?_|apply Rx.xt ?_)
    generalize hHq:Hp.set (Hp.alloc H3 _) _ _=Hq
    have nq:H3.next + 1 ≤ Hq.next:=by rw [← hHq];exact Nat.le_refl _
    have oldq:∀ k,k < H3.next → Hq.get k=H3.get k:=fun k hk=>by rw [← hHq,Hp.get_set,if_neg (by omega),Hp.get_alloc,if_neg (by omega)]
    have q9:Hq.get H3.next=some (.cells [.int .i64 (wI false)] 0 true):=by rw [← hHq,Hp.get_set,if_pos rfl];rfl
    clear hHq
    refine Wp.forI [5,6,9,41,42] [] 43 p.funcs.length (fun i E H=>∃ w,H.get H3.next=some (.cells [.int .i64 (wI w)] 0 true) ∧ resP p=resFns (fnPar p.funcs []) (arNames p) (p.funcs.drop i) w ∧ H.get (H2.next + 1)=some (.cells [.map 2] 0 true) ∧ (∃ l,H.get 2=some (.map (bEs l)) ∧ ∀ s,hasS l s=hasS (arNames p) s) ∧ H.get (H2.next + 2)=some (.cells [.map H2.next] 0 true) ∧ H.get H2.next=some (.map (vEs (fnPar p.funcs [])))) eE ⟨false,q9,rfl,by rw [oldq _ (by omega)];exact h35,⟨la,by rw [oldq _ (by omega)];exact h3a,hla2⟩,by rw [oldq _ (by omega)];exact h36,by rw [oldq _ (by omega)];exact hm⟩ ?_
    clear hm hla2 la h30 h3a h35 h36 gs0 gsa gs5 gs6 gsf q9 oldq
    rintro i E H4 hi hcE hrH hnH hsI ⟨w,g9,hJ,g5,⟨la,ga,hla⟩,g6,gf⟩
    (try simp only [forall_cons,forall_nil,and_true,sB,sO,Nat.reduceBEq,Nat.reduceAdd,Nat.reduceLeDiff,tyF, *] at hcE)
    (try simp only [forall_cons,forall_nil,and_true,sB,sO,Nat.reduceBEq,Nat.reduceAdd,Nat.reduceLeDiff,tyF, *] at hrH)
    (try simp only [Hp.next_alloc,Hp.next_set,H0_next,Nat.zero_add,Nat.reduceAdd] at hnH)
    repeat' (first
       | (apply Rx.nl ?_;clear hK K)|apply Rx.o ?_|apply Rx.on ?_|(apply Rx.gd (fun hg hgp=>?_) (fun hg hgp=>?_) <;> try (cases hg;done))|(apply Rx.cd (fun hb hbp=>?_) (fun hb hbp=>?_) <;> try (cases hb;done))|apply Wp.seq ?_|(apply Wp.ops' fun K hK=>?_)|(apply Rx.dr 6 fun K hK=>?_)|apply Wp.block ?_|apply Rx.sk ?_|apply Rx.rt ?_|apply Rx.xt ?_)
    · have hlt : i < p.funcs.length := by simpa using hb
      have hgx:p.funcs[i]?=some p.funcs[i]:=List.getElem?_eq_getElem hlt
      have hsm:=fnsSz_mem (List.getElem_mem hlt)
      have hsz:p.funcs[i].sz=1 + p.funcs[i].name.length + strsSz p.funcs[i].params + strsSz p.funcs[i].locals + stmtsSz p.funcs[i].body + p.funcs[i].value.sz:=rfl
      have hpl:=strsSz_len p.funcs[i].params
      have hll:=strsSz_len p.funcs[i].locals
      have hdr:resFns (fnPar p.funcs []) (arNames p) (p.funcs.drop i) w=if walkFn (fun x _=>defX (p.funcs[i].params ++ p.funcs[i].locals) (arNames p) x) p.funcs[i]=true ∧ (walkS (rsS (fnPar p.funcs []) (p.funcs[i].params ++ p.funcs[i].locals) (arNames p)) p.funcs[i].body 0 w).1=true then resFns (fnPar p.funcs []) (arNames p) (p.funcs.drop (i + 1)) (walkS (rsS (fnPar p.funcs []) (p.funcs[i].params ++ p.funcs[i].locals) (arNames p)) p.funcs[i].body 0 w).2 else 3:=by rw [List.drop_eq_getElem_cons hlt];rfl
      rw [hdr] at hJ
      clear hdr
      have hfz:p.funcs[i].sz < 2 ^ 60:=by omega
      generalize p.funcs[i]=g at *
      repeat' (first
         | (apply Rx.nl ?_;clear hK K)|apply Rx.o ?_|apply Rx.on ?_|(apply Rx.gd (fun hg hgp=>?_) (fun hg hgp=>?_) <;> try (cases hg;done))|(apply Rx.cd (fun hb hbp=>?_) (fun hb hbp=>?_) <;> try (cases hb;done))|apply Wp.seq ?_|(apply Wp.ops' fun K hK=>?_)|(apply Rx.dr 6 fun K hK=>?_)|apply Wp.block ?_|apply Rx.sk ?_|apply Rx.rt ?_|apply Rx.xt ?_)
      generalize hHb:Hp.alloc (Hp.set _ _ _) _=Hb
      have nb:Hb.next=H4.next + 2:=by rw [← hHb];rfl
      have oldb:∀ k,k < H4.next → Hb.get k=H4.get k:=fun k hk=>by rw [← hHb,Hp.get_alloc,if_neg (by simp only [Hp.next_set,Hp.next_alloc];omega),Hp.get_set,if_neg (by omega),Hp.get_alloc,if_neg (by omega)]
      have gbr:Hb.get (H4.next + 1)=some (.cells [lstS g.params,lstS g.locals] 0 true):=by rw [← hHb,Hp.get_alloc,if_pos (by rfl)]
      have gb11:Hb.get H4.next=some (.cells g.cells 0 true):=by rw [← hHb,Hp.get_alloc,if_neg (by simp only [Hp.next_set,Hp.next_alloc];omega),Hp.get_set,if_pos rfl]
      clear hHb
      refine WpL.call rfl eVk eAk ?_;simp only [List.cons_append,List.nil_append,List.append_nil]
      refine WpCall.mono ?_ (set_wp (x:=[g.params,g.locals]) (imm:=0) (plainN (fun _=>rfl) rfl) gbr (by omega) ⟨by simp,by simp;omega⟩)
      rintro v H5 ⟨rfl,⟨lv,hmv,hlv⟩,old5,n5⟩
      rw [show ([g.params,g.locals]:List (List (List UInt8))).flatten=g.params ++ g.locals by simp] at hlv
      have o5:∀ k,k < H4.next → H5.get k=H4.get k:=fun k hk=>by rw [old5 k (by omega),oldb k hk]
      have g511:H5.get H4.next=some (.cells g.cells 0 true):=by rw [old5 _ (by omega)];exact gb11
      have g59:H5.get H3.next=some (.cells [.int .i64 (wI w)] 0 true):=by rw [o5 _ (by omega)];exact g9
      have g55:H5.get (H2.next + 1)=some (.cells [.map 2] 0 true):=by rw [o5 _ (by omega)];exact g5
      have g5a:H5.get 2=some (.map (bEs la)):=by rw [o5 _ (by omega)];exact ga
      have g56:H5.get (H2.next + 2)=some (.cells [.map H2.next] 0 true):=by rw [o5 _ (by omega)];exact g6
      have g5f:H5.get H2.next=some (.map (vEs (fnPar p.funcs []))):=by rw [o5 _ (by omega)];exact gf
      clear o5 old5 gbr gb11 oldb g9 g5 ga g6 gf
      have e1:(H4.next == H5.next)=false:=ne_beq (by omega)
      dsimp only [setO]
      repeat' (first
         | (apply Rx.nl ?_;clear hK K)|apply Rx.o ?_|apply Rx.on ?_|(apply Rx.gd (fun hg hgp=>?_) (fun hg hgp=>?_) <;> try (cases hg;done))|(apply Rx.cd (fun hb hbp=>?_) (fun hb hbp=>?_) <;> try (cases hb;done))|apply Wp.seq ?_|(apply Wp.ops' fun K hK=>?_)|(apply Rx.dr 6 fun K hK=>?_)|apply Wp.block ?_|apply Rx.sk ?_|apply Rx.rt ?_|apply Rx.xt ?_)
      generalize hHd:Hp.set (Hp.alloc H5 _) _ _=Hd
      have nd:Hd.next=H5.next + 1:=by rw [← hHd];rfl
      have oldd:∀ k,k < H5.next → Hd.get k=H5.get k:=fun k hk=>by rw [← hHd,Hp.get_set,if_neg (by omega),Hp.get_alloc,if_neg (by omega)]
      have d12:Hd.get H5.next=some (.cells [.map Hb.next] 0 true):=by rw [← hHd,Hp.get_set,if_pos rfl,nb]
      clear hHd
      have hok:RsOk ⟨H5.next,Hb.next,H2.next + 1,2,H2.next + 2,H2.next,H3.next⟩ (g.params ++ g.locals) (arNames p) (fnPar p.funcs []) Hd:={
        b12:=d12
        bv:=⟨lv,by show Hd.get Hb.next=_;rw [oldd _ n5];exact hmv,hlv⟩
        b5:=by show Hd.get (H2.next + 1)=_;rw [oldd _ (by omega)];exact g55
        ba:=⟨la,by show Hd.get 2=_;rw [oldd _ (by omega)];exact g5a,hla⟩
        b6:=by show Hd.get (H2.next + 2)=_;rw [oldd _ (by omega)];exact g56
        bf:=by show Hd.get H2.next=_;rw [oldd _ (by omega)];exact g5f }
      have hd9:Hd.get H3.next=some (.cells [.int .i64 (wI w)] 0 true):=by rw [oldd _ (by omega)];exact g59
      have hd11:Hd.get H4.next=some (.cells g.cells 0 true):=by rw [oldd _ (by omega)];exact g511
      have hlX:∀ n,Hd.next ≤ n → RsLt ⟨H5.next,Hb.next,H2.next + 1,2,H2.next + 2,H2.next,H3.next⟩ n:=fun n hn=>⟨by show H5.next < n;omega,by show Hb.next < n;omega,by show H2.next + 1 < n;omega,by show 2 < n;omega,by show H2.next + 2 < n;omega,by show H2.next < n;omega⟩
      have hnX:RsNe ⟨H5.next,Hb.next,H2.next + 1,2,H2.next + 2,H2.next,H3.next⟩:=⟨by show H5.next ≠ H3.next;omega,by show Hb.next ≠ H3.next;omega,by show H2.next + 1 ≠ H3.next;omega,by show 2 ≠ H3.next;omega,by show H2.next + 2 ≠ H3.next;omega,by show H2.next ≠ H3.next;omega⟩
      clear g59 g55 g5a g56 g5f d12 oldd hmv hlv hla g511
      refine WpL.call rfl eVk eAk ?_;simp only [List.cons_append,List.nil_append,List.append_nil]
      refine WpCall.mono ?_ (walkExprs_wp hps (I:=fun H'=>Low Hd.next Hd H') (fun a b h1 h2=>h1.trans h2) (res1_wp (plainN (fun _=>rfl) rfl) (hlX _ (Nat.le_refl _)) (fun a b h1 h2=>h1.trans h2) fun H' h=>hok.low (hlX _ (Nat.le_refl _)) h) g Hd hfz (Nat.le_refl _) (Low.refl _ _))
      rintro v H6 ⟨rfl,hf6,hlow6⟩
      have n6:=hf6.next
      have hok6:=hok.low (hlX _ (Nat.le_refl _)) hlow6
      have h69:H6.get H3.next=some (.cells [.int .i64 (wI w)] 0 true):=by rw [hlow6 _ (by omega)];exact hd9
      have h611:H6.get H4.next=some (.cells g.cells 0 true):=by rw [hlow6 _ (by omega)];exact hd11
      clear hlow6 hf6 hok hd9 hd11
      dsimp only [setO]
      cases hwf:walkFn (fun x _=>defX (g.params ++ g.locals) (arNames p) x) g with
      | false =>
        repeat' (first
           | (apply Rx.nl ?_;clear hK K)|apply Rx.o ?_|apply Rx.on ?_|(apply Rx.gd (fun hg hgp=>?_) (fun hg hgp=>?_) <;> try (cases hg;done))|(apply Rx.cd (fun hb hbp=>?_) (fun hb hbp=>?_) <;> try (cases hb;done))|apply Wp.seq ?_|(apply Wp.ops' fun K hK=>?_)|(apply Rx.dr 6 fun K hK=>?_)|apply Wp.block ?_|apply Rx.sk ?_|apply Rx.rt ?_|apply Rx.xt ?_)
        all_goals (refine ⟨eI,_,eR,?_⟩;try simp only [oneOr])
        rw [hJ,hwf];simp
      | true =>
        rw [hwf] at hJ
        repeat' (first
           | (apply Rx.nl ?_;clear hK K)|apply Rx.o ?_|apply Rx.on ?_|(apply Rx.gd (fun hg hgp=>?_) (fun hg hgp=>?_) <;> try (cases hg;done))|(apply Rx.cd (fun hb hbp=>?_) (fun hb hbp=>?_) <;> try (cases hb;done))|apply Wp.seq ?_|(apply Wp.ops' fun K hK=>?_)|(apply Rx.dr 6 fun K hK=>?_)|apply Wp.block ?_|apply Rx.sk ?_|apply Rx.rt ?_|apply Rx.xt ?_)
        refine WpL.call rfl eVk eAk ?_;simp only [List.cons_append,List.nil_append,List.append_nil]
        refine WpCall.mono ?_ (walkStmts_wp (plainN (fun _=>rfl) rfl) (base:=H6.next) (I:=fun (w:Bool) H=>RsOk ⟨H5.next,Hb.next,H2.next + 1,2,H2.next + 2,H2.next,H3.next⟩ (g.params ++ g.locals) (arNames p) (fnPar p.funcs []) H ∧ H.get H3.next=some (.cells [.int .i64 (wI w)] 0 true)) (fun s a b h1 h2=>⟨h1.1.low (hlX _ n6) h2,by rw [h2 _ (by omega)];exact h1.2⟩) (res2_wp (plainN (fun _=>rfl) rfl) (hlX _ n6) (by show H3.next < _;omega) hnX) (stmtsSz g.body + 1) g.body (by omega) 0 w H6 (by omega) (Nat.le_refl _) ⟨hok6,h69⟩)
        rintro v H7 ⟨rfl,hf7,hok7,h79⟩
        have n7:=hf7.next
        dsimp only [setO]
        repeat' (first
           | (apply Rx.nl ?_;clear hK K)|apply Rx.o ?_|apply Rx.on ?_|(apply Rx.gd (fun hg hgp=>?_) (fun hg hgp=>?_) <;> try (cases hg;done))|(apply Rx.cd (fun hb hbp=>?_) (fun hb hbp=>?_) <;> try (cases hb;done))|apply Wp.seq ?_|(apply Wp.ops' fun K hK=>?_)|(apply Rx.dr 6 fun K hK=>?_)|apply Wp.block ?_|apply Rx.sk ?_|apply Rx.rt ?_|apply Rx.xt ?_)
        · all_goals (refine ⟨eI, _, eR, ?_⟩; try simp only [oneOr])
          rw [hJ];simp_all
        · refine ⟨by omega, eL, eL, eN, (by simp only [sB, Nat.reduceBEq, *]; exact i64_succ (n := p.funcs.length) (by omega) (by omega)), ?_⟩
          refine ⟨_,h79,?_,hok7.b5,hok7.ba,hok7.b6,hok7.bf⟩
          rw [hJ,if_pos ⟨rfl,by simp_all⟩]
    · repeat' (first
         | (apply Rx.nl ?_;clear hK K)|apply Rx.o ?_|apply Rx.on ?_|(apply Rx.gd (fun hg hgp=>?_) (fun hg hgp=>?_) <;> try (cases hg;done))|(apply Rx.cd (fun hb hbp=>?_) (fun hb hbp=>?_) <;> try (cases hb;done))|apply Wp.seq ?_|(apply Wp.ops' fun K hK=>?_)|(apply Rx.dr 6 fun K hK=>?_)|apply Wp.block ?_|apply Rx.sk ?_|apply Rx.rt ?_|apply Rx.xt ?_)
      all_goals (refine ⟨eI,_,eR,?_⟩;try simp only [oneOr])
      have hie:i=p.funcs.length:=by simp at hb;omega
      rw [hJ,hie,List.drop_length,resFns,wI])
end Go.Proofs.Ytpbcimfiofmoeaa
namespace Go.Proofs.Ytpbcimfiofmoeaa
set_option maxRecDepth 20000
set_option maxRecDepth 20000
open Go Go.Ab
namespace tyW4e
def tyF:=And.intro @tq3 (And.intro @tq9 (And.intro @tq32 (And.intro @tq40 (And.intro @tq42 (And.intro @tq47 (And.intro @tq48 (And.intro @tq51 (And.intro @tq53 (And.intro @tq55 (@tq74))))))))))
end tyW4e
open tyW4e
noncomputable def code43:{ c:SC // slim 68 (Try.f43.body.getD .skip)=c }:=by
 refine ⟨?_,?_⟩
 rotate_left
 · simp only [Try.f43, Option.getD_some, slim, slimR, slimL, slimD, slimG, Nat.blt, Nat.ble]
   rfl
theorem limits_wp {cfg : Cfg} (hp : Plains cfg) (hw : Plain cfg 43) (h1w : Plain cfg 73) (h2w : Plain cfg 75) (p : Pr) (hz : p.sz < 2 ^ 60) :
    WpCall Try.prog cfg 43 [.agg p.cells] H0 fun v _=>v=.bool (limP p):=by
  have hpz:p.sz=1 + arrsSz p.arrays + fnsSz p.funcs:=rfl
  have hla:=arrsSz_len p.arrays
  have hlf:=fnsSz_len p.funcs
  have hla2:p.arrays.length < 2 ^ 60:=by omega
  have hlf2:p.funcs.length < 2 ^ 60:=by omega
  refine WpCall.slim (M:=68) (rs:=[.tmp 2]) (hw.call _) hw.ice hw.froz Try.func43 rfl rfl code43.2 rfl ?_;dsimp only [code43,envOf,Nat.reduceAdd]
  repeat' (first
     | (apply Rx.nl ?_;clear hK K)|apply Rx.o ?_|apply Rx.on ?_|(apply Rx.gd (fun hg hgp=>?_) (fun hg hgp=>?_) <;> try (cases hg;done))|(apply Rx.cd (fun hb hbp=>?_) (fun hb hbp=>?_) <;> try (cases hb;done))|apply Wp.seq ?_|(apply Wp.ops' fun K hK=>?_)|apply Wp.block ?_|apply Rx.sk ?_|apply Rx.rt ?_|apply Rx.xt ?_)
  · all_goals (refine ⟨eI, _, eR, ?_⟩; try simp only [oneOr])
    simp_all [limP];try (intros;omega)
  · refine Wp.loopN (fun i E H => p.arrays.all (fun a => !decide (a.len < 1) && !decide (16 < a.len)) = (p.arrays.drop i).all (fun a => !decide (a.len < 1) && !decide (16 < a.len)) ∧ E.at 1 = .ptr 0 0 ∧ E.at 21 = .lst (p.arrays.map Ar.cells) ∧ E.at 22 = .int .i64 p.arrays.length ∧ E.at 23 = .int .i64 i ∧ 0 < H.next ∧ H.get 0 = some (.cells p.cells 0 true)) p.arrays.length ?_ ?_
    · rintro i E H hi ⟨hc, h1, h21, h22, h23, hn, hg0⟩
      have e0:(0 == H.next)=false:=by simp;omega
      repeat' (first
         | (apply Rx.nl ?_;clear hK K)|apply Rx.o ?_|apply Rx.on ?_|(apply Rx.gd (fun hg hgp=>?_) (fun hg hgp=>?_) <;> try (cases hg;done))|(apply Rx.cd (fun hb hbp=>?_) (fun hb hbp=>?_) <;> try (cases hb;done))|apply Wp.seq ?_|(apply Wp.ops' fun K hK=>?_)|apply Wp.block ?_|apply Rx.sk ?_|apply Rx.rt ?_|apply Rx.xt ?_)
      · have hlt : i < p.arrays.length := by simpa using hb
        have hgx:p.arrays[i]?=some p.arrays[i]:=List.getElem?_eq_getElem hlt
        have hd:(p.arrays.drop i).all (fun a=>!decide (a.len < 1) && !decide (16 < a.len))=((!decide (p.arrays[i].len < 1) && !decide (16 < p.arrays[i].len)) && (p.arrays.drop (i + 1)).all (fun a=>!decide (a.len < 1) && !decide (16 < a.len))):=by rw [List.drop_eq_getElem_cons hlt,List.all_cons]
        repeat' (first
           | (apply Rx.nl ?_;clear hK K)|apply Rx.o ?_|apply Rx.on ?_|(apply Rx.gd (fun hg hgp=>?_) (fun hg hgp=>?_) <;> try (cases hg;done))|(apply Rx.cd (fun hb hbp=>?_) (fun hb hbp=>?_) <;> try (cases hb;done))|apply Wp.seq ?_|(apply Wp.ops' fun K hK=>?_)|apply Wp.block ?_|apply Rx.sk ?_|apply Rx.rt ?_|apply Rx.xt ?_)
        · all_goals (refine ⟨eI, _, eR, ?_⟩; try simp only [oneOr])
          have hfa:p.arrays.all (fun a=>!decide (a.len < 1) && !decide (16 < a.len))=false:=by rw [hc,hd];simp_all
          simp only [limP,hfa];simp
        · refine ⟨hlt, ?_, eE, eE, eE, ?_, by simp only [Hp.next_set, Hp.next_alloc]; omega, eF⟩
          · rw [hc,hd];simp_all
          · simp only [at_set,Nat.reduceBEq,cond_true,wrap_succ (show i < 2 ^ 62 by omega)]
        · all_goals (refine ⟨eI, _, eR, ?_⟩; try simp only [oneOr])
          have hfa:p.arrays.all (fun a=>!decide (a.len < 1) && !decide (16 < a.len))=false:=by rw [hc,hd];simp_all
          simp only [limP,hfa];simp
      · have hia : i = p.arrays.length := by simp at hb; omega
        have hca:p.arrays.all (fun a=>!decide (a.len < 1) && !decide (16 < a.len))=true:=by rw [hc,hia];simp
        clear hc
        repeat' (first
           | (apply Rx.nl ?_;clear hK K)|apply Rx.o ?_|apply Rx.on ?_|(apply Rx.gd (fun hg hgp=>?_) (fun hg hgp=>?_) <;> try (cases hg;done))|(apply Rx.cd (fun hb hbp=>?_) (fun hb hbp=>?_) <;> try (cases hb;done))|apply Wp.seq ?_|(apply Wp.ops' fun K hK=>?_)|apply Wp.block ?_|apply Rx.sk ?_|apply Rx.rt ?_|apply Rx.xt ?_)
        refine Wp.loopN (fun i E H=>p.funcs.all limFn=(p.funcs.drop i).all limFn ∧ E.at 37=.lst (p.funcs.map Fu.cells) ∧ E.at 38=.int .i64 p.funcs.length ∧ E.at 39=.int .i64 i ∧ 0 < H.next) p.funcs.length ?_ ?_
        · rintro i E H hi ⟨hc, h37, h38, h39, hn⟩
          repeat' (first
             | (apply Rx.nl ?_;clear hK K)|apply Rx.o ?_|apply Rx.on ?_|(apply Rx.gd (fun hg hgp=>?_) (fun hg hgp=>?_) <;> try (cases hg;done))|(apply Rx.cd (fun hb hbp=>?_) (fun hb hbp=>?_) <;> try (cases hb;done))|apply Wp.seq ?_|(apply Wp.ops' fun K hK=>?_)|apply Wp.block ?_|apply Rx.sk ?_|apply Rx.rt ?_|apply Rx.xt ?_)
          · have hlt : i < p.funcs.length := by simpa using hb
            have hgx:p.funcs[i]?=some p.funcs[i]:=List.getElem?_eq_getElem hlt
            have hd:(p.funcs.drop i).all limFn=(limFn p.funcs[i] && (p.funcs.drop (i + 1)).all limFn):=by rw [List.drop_eq_getElem_cons hlt,List.all_cons]
            have hxm:=fnsSz_mem (List.getElem_mem hlt)
            generalize hx0:p.funcs[i]=x at *
            have hsx:x.sz=1 + x.name.length + strsSz x.params + strsSz x.locals + stmtsSz x.body + x.value.sz:=rfl
            repeat' (first
               | (apply Rx.nl ?_;clear hK K)|apply Rx.o ?_|apply Rx.on ?_|(apply Rx.gd (fun hg hgp=>?_) (fun hg hgp=>?_) <;> try (cases hg;done))|(apply Rx.cd (fun hb hbp=>?_) (fun hb hbp=>?_) <;> try (cases hb;done))|apply Wp.seq ?_|(apply Wp.ops' fun K hK=>?_)|apply Wp.block ?_|apply Rx.sk ?_|apply Rx.rt ?_|apply Rx.xt ?_)
            · generalize hH5 : Hp.set _ (H.next + 2) _ = H5
              have hn5:H5.next=H.next + 3:=by rw [← hH5];rfl
              have hg5a:H5.get H.next=some (.cells x.cells 0 true):=by rw [← hH5];simp only [get_set,get_alloc,Hp.next_alloc,Hp.next_set,nb1,nb2,nb3,Nat.add_assoc,Nat.reduceAdd,beq_self_eq_true,cond_true,cond_false,Nat.reduceBEq]
              have hg5b:H5.get (H.next + 1)=some (.cells [.int .i64 0] 0 true):=by rw [← hH5];simp only [get_set,get_alloc,Hp.next_alloc,Hp.next_set,nb1,nb2,nb3,Nat.add_assoc,Nat.reduceAdd,beq_self_eq_true,cond_true,cond_false,Nat.reduceBEq]
              have hg5c:H5.get (H.next + 2)=some (.cells [.int .i64 0] 0 true):=by rw [← hH5];simp only [get_set,get_alloc,Hp.next_alloc,Hp.next_set,nb1,nb2,nb3,Nat.add_assoc,Nat.reduceAdd,beq_self_eq_true,cond_true,cond_false,Nat.reduceBEq]
              refine WpL.call rfl eVk eAk ?_;simp only [List.cons_append,List.nil_append,List.append_nil]
              refine WpCall.mono ?_ (walkStmts_wp hp.ws (base:=H.next + 3) (fun s Ha Hb h hlow=>⟨by rw [hlow _ (by omega)];exact h.1,by rw [hlow _ (by omega)];exact h.2.1,fun r q1 q2 q3=>by rw [hlow r q1];exact h.2.2 r q1 q2 q3⟩) (lim1_wp h1w (base:=H.next + 3) (rn:=H.next + 1) (rl:=H.next + 2) (by omega) (by omega) (by omega) H5) (stmtsSz x.body + 1) x.body (by omega) 0 (0,0) H5 (by omega) (by omega) ⟨hg5b,hg5c,fun _ _ _ _=>rfl⟩)
              rintro v H6 ⟨rfl,hf6,hi6⟩
              have hn6:=hf6.next
              have hg6:H6.get H.next=some (.cells x.cells 0 true):=by rw [hi6.2.2 _ (by omega) (by omega) (by omega)];exact hg5a
              dsimp only [setO]
              repeat' (first
                 | (apply Rx.nl ?_;clear hK K)|apply Rx.o ?_|apply Rx.on ?_|(apply Rx.gd (fun hg hgp=>?_) (fun hg hgp=>?_) <;> try (cases hg;done))|(apply Rx.cd (fun hb hbp=>?_) (fun hb hbp=>?_) <;> try (cases hb;done))|apply Wp.seq ?_|(apply Wp.ops' fun K hK=>?_)|apply Wp.block ?_|apply Rx.sk ?_|apply Rx.rt ?_|apply Rx.xt ?_)
              · refine WpL.call rfl eVk eAk ?_; simp only [List.cons_append, List.nil_append, List.append_nil]
                refine WpCall.mono ?_ (walkExprs_wp hp (base:=0) (I:=fun _=>True) (fun _ _ _ _=>trivial) (lim2_wp h2w (fun _ _ _ _=>trivial)) x H6 (by omega) (by omega) trivial)
                rintro v H7 ⟨rfl,hf7,_⟩
                have hn7:=hf7.next
                dsimp only [setO]
                repeat' (first
                   | (apply Rx.nl ?_;clear hK K)|apply Rx.o ?_|apply Rx.on ?_|(apply Rx.gd (fun hg hgp=>?_) (fun hg hgp=>?_) <;> try (cases hg;done))|(apply Rx.cd (fun hb hbp=>?_) (fun hb hbp=>?_) <;> try (cases hb;done))|apply Wp.seq ?_|(apply Wp.ops' fun K hK=>?_)|apply Wp.block ?_|apply Rx.sk ?_|apply Rx.rt ?_|apply Rx.xt ?_)
                · all_goals (refine ⟨eI, _, eR, ?_⟩; try simp only [oneOr])
                  have hff:p.funcs.all limFn=false:=by rw [hc,hd];simp_all [limFn]
                  simp only [limP,hff];simp
                · refine ⟨hlt, ?_, eE, eE, ?_, by omega⟩
                  · rw [hc,hd];simp_all [limFn]
                  · simp only [at_set,Nat.reduceBEq,cond_true,wrap_succ (show i < 2 ^ 62 by omega)]
              · all_goals (refine ⟨eI, _, eR, ?_⟩; try simp only [oneOr])
                have hff:p.funcs.all limFn=false:=by rw [hc,hd];simp_all [limFn]
                simp only [limP,hff];simp
            · all_goals (refine ⟨eI, _, eR, ?_⟩; try simp only [oneOr])
              have hlx:limFn x=false:=by
                simp only [limFn,Bool.and_eq_false_iff,decide_eq_false_iff_not]
                first|exact .inl (.inl (.inl (by assumption)))|exact .inl (.inl (.inr (by assumption)))
              have hff:p.funcs.all limFn=false:=by rw [hc,hd,hlx,Bool.false_and]
              simp only [limP,hff];simp
            · all_goals (refine ⟨eI, _, eR, ?_⟩; try simp only [oneOr])
              have hlx:limFn x=false:=by
                simp only [limFn,Bool.and_eq_false_iff,decide_eq_false_iff_not]
                first|exact .inl (.inl (.inl (by assumption)))|exact .inl (.inl (.inr (by assumption)))
              have hff:p.funcs.all limFn=false:=by rw [hc,hd,hlx,Bool.false_and]
              simp only [limP,hff];simp
          · all_goals (refine ⟨eI, _, eR, ?_⟩; try simp only [oneOr])
            have:i=p.funcs.length:=by simp at hb;omega
            simp_all [limP];try (intros;omega)
        · exact ⟨rfl,eE,eE,eE,by omega⟩
    · exact ⟨rfl,eE,eE,eE,eE,by simp [Hp.next_alloc,H0_next],eF⟩
  · all_goals (refine ⟨eI, _, eR, ?_⟩; try simp only [oneOr])
    simp_all [limP];try (intros;omega)
end Go.Proofs.Ytpbcimfiofmoeaa
namespace Go.Proofs.Ytpbcimfiofmoeaa
set_option maxRecDepth 20000
set_option maxRecDepth 20000
open Go Go.Ab
namespace tyW4f
def tyF:=And.intro @tq3 (And.intro @tq5 (@tq9))
end tyW4f
open tyW4f
noncomputable def code151:{ c:SC // slim 21 (Try.f151.body.getD .skip)=c }:=by
 refine ⟨?_,?_⟩
 rotate_left
 · simp only [Try.f151, Option.getD_some, slim, slimR, slimL, slimD, slimG, Nat.blt, Nat.ble]
   rfl
noncomputable def code146:{ c:SC // slim 9 (Try.f146.body.getD .skip)=c }:=by
 refine ⟨?_,?_⟩
 rotate_left
 · simp only [Try.f146, Option.getD_some, slim, slimR, slimL, slimD, slimG, Nat.blt, Nat.ble]
   rfl
noncomputable def code144:{ c:SC // slim 23 (Try.f144.body.getD .skip)=c }:=by
 refine ⟨?_,?_⟩
 rotate_left
 · simp only [Try.f144, Option.getD_some, slim, slimR, slimL, slimD, slimG, Nat.blt, Nat.ble]
   rfl
noncomputable def code133:{ c:SC // slim 34 (Try.f133.body.getD .skip)=c }:=by
 refine ⟨?_,?_⟩
 rotate_left
 · simp only [Try.f133, Option.getD_some, slim, slimR, slimL, slimD, slimG, Nat.blt, Nat.ble]
   rfl
noncomputable def code147:{ c:SC // slim 37 (Try.f147.body.getD .skip)=c }:=by
 refine ⟨?_,?_⟩
 rotate_left
 · simp only [Try.f147, Option.getD_some, slim, slimR, slimL, slimD, slimG, Nat.blt, Nat.ble]
   rfl
theorem isLetter_wp {cfg:Cfg} (hw:Plain cfg 151) (n:Int) (H:Hp):WpCall Try.prog cfg 151 [.int .u8 n] H fun v H'=>v=.bool (letterI n) ∧ H'=H:=by
 refine WpCall.slim (M:=21) (rs:=[.tmp 2]) (hw.call _) hw.ice hw.froz Try.func151 rfl rfl code151.2 rfl ?_;dsimp only [code151,envOf,Nat.reduceAdd]
 repeat' (first
    | (apply Rx.nl ?_;clear hK K)|apply Rx.o ?_|apply Rx.gu ?_|(apply Rx.gd (fun hg hgp=>?_) (fun hg hgp=>?_) <;> try (cases hg;done))|apply Wp.seq ?_|(apply Wp.ops' fun K hK=>?_)|apply Rx.rt ?_)
 all_goals (refine ⟨eI,_,eR,?_⟩;try simp only [oneOr])
 all_goals (refine ⟨?_,by first|rfl|trivial⟩;simp_all [letterI] <;> omega)
theorem isDigit_wp {cfg:Cfg} (hw:Plain cfg 146) (n:Int) (H:Hp):WpCall Try.prog cfg 146 [.int .u8 n] H fun v H'=>v=.bool (digitI n) ∧ H'=H:=by
 refine WpCall.slim (M:=9) (rs:=[.tmp 2]) (hw.call _) hw.ice hw.froz Try.func146 rfl rfl code146.2 rfl ?_;dsimp only [code146,envOf,Nat.reduceAdd]
 repeat' (first
    | (apply Rx.nl ?_;clear hK K)|apply Rx.o ?_|(apply Rx.gd (fun hg hgp=>?_) (fun hg hgp=>?_) <;> try (cases hg;done))|apply Wp.seq ?_|(apply Wp.ops' fun K hK=>?_)|apply Rx.rt ?_)
 all_goals (refine ⟨eI,_,eR,?_⟩;try simp only [oneOr])
 all_goals (refine ⟨?_,by first|rfl|trivial⟩;simp_all [digitI] <;> omega)
theorem wordLen_wp {cfg : Cfg} (hw : Plain cfg 144) (hl : Plain cfg 151) (hd : Plain cfg 146) (s : List UInt8) (hs : s.length < 2 ^ 60) (H : Hp) :
    WpCall Try.prog cfg 144 [.str s] H fun v H'=>v=.int .i64 (wordN s) ∧ H'=H:=by
  refine WpCall.slim (M:=23) (rs:=[.tmp 2]) (hw.call _) hw.ice hw.froz Try.func144 rfl rfl code144.2 rfl ?_;dsimp only [code144,envOf,Nat.reduceAdd]
  repeat' (first
     | (apply Rx.nl ?_;clear hK K)|apply Rx.o ?_|apply Rx.gu ?_|(apply Rx.gd (fun hg hgp=>?_) (fun hg hgp=>?_) <;> try (cases hg;done))|(apply Rx.cd (fun hb hbp=>?_) (fun hb hbp=>?_) <;> try (cases hb;done))|apply Wp.seq ?_|(apply Wp.ops' fun K hK=>?_)|apply Wp.block ?_|apply Rx.sk ?_|apply Rx.rt ?_|apply Rx.xt ?_)
  refine Wp.loopN (fun i E H'=>wordN s=i + wordN (s.drop i) ∧ E.at 0=.str s ∧ E.at 3=.int .i64 i ∧ H'=H) s.length ?_ ?_
  · rintro i E H' hi ⟨hc, h0, h3, rfl⟩
    repeat' (first
       | (apply Rx.nl ?_;clear hK K)|apply Rx.o ?_|apply Rx.gu ?_|(apply Rx.gd (fun hg hgp=>?_) (fun hg hgp=>?_) <;> try (cases hg;done))|(apply Rx.cd (fun hb hbp=>?_) (fun hb hbp=>?_) <;> try (cases hb;done))|apply Wp.seq ?_|(apply Wp.ops' fun K hK=>?_)|apply Wp.block ?_|apply Rx.sk ?_|apply Rx.rt ?_|apply Rx.xt ?_)
    · have hlt : i < s.length := by omega
      have hgx:s[i]?=some s[i]:=List.getElem?_eq_getElem hlt
      have hdr:wordN (s.drop i)=if wordB s[i] then wordN (s.drop (i + 1)) + 1 else 0:=by rw [List.drop_eq_getElem_cons hlt,wordN]
      repeat' (first
         | (apply Rx.nl ?_;clear hK K)|apply Rx.o ?_|apply Rx.gu ?_|(apply Rx.gd (fun hg hgp=>?_) (fun hg hgp=>?_) <;> try (cases hg;done))|(apply Rx.cd (fun hb hbp=>?_) (fun hb hbp=>?_) <;> try (cases hb;done))|apply Wp.seq ?_|(apply Wp.ops' fun K hK=>?_)|apply Wp.block ?_|apply Rx.sk ?_|apply Rx.rt ?_|apply Rx.xt ?_)
      refine WpL.call rfl eVk eAk ?_;simp only [List.cons_append,List.nil_append,List.append_nil]
      refine WpCall.mono ?_ (isLetter_wp hl s[i].toNat H')
      rintro v _ ⟨rfl,rfl⟩
      dsimp only [setO]
      repeat' (first
         | (apply Rx.nl ?_;clear hK K)|apply Rx.o ?_|apply Rx.gu ?_|(apply Rx.gd (fun hg hgp=>?_) (fun hg hgp=>?_) <;> try (cases hg;done))|(apply Rx.cd (fun hb hbp=>?_) (fun hb hbp=>?_) <;> try (cases hb;done))|apply Wp.seq ?_|(apply Wp.ops' fun K hK=>?_)|apply Wp.block ?_|apply Rx.sk ?_|apply Rx.rt ?_|apply Rx.xt ?_)
      · refine WpL.call rfl eVk eAk ?_; simp only [List.cons_append, List.nil_append, List.append_nil]
        refine WpCall.mono ?_ (isDigit_wp hd s[i].toNat _)
        rintro v _ ⟨rfl,rfl⟩
        dsimp only [setO]
        repeat' (first
           | (apply Rx.nl ?_;clear hK K)|apply Rx.o ?_|apply Rx.gu ?_|(apply Rx.gd (fun hg hgp=>?_) (fun hg hgp=>?_) <;> try (cases hg;done))|(apply Rx.cd (fun hb hbp=>?_) (fun hb hbp=>?_) <;> try (cases hb;done))|apply Wp.seq ?_|(apply Wp.ops' fun K hK=>?_)|apply Wp.block ?_|apply Rx.sk ?_|apply Rx.rt ?_|apply Rx.xt ?_)
        · have hwb : wordB s[i] = true := by simp_all [wordB]
          refine ⟨hlt,?_,eE,?_,rfl⟩
          · rw [hc,hdr,hwb];simp;omega
          · simp only [at_set,Nat.reduceBEq,cond_true,wrap_succ (show i < 2 ^ 62 by omega)]
        · have hwb : wordB s[i] = false := by simp_all [wordB]
          all_goals (refine ⟨eI,_,eR,?_⟩;try simp only [oneOr])
          exact ⟨by rw [hc,hdr,hwb];simp,by first|rfl|trivial⟩
      · have hwb : wordB s[i] = true := by simp_all [wordB]
        refine ⟨hlt,?_,eE,?_,rfl⟩
        · rw [hc,hdr,hwb];simp;omega
        · simp only [at_set,Nat.reduceBEq,cond_true,wrap_succ (show i < 2 ^ 62 by omega)]
    · all_goals (refine ⟨eI, _, eR, ?_⟩; try simp only [oneOr])
      have hie:i=s.length:=by omega
      refine ⟨?_,by first|rfl|trivial⟩
      rw [hc,hie];simp [wordN]
  · exact ⟨by simp,eE,eE,rfl⟩
theorem spaceLen_wp {cfg : Cfg} (hw : Plain cfg 133) (s : List UInt8) (hs : s.length < 2 ^ 60) (H : Hp) :
    WpCall Try.prog cfg 133 [.str s] H fun v H'=>v=.int .i64 (spaceN false s) ∧ H'=H:=by
  refine WpCall.slim (M:=34) (rs:=[.tmp 2]) (hw.call _) hw.ice hw.froz Try.func133 rfl rfl code133.2 rfl ?_;dsimp only [code133,envOf,Nat.reduceAdd]
  repeat' (first
     | (apply Rx.nl ?_;clear hK K)|apply Rx.o ?_|(apply Rx.gd (fun hg hgp=>?_) (fun hg hgp=>?_) <;> try (cases hg;done))|(apply Rx.cd (fun hb hbp=>?_) (fun hb hbp=>?_) <;> try (cases hb;done))|apply Wp.seq ?_|(apply Wp.ops' fun K hK=>?_)|apply Wp.block ?_|apply Rx.sk ?_|apply Rx.rt ?_|apply Rx.xt ?_)
  refine Wp.loop (fun n E H'=>∃ i:Nat,n=s.length - i ∧ i ≤ s.length ∧ spaceN false s=i + spaceN false (s.drop i) ∧ E.at 0=.str s ∧ E.at 3=.int .i64 i ∧ H'=H) ?_ (n:=s.length) ?_
  · rintro n E H' ⟨i, rfl, hi, hc, h0, h3, rfl⟩
    repeat' (first
       | (apply Rx.nl ?_;clear hK K)|apply Rx.o ?_|(apply Rx.gd (fun hg hgp=>?_) (fun hg hgp=>?_) <;> try (cases hg;done))|(apply Rx.cd (fun hb hbp=>?_) (fun hb hbp=>?_) <;> try (cases hb;done))|apply Wp.seq ?_|(apply Wp.ops' fun K hK=>?_)|apply Wp.block ?_|apply Rx.sk ?_|apply Rx.rt ?_|apply Rx.xt ?_)
    · have hlt : i < s.length := by omega
      have hgx:s[i]?=some s[i]:=List.getElem?_eq_getElem hlt
      have hdr:spaceN false (s.drop i)=if blankB s[i] then spaceN false (s.drop (i + 1)) + 1 else if s[i].toNat=35 then spaceN true (s.drop (i + 1)) + 1 else 0:=by rw [List.drop_eq_getElem_cons hlt,spaceN]
      repeat' (first
         | (apply Rx.nl ?_;clear hK K)|apply Rx.o ?_|(apply Rx.gd (fun hg hgp=>?_) (fun hg hgp=>?_) <;> try (cases hg;done))|(apply Rx.cd (fun hb hbp=>?_) (fun hb hbp=>?_) <;> try (cases hb;done))|apply Wp.seq ?_|(apply Wp.ops' fun K hK=>?_)|apply Wp.block ?_|apply Rx.sk ?_|apply Rx.rt ?_|apply Rx.xt ?_)
      · have hbl : blankB s[i] = true := by unfold blankB; simp; omega
        refine ⟨s.length - (i + 1),by omega,i + 1,rfl,by omega,?_,eE,?_,rfl⟩
        · rw [hc,hdr,if_pos hbl];omega
        · simp only [at_set,Nat.reduceBEq,cond_true,wrap_succ (show i < 2 ^ 62 by omega)]
      · have hbl : blankB s[i] = true := by unfold blankB; simp; omega
        refine ⟨s.length - (i + 1),by omega,i + 1,rfl,by omega,?_,eE,?_,rfl⟩
        · rw [hc,hdr,if_pos hbl];omega
        · simp only [at_set,Nat.reduceBEq,cond_true,wrap_succ (show i < 2 ^ 62 by omega)]
      · have hbl : blankB s[i] = true := by unfold blankB; simp; omega
        refine ⟨s.length - (i + 1),by omega,i + 1,rfl,by omega,?_,eE,?_,rfl⟩
        · rw [hc,hdr,if_pos hbl];omega
        · simp only [at_set,Nat.reduceBEq,cond_true,wrap_succ (show i < 2 ^ 62 by omega)]
      · have hbl : blankB s[i] = true := by unfold blankB; simp; omega
        refine ⟨s.length - (i + 1),by omega,i + 1,rfl,by omega,?_,eE,?_,rfl⟩
        · rw [hc,hdr,if_pos hbl];omega
        · simp only [at_set,Nat.reduceBEq,cond_true,wrap_succ (show i < 2 ^ 62 by omega)]
      · have hb35 : s[i].toNat = 35 := by omega
        have hbl:blankB s[i]=false:=by unfold blankB;simp;omega
        have hln:lineN (s.drop i)=lineN (s.drop (i + 1)) + 1:=by rw [List.drop_eq_getElem_cons hlt,lineN,if_neg (by omega)]
        have hsp:spaceN false s=i + lineN (s.drop i) + spaceN false (s.drop (i + lineN (s.drop i))):=by
          rw [hc,hdr,hbl,if_neg (by simp),if_pos hb35,spaceN_true,List.drop_drop,hln,show i + 1 + lineN (s.drop (i + 1))=i + (lineN (s.drop (i + 1)) + 1) by omega];omega
        have hle:=lineN_le (s.drop i)
        rw [List.length_drop] at hle
        refine Wp.loop (fun n E H''=>∃ j:Nat,n=s.length - j ∧ i ≤ j ∧ j ≤ s.length ∧ i + lineN (s.drop i)=j + lineN (s.drop j) ∧ E.at 0=.str s ∧ E.at 3=.int .i64 j ∧ H''=H') ?_ (n:=s.length - i) ?_
        · rintro n E2 H2 ⟨j, rfl, hij, hj, hlj, k0, k3, rfl⟩
          repeat' (first
             | (apply Rx.nl ?_;clear hK K)|apply Rx.o ?_|(apply Rx.gd (fun hg hgp=>?_) (fun hg hgp=>?_) <;> try (cases hg;done))|(apply Rx.cd (fun hb hbp=>?_) (fun hb hbp=>?_) <;> try (cases hb;done))|apply Wp.seq ?_|(apply Wp.ops' fun K hK=>?_)|apply Wp.block ?_|apply Rx.sk ?_|apply Rx.rt ?_|apply Rx.xt ?_)
          · have hlt2 : j < s.length := by omega
            have hgx2:s[j]?=some s[j]:=List.getElem?_eq_getElem hlt2
            have hdj:lineN (s.drop j)=if s[j].toNat=10 then 0 else lineN (s.drop (j + 1)) + 1:=by rw [List.drop_eq_getElem_cons hlt2,lineN]
            repeat' (first
               | (apply Rx.nl ?_;clear hK K)|apply Rx.o ?_|(apply Rx.gd (fun hg hgp=>?_) (fun hg hgp=>?_) <;> try (cases hg;done))|(apply Rx.cd (fun hb hbp=>?_) (fun hb hbp=>?_) <;> try (cases hb;done))|apply Wp.seq ?_|(apply Wp.ops' fun K hK=>?_)|apply Wp.block ?_|apply Rx.sk ?_|apply Rx.rt ?_|apply Rx.xt ?_)
            · refine ⟨s.length - (j + 1), by omega, j + 1, rfl, by omega, by omega, ?_, eE, ?_, rfl⟩
              · rw [hlj,hdj,if_neg (by simp_all;omega)];omega
              · simp only [at_set,Nat.reduceBEq,cond_true,wrap_succ (show j < 2 ^ 62 by omega)]
            · have h10 : s[j].toNat = 10 := by simp_all; omega
              rw [hdj,if_pos h10,Nat.add_zero] at hlj
              refine ⟨s.length - j,by omega,j,rfl,by omega,?_,eE,eE,by first|rfl|trivial⟩
              rw [hsp,hlj]
          · have hje : j = s.length := by omega
            have h0j:lineN (s.drop j)=0:=by rw [hje];simp [lineN]
            rw [h0j,Nat.add_zero] at hlj
            refine ⟨s.length - j,by omega,j,rfl,by omega,?_,eE,eE,by first|rfl|trivial⟩
            rw [hsp,hlj]
        · exact ⟨i,rfl,by omega,by omega,rfl,eE,eE,rfl⟩
      · have hbl : blankB s[i] = false := by unfold blankB; simp; omega
        all_goals (refine ⟨eI,_,eR,?_⟩;try simp only [oneOr])
        refine ⟨?_,by first|rfl|trivial⟩
        rw [hc,hdr,hbl,if_neg (by simp),if_neg (by omega)];simp
    · all_goals (refine ⟨eI, _, eR, ?_⟩; try simp only [oneOr])
      have hie:i=s.length:=by omega
      refine ⟨?_,by first|rfl|trivial⟩
      rw [hc,hie];simp [spaceN]
  · exact ⟨0,by simp,by omega,by simp,eE,eE,rfl⟩
end Go.Proofs.Ytpbcimfiofmoeaa
namespace Go.Proofs.Ytpbcimfiofmoeaa
set_option maxRecDepth 20000
set_option maxRecDepth 20000
open Go Go.Ab
namespace tyW4g
def tyF:=And.intro @tq3 (And.intro @tq9 (And.intro @tq44 (And.intro @tq63 (And.intro @tq90 (And.intro @tq119 (And.intro @tq5 (And.intro @tq182 (And.intro @bin_sle (And.intro @slice_hi (@Try.underlying9))))))))))
end tyW4g
open tyW4g
noncomputable def code145:{ c:SC // slim 35 (Try.f145.body.getD .skip)=c }:=by
 refine ⟨?_,?_⟩
 rotate_left
 · simp only [Try.f145, Option.getD_some, slim, slimR, slimL, slimD, slimG, Nat.blt, Nat.ble]
   rfl
noncomputable def code134:{ c:SC // slim 41 (Try.f134.body.getD .skip)=c }:=by
 refine ⟨?_,?_⟩
 rotate_left
 · simp only [Try.f134, Option.getD_some, slim, slimR, slimL, slimD, slimG, Nat.blt, Nat.ble]
   rfl
noncomputable def code112:{ c:SC // slim 49 (Try.f112.body.getD .skip)=c }:=by
 refine ⟨?_,?_⟩
 rotate_left
 · simp only [Try.f112, Option.getD_some, slim, slimR, slimL, slimD, slimG, Nat.blt, Nat.ble]
   rfl
theorem validNumber_wp {cfg : Cfg} (hw : Plain cfg 147) (hd : Plain cfg 146) (s : List UInt8) (h0 : s ≠ []) (hs : s.length < 2 ^ 60) (H : Hp) :
    WpCall Try.prog cfg 147 [.str s] H fun v H'=>(∃ b,v=.bool b) ∧ H'=H:=by
  have hpos:0 < s.length:=List.length_pos_iff.2 h0
  have hg0:s[0]?=some s[0]:=List.getElem?_eq_getElem hpos
  refine WpCall.slim (M:=37) (rs:=[.tmp 2]) (hw.call _) hw.ice hw.froz Try.func147 rfl rfl code147.2 rfl ?_;dsimp only [code147,envOf,Nat.reduceAdd]
  repeat' (first
     | (apply Rx.nl ?_;clear hK K)|apply Rx.o ?_|(apply Rx.cd (fun hb hbp=>?_) (fun hb hbp=>?_) <;> try (cases hb;done))|apply Wp.seq ?_|(apply Wp.ops' fun K hK=>?_)|apply Wp.block ?_|apply Rx.sk ?_|apply Rx.rt ?_|apply Rx.xt ?_)
  refine Wp.loopN (fun i E H'=>E.at 0=.str s ∧ E.at 3=.int .i64 i ∧ H'=H) s.length ?_ ?_
  · rintro i E H' hi ⟨k0, k3, rfl⟩
    repeat' (first
       | (apply Rx.nl ?_;clear hK K)|apply Rx.o ?_|(apply Rx.cd (fun hb hbp=>?_) (fun hb hbp=>?_) <;> try (cases hb;done))|apply Wp.seq ?_|(apply Wp.ops' fun K hK=>?_)|apply Wp.block ?_|apply Rx.sk ?_|apply Rx.rt ?_|apply Rx.xt ?_)
    · have hlt : i < s.length := by omega
      have hgx:s[i]?=some s[i]:=List.getElem?_eq_getElem hlt
      repeat' (first
         | (apply Rx.nl ?_;clear hK K)|apply Rx.o ?_|(apply Rx.cd (fun hb hbp=>?_) (fun hb hbp=>?_) <;> try (cases hb;done))|apply Wp.seq ?_|(apply Wp.ops' fun K hK=>?_)|apply Wp.block ?_|apply Rx.sk ?_|apply Rx.rt ?_|apply Rx.xt ?_)
      refine WpL.call rfl eVk eAk ?_;simp only [List.cons_append,List.nil_append,List.append_nil]
      refine WpCall.mono ?_ (isDigit_wp hd s[i].toNat H')
      rintro v _ ⟨rfl,rfl⟩
      dsimp only [setO]
      repeat' (first
         | (apply Rx.nl ?_;clear hK K)|apply Rx.o ?_|(apply Rx.cd (fun hb hbp=>?_) (fun hb hbp=>?_) <;> try (cases hb;done))|apply Wp.seq ?_|(apply Wp.ops' fun K hK=>?_)|apply Wp.block ?_|apply Rx.sk ?_|apply Rx.rt ?_|apply Rx.xt ?_)
      · all_goals (refine ⟨eI, _, eR, ?_⟩; try simp only [oneOr])
        exact ⟨⟨_,rfl⟩,by first|rfl|trivial⟩
      · refine ⟨hlt, eE, ?_, by first | rfl | trivial⟩
        simp only [at_set,Nat.reduceBEq,cond_true,wrap_succ (show i < 2 ^ 62 by omega)]
    · repeat' (first
         | (apply Rx.nl ?_;clear hK K)|apply Ry.o ?_|apply Ry.gu ?_|(apply Ry.gd (fun hg hgp=>?_) (fun hg hgp=>?_) <;> try (cases hg;done))|apply Wp.seq ?_|(apply Wp.ops' fun K hK=>?_)|apply Wp.block ?_|apply Rx.sk ?_|apply Rx.rt ?_|apply Rx.xt ?_)
      all_goals (refine ⟨eI,_,eR,?_⟩;try simp only [oneOr])
      all_goals exact ⟨⟨_,rfl⟩,by first|rfl|trivial⟩
  · exact ⟨eE,eE,rfl⟩
def symsL:List (List UInt8):=[[62,62,62],[60,60],[62,62],[60,61],[62,61],[61,61],[33,61]]
theorem symbolLen_wp {cfg : Cfg} (hw : Plain cfg 145) (hplan : ∀ id, cfg.plan 145 id = .text) (s : List UInt8) (h0 : s ≠ []) (hs : s.length < 2 ^ 60) (H : Hp) :
    WpCall Try.prog cfg 145 [.str s] H fun v H'=>(∃ n:Nat,v=.int .i64 n ∧ n ≤ s.length) ∧ H'=H:=by
  have hpos:0 < s.length:=List.length_pos_iff.2 h0
  have hg0:s[0]?=some s[0]:=List.getElem?_eq_getElem hpos
  have hbld:buildA Try.prog 182 [(0,.str [62,62,62]),(1,.str [60,60]),(2,.str [62,62]),(3,.str [60,61]),(4,.str [62,61]),(5,.str [61,61]),(6,.str [33,61])]=some (.agg [.str [62,62,62],.str [60,60],.str [62,62],.str [60,61],.str [62,61],.str [61,61],.str [33,61]]):=by kernel_rfl
  refine WpCall.slim (M:=35) (rs:=[.tmp 2]) (hw.call _) hw.ice hw.froz Try.func145 rfl rfl code145.2 rfl ?_;dsimp only [code145,envOf,Nat.reduceAdd]
  repeat' (first
     | (apply Rx.nl ?_;clear hK K)|apply Rx.o ?_|(apply Rx.gd (fun hg hgp=>?_) (fun hg hgp=>?_) <;> try (cases hg;done))|(apply Rx.cd (fun hb hbp=>?_) (fun hb hbp=>?_) <;> try (cases hb;done))|apply Wp.seq ?_|(apply Wp.ops' fun K hK=>?_)|(apply Rx.dr 10 fun K hK=>?_)|apply Wp.block ?_|apply Rx.sk ?_|apply Rx.rt ?_|apply Rx.xt ?_)
  refine Wp.loopN (fun i E H'=>E.at 0=.str s ∧ E.at 6=.agg [.str [62,62,62],.str [60,60],.str [62,62],.str [60,61],.str [62,61],.str [61,61],.str [33,61]] ∧ E.at 7=.int .i64 i ∧ H'=H) 7 ?_ ?_
  · rintro i E H' hi ⟨k0, k6, k7, rfl⟩
    repeat' (first
       | (apply Rx.nl ?_;clear hK K)|apply Rx.o ?_|(apply Rx.gd (fun hg hgp=>?_) (fun hg hgp=>?_) <;> try (cases hg;done))|(apply Rx.cd (fun hb hbp=>?_) (fun hb hbp=>?_) <;> try (cases hb;done))|apply Wp.seq ?_|(apply Wp.ops' fun K hK=>?_)|(apply Rx.dr 10 fun K hK=>?_)|apply Wp.block ?_|apply Rx.sk ?_|apply Rx.rt ?_|apply Rx.xt ?_)
    · have hlt : i < 7 := by omega
      have hix:∃ w:List UInt8,indexA Try.prog 182 (.agg [.str [62,62,62],.str [60,60],.str [62,62],.str [60,61],.str [62,61],.str [61,61],.str [33,61]]) (.int .i64 i)=some (.str w):=by
        refine ⟨symsL.getD i [],?_⟩
        rcases (show i=0 ∨ i=1 ∨ i=2 ∨ i=3 ∨ i=4 ∨ i=5 ∨ i=6 by omega) with rfl|rfl|rfl|rfl|rfl|rfl|rfl <;> kernel_rfl
      obtain ⟨w,hw1⟩:=hix
      repeat' (first
         | (apply Rx.nl ?_;clear hK K)|apply Rx.o ?_|(apply Rx.gd (fun hg hgp=>?_) (fun hg hgp=>?_) <;> try (cases hg;done))|(apply Rx.cd (fun hb hbp=>?_) (fun hb hbp=>?_) <;> try (cases hb;done))|apply Wp.seq ?_|(apply Wp.ops' fun K hK=>?_)|(apply Rx.dr 10 fun K hK=>?_)|apply Wp.block ?_|apply Rx.sk ?_|apply Rx.rt ?_|apply Rx.xt ?_)
      · have hwl : w.length ≤ s.length := by omega
        repeat' (first
           | (apply Rx.nl ?_;clear hK K)|apply Rx.o ?_|(apply Rx.gd (fun hg hgp=>?_) (fun hg hgp=>?_) <;> try (cases hg;done))|(apply Rx.cd (fun hb hbp=>?_) (fun hb hbp=>?_) <;> try (cases hb;done))|apply Wp.seq ?_|(apply Wp.ops' fun K hK=>?_)|(apply Rx.dr 10 fun K hK=>?_)|apply Wp.block ?_|apply Rx.sk ?_|apply Rx.rt ?_|apply Rx.xt ?_)
        · all_goals (refine ⟨eI, _, eR, ?_⟩; try simp only [oneOr])
          exact ⟨⟨w.length,rfl,hwl⟩,by first|rfl|trivial⟩
        · refine ⟨hlt, eE, eE, ?_, by first | rfl | trivial⟩
          simp only [at_set,Nat.reduceBEq,cond_true,wrap_succ (show i < 2 ^ 62 by omega)]
      · refine ⟨hlt, eE, eE, ?_, by first | rfl | trivial⟩
        simp only [at_set,Nat.reduceBEq,cond_true,wrap_succ (show i < 2 ^ 62 by omega)]
    · repeat' (first
         | (apply Rx.nl ?_;clear hK K)|apply Rx.o ?_|(apply Rx.gd (fun hg hgp=>?_) (fun hg hgp=>?_) <;> try (cases hg;done))|(apply Rx.cd (fun hb hbp=>?_) (fun hb hbp=>?_) <;> try (cases hb;done))|apply Wp.seq ?_|(apply Wp.ops' fun K hK=>?_)|(apply Rx.dr 10 fun K hK=>?_)|apply Wp.block ?_|apply Rx.sk ?_|apply Rx.rt ?_|apply Rx.xt ?_)
      refine Wp.loopN (fun i E H''=>E.at 0=.str s ∧ E.at 5=.int .i64 i ∧ H''=H') 23 ?_ ?_
      · rintro j E H'' hj ⟨k0, k5, rfl⟩
        repeat' (first
           | (apply Rx.nl ?_;clear hK K)|apply Rx.o ?_|(apply Rx.gd (fun hg hgp=>?_) (fun hg hgp=>?_) <;> try (cases hg;done))|(apply Rx.cd (fun hb hbp=>?_) (fun hb hbp=>?_) <;> try (cases hb;done))|apply Wp.seq ?_|(apply Wp.ops' fun K hK=>?_)|(apply Rx.dr 10 fun K hK=>?_)|apply Wp.block ?_|apply Rx.sk ?_|apply Rx.rt ?_|apply Rx.xt ?_)
        · have hlt : j < 23 := by omega
          have hg1:∃ b,([43,45,42,47,37,38,124,94,126,33,60,62,61,63,58,59,44,40,41,123,125,91,93]:List UInt8)[j]?=some b:=by
            rw [List.getElem?_eq_getElem (by simpa using hlt)];exact ⟨_,rfl⟩
          obtain ⟨b,hg1⟩:=hg1
          repeat' (first
             | (apply Rx.nl ?_;clear hK K)|apply Ry.o ?_|(apply Ry.cd (fun hb hbp=>?_) (fun hb hbp=>?_) <;> try (cases hb;done))|apply Wp.seq ?_|(apply Wp.ops' fun K hK=>?_)|(apply Rx.dr 10 fun K hK=>?_)|apply Wp.block ?_|apply Rx.sk ?_|apply Rx.rt ?_|apply Rx.xt ?_)
          · all_goals (refine ⟨eI, _, eR, ?_⟩; try simp only [oneOr])
            exact ⟨⟨1,rfl,hpos⟩,by first|rfl|trivial⟩
          · refine ⟨hlt, eE, ?_, by first | rfl | trivial⟩
            simp only [at_set,Nat.reduceBEq,cond_true,wrap_succ (show j < 2 ^ 62 by omega)]
        · all_goals (refine ⟨eI, _, eR, ?_⟩; try simp only [oneOr])
          exact ⟨⟨0,rfl,Nat.zero_le _⟩,by first|rfl|trivial⟩
      · exact ⟨eE,eE,rfl⟩
  · exact ⟨eE,eE,eE,rfl⟩
end Go.Proofs.Ytpbcimfiofmoeaa
namespace Go.Proofs.Ytpbcimfiofmoeaa
set_option maxRecDepth 20000
set_option maxRecDepth 20000
open Go Go.Ab
namespace tyW4h
def tyF:=And.intro @tq3 (And.intro @tq9 (And.intro @tq119 (And.intro @slice_hi (@Try.underlying9))))
end tyW4h
open tyW4h
structure Lexers (cfg:Cfg):Prop where
 let_:Plain cfg 151
 dig:Plain cfg 146
 word:Plain cfg 144
 space:Plain cfg 133
 num:Plain cfg 147
 sym:Plain cfg 145
 first:Plain cfg 134
 scan:Plain cfg 112
 plan:∀ id,cfg.plan 145 id=.text
 keep:cfg.keep 112=false
theorem bld96_2 (a:Int) (x:List UInt8):buildA Try.prog 119 [(0,.int .i64 a),(1,.str x)]=some (.agg [.int .i64 a,.str x,.int .i64 0]):=by kernel_rfl
theorem bld96_0:buildA Try.prog 119 []=some (.agg [.int .i64 0,.str [],.int .i64 0]):=by kernel_rfl
theorem agg3 (a b c:AV):aggA 3 [a,b,c]=some (.agg [a,b,c]):=rfl
theorem frB2 (H:Hp) (a b:HB):FrB 0 H ((H.alloc a).set H.next b):=((FrB.refl _ _).alloc _).set (.inl (Nat.le_refl _)) _
theorem first_wp {cfg : Cfg} (hx : Lexers cfg) (s : List UInt8) (h0 : s ≠ []) (hs : s.length < 2 ^ 60) (H : Hp) :
    WpCall Try.prog cfg 134 [.str s] H fun v H'=>(∃ k e,v=.tup [.agg k.cells,.int .i64 e] ∧ FirstR s k e) ∧ FrB 0 H H':=by
  have hw:=hx.first
  have hpos:0 < s.length:=List.length_pos_iff.2 h0
  have hg0:s[0]?=some s[0]:=List.getElem?_eq_getElem hpos
  have hwl:=wordN_le s
  refine WpCall.slim (M:=41) (rs:=[.cell 2 119,.tmp 3]) (hw.call _) hw.ice hw.froz Try.func134 rfl rfl code134.2 rfl ?_;dsimp only [code134,envOf,Nat.reduceAdd]
  repeat' (first
     | (apply Rx.nl ?_;clear hK K)|apply Rx.o ?_|apply Rx.on ?_|(apply Rx.cd (fun hb hbp=>?_) (fun hb hbp=>?_) <;> try (cases hb;done))|apply Wp.seq ?_|(apply Wp.ops' fun K hK=>?_)|apply Wp.block ?_|apply Rx.sk ?_|apply Rx.rt ?_)
  refine WpL.call rfl eVk eAk ?_;simp only [List.cons_append,List.nil_append,List.append_nil]
  refine WpCall.mono ?_ (wordLen_wp hx.word hx.let_ hx.dig s hs _)
  rintro v _ ⟨rfl,rfl⟩
  dsimp only [setO]
  have gh0:=@bld96_2
  have gh1:=@bld96_0
  repeat' (first
     | (apply Rx.nl ?_;clear hK K)|apply Ry.o ?_|(apply Ry.cd (fun hb hbp=>?_) (fun hb hbp=>?_) <;> try (cases hb;done))|apply Wp.seq ?_|(apply Wp.ops' fun K hK=>?_)|apply Wp.block ?_|apply Rx.sk ?_|apply Rx.rt ?_)
  · refine WpL.call rfl eVk eAk ?_; simp only [List.cons_append, List.nil_append, List.append_nil]
    refine WpCall.mono ?_ (symbolLen_wp hx.sym hx.plan s h0 hs _)
    rintro v _ ⟨⟨n,rfl,hn⟩,rfl⟩
    dsimp only [setO]
    have gh0:=@bld96_2
    have gh1:=@bld96_0
    repeat' (first
       | (apply Rx.nl ?_;clear hK K)|apply Rx.o ?_|apply Rx.on ?_|(apply Rx.cd (fun hb hbp=>?_) (fun hb hbp=>?_) <;> try (cases hb;done))|apply Wp.seq ?_|(apply Wp.ops' fun K hK=>?_)|apply Wp.block ?_|apply Rx.sk ?_|apply Rx.rt ?_)
    · refine ⟨eI, _, (by (try simp only [sB, sO, Nat.reduceBEq, Nat.reduceAdd, Nat.reduceLeDiff, tyF, resultsA, resultA, agg3, *]); first | done | with_reducible rfl), ?_⟩; try simp only [oneOr]
      exact ⟨⟨⟨0,[],0⟩,2,rfl,rfl,by simp,fun h1=>by omega⟩,frB2 _ _ _⟩
    · refine ⟨eI, _, (by (try simp only [sB, sO, Nat.reduceBEq, Nat.reduceAdd, Nat.reduceLeDiff, tyF, resultsA, resultA, agg3, *]); first | done | with_reducible rfl), ?_⟩; try simp only [oneOr]
      refine ⟨⟨⟨3,s.take n,0⟩,0,rfl,rfl,fun _=>⟨n,by omega,hn,rfl,by simp⟩,fun h1=>by omega⟩,frB2 _ _ _⟩
  · refine WpL.call rfl eVk eAk ?_; simp only [List.cons_append, List.nil_append, List.append_nil]
    refine WpCall.mono ?_ (isDigit_wp hx.dig s[0].toNat _)
    rintro v _ ⟨rfl,rfl⟩
    dsimp only [setO]
    have hsl:=slice_hi (P:=Try.prog) (k:=.i64) (s:=s) Try.underlying9 hwl
    have gh0:=@bld96_2
    have gh1:=@bld96_0
    repeat' (first
       | (apply Rx.nl ?_;clear hK K)|apply Rx.o ?_|apply Rx.on ?_|(apply Rx.cd (fun hb hbp=>?_) (fun hb hbp=>?_) <;> try (cases hb;done))|apply Wp.seq ?_|(apply Wp.ops' fun K hK=>?_)|apply Wp.block ?_|apply Rx.sk ?_|apply Rx.rt ?_)
    · have hne : s.take (wordN s) ≠ [] := by
        intro h
        have:=congrArg List.length h
        rw [List.length_take,Nat.min_eq_left hwl,List.length_nil] at this
        omega
      refine WpL.call rfl eVk eAk ?_;simp only [List.cons_append,List.nil_append,List.append_nil]
      refine WpCall.mono ?_ (validNumber_wp hx.num hx.dig (s.take (wordN s)) hne (by rw [List.length_take];omega) _)
      rintro v _ ⟨⟨ok,rfl⟩,rfl⟩
      dsimp only [setO]
      have gh0:=@bld96_2
      have gh1:=@bld96_0
      repeat' (first
         | (apply Rx.nl ?_;clear hK K)|apply Rx.o ?_|apply Rx.on ?_|(apply Rx.cd (fun hb hbp=>?_) (fun hb hbp=>?_) <;> try (cases hb;done))|apply Wp.seq ?_|(apply Wp.ops' fun K hK=>?_)|apply Wp.block ?_|apply Rx.sk ?_|apply Rx.rt ?_)
      · refine ⟨eI, _, (by (try simp only [sB, sO, Nat.reduceBEq, Nat.reduceAdd, Nat.reduceLeDiff, tyF, resultsA, resultA, agg3, *]); first | done | with_reducible rfl), ?_⟩; try simp only [oneOr]
        refine ⟨⟨⟨0,[],0⟩,2,rfl,rfl,by simp,fun h1 h2 h3=>?_⟩,frB2 _ _ _⟩
        have:=h3 _ hg0
        simp_all
      · refine ⟨eI, _, (by (try simp only [sB, sO, Nat.reduceBEq, Nat.reduceAdd, Nat.reduceLeDiff, tyF, resultsA, resultA, agg3, *]); first | done | with_reducible rfl), ?_⟩; try simp only [oneOr]
        refine ⟨⟨⟨2,s.take (wordN s),0⟩,0,rfl,rfl,fun _=>⟨wordN s,by omega,hwl,rfl,by simp⟩,fun h1 h2 h3=>?_⟩,frB2 _ _ _⟩
        have:=h3 _ hg0
        simp_all
    · refine ⟨eI, _, (by (try simp only [sB, sO, Nat.reduceBEq, Nat.reduceAdd, Nat.reduceLeDiff, tyF, resultsA, resultA, agg3, *]); first | done | with_reducible rfl), ?_⟩; try simp only [oneOr]
      exact ⟨⟨⟨0,[],0⟩,6,rfl,rfl,by simp,fun h1 h2=>by omega⟩,frB2 _ _ _⟩
    · refine ⟨eI, _, (by (try simp only [sB, sO, Nat.reduceBEq, Nat.reduceAdd, Nat.reduceLeDiff, tyF, resultsA, resultA, agg3, *]); first | done | with_reducible rfl), ?_⟩; try simp only [oneOr]
      refine ⟨⟨⟨1,s.take (wordN s),0⟩,0,rfl,rfl,fun _=>⟨wordN s,by omega,hwl,rfl,fun _=>⟨rfl,by omega,fun b hb=>?_⟩⟩,fun _ _ _=>⟨rfl,rfl⟩⟩,frB2 _ _ _⟩
      rw [hg0] at hb
      simp only [Option.some.injEq] at hb
      subst hb
      assumption
end Go.Proofs.Ytpbcimfiofmoeaa
namespace Go.Proofs.Ytpbcimfiofmoeaa
set_option maxRecDepth 20000
set_option maxRecDepth 20000
open Go Go.Ab
namespace tyW4i
def tyF:=And.intro @tq3 (And.intro @tq9 (And.intro @tq44 (And.intro @tq63 (And.intro @tq90 (@tq119)))))
end tyW4i
open tyW4i
theorem bld92_2 (a b:Int):buildA Try.prog 63 [(0,.int .i64 a),(1,.int .i64 b)]=some (.agg [.int .i64 a,.int .i64 b]):=by kernel_rfl
theorem bld92_0:buildA Try.prog 63 []=some (.agg [.int .i64 0,.int .i64 0]):=by kernel_rfl
theorem agg2 (a b:AV):aggA 2 [a,b]=some (.agg [a,b]):=rfl
theorem tk_at (k:Tk) (x:Int):List.take 2 k.cells ++ [.int .i64 x] ++ List.drop 3 k.cells=(Tk.mk k.kind k.text x).cells:=rfl
theorem bs90 (H:Hp) (k:Tk):buildSliceA Try.prog H 90 1 [(0,.agg k.cells)]=some (.sl H.next 0 1 3,H.alloc (.cells k.cells 0 true)):=by kernel_rfl
theorem tok_append {H0 H:Hp} {lv:AV} {ts:List Tk} (hrep:TokRep H0.next H lv ts) (hf:FrB 0 H0 H) (hlo:H0.next < H.next) (k:Tk) {r':Nat} (hg:H.get r'=some (.cells k.cells 0 true)) (hb:ts.length < 2 ^ 40) :
   ∃ H6,appendA Try.prog false H 90 90 lv (.sl r' 0 1 3)=some (.sl H.next 0 (ts.length + 1) 3,H6) ∧ H6.next=H.next + 1 ∧ TokRep H0.next H6 (.sl H.next 0 (ts.length + 1) 3) (ts ++ [k]) ∧ FrB 0 H0 H6 ∧ ∀ j,j < H.next → lv ≠ .sl j 0 ts.length 3 → H6.get j=H.get j:=by
 have hsrc:srcCells H 3 (.sl r' 0 1 3)=some (0 + 1,k.cells):=by
   have:=src_sl (H:=H) (r:=r') (o:=0) (n:=1) (z:=3) (s:=3) hg (by rw [List.drop_zero,List.length_take,Tk.clen];rfl)
   rw [this,List.drop_zero,List.take_of_length_le (by rw [Tk.clen];omega)]
 have hm:maxRoom=70368744177664:=rfl
 rcases hrep with ⟨rfl,rfl⟩|⟨r,rfl,q2,q3,q4,q5⟩
 · refine ⟨H.alloc (.cells k.cells 0 true), ?_, rfl, .inr ⟨H.next, by simp, ?_, hlo, Nat.lt_succ_self _, by simp⟩, hf.alloc _, fun j hj _ => ?_⟩
   · exact append_nil Try.underlying90 sz119 bt119 zr119 (by kernel_rfl) hsrc k.one rfl (by rw [hm];omega) (by rw [hm];omega)
   · rw [Hp.get_alloc,if_pos rfl];simp
   · rw [Hp.get_alloc,if_neg (by omega)]
 · refine ⟨(H.kill r).alloc (.cells (ts.flatMap Tk.cells ++ k.cells) 0 true), ?_, rfl, .inr ⟨H.next, by simp, ?_, hlo, Nat.lt_succ_self _, by simp⟩, (hf.kill (by omega)).alloc _, fun j hj hne => ?_⟩
   · exact append_sl Try.underlying90 sz119 bt119 zr119 (by kernel_rfl) hsrc k.one rfl q2 (flat_len ts) (by rw [hm];omega) (by rw [hm];omega)
   · show ((H.kill r).alloc _).get (H.kill r).next = _
     rw [Hp.get_alloc,if_pos rfl];simp
   · have hjr : ¬ j = r := fun e => hne (by rw [e])
     rw [Hp.get_alloc,if_neg (by simp only [Hp.next_kill];omega),Hp.get_kill,if_neg hjr]
def ScanPost (s:List UInt8) (H:Hp) (v:AV) (H':Hp):Prop:=
 ∃ (why at':Int) (lv:AV),v=.tup [lv,.agg [.int .i64 why,.int .i64 at']] ∧ FrB 0 H H' ∧ ((why ≠ 0 ∧ ¬ isNm s) ∨ (why=0 ∧ ∃ ts,TokRep H.next H' lv ts ∧ headR s ts ∧ (isNm s → ts=[⟨1,s,0⟩])))
theorem scan_wp {cfg : Cfg} (hx : Lexers cfg) (s : List UInt8) (hs : s.length < 2 ^ 60) (H : Hp) : WpCall Try.prog cfg 112 [.str s] H (ScanPost s H) := by
  have hw:=hx.scan
  refine WpCall.slim (M:=49) (rs:=[.tmp 2,.cell 3 63]) (hw.call _) hw.ice hw.froz Try.func112 rfl rfl code112.2 rfl ?_;dsimp only [code112,envOf,Nat.reduceAdd]
  have gh0:=@bld92_2
  have gh1:=@bld92_0
  repeat' (first
     | (apply Rx.nl ?_;clear hK K)|apply Rx.o ?_|apply Rx.on ?_|(apply Rx.cd (fun hb hbp=>?_) (fun hb hbp=>?_) <;> try (cases hb;done))|apply Wp.seq ?_|(apply Wp.ops' fun K hK=>?_)|apply Wp.block ?_|apply Rx.sk ?_|apply Rx.rt ?_|apply Rx.xt ?_)
  · refine ⟨eI, _, (by (try simp only [sB, sO, Nat.reduceBEq, Nat.reduceAdd, Nat.reduceLeDiff, tyF, resultsA, resultA, agg2, *]); first | done | with_reducible rfl), ?_⟩; try simp only [oneOr]
    refine ⟨6,20000,.nilS,rfl,frB2 _ _ _,.inl ⟨by simp,fun h=>?_⟩⟩
    have:=h.2.2.1
    omega
  · refine WpL.call rfl eVk eAk ?_; simp only [List.cons_append, List.nil_append, List.append_nil]
    refine WpCall.mono ?_ (spaceLen_wp hx.space s hs _)
    rintro v _ ⟨rfl,rfl⟩
    dsimp only [setO]
    repeat' (first
       | (apply Rx.nl ?_;clear hK K)|apply Rx.o ?_|apply Rx.on ?_|(apply Rx.cd (fun hb hbp=>?_) (fun hb hbp=>?_) <;> try (cases hb;done))|apply Wp.seq ?_|(apply Wp.ops' fun K hK=>?_)|apply Wp.block ?_|apply Rx.sk ?_|apply Rx.rt ?_|apply Rx.xt ?_)
    have hsp:=spaceN_le false s
    refine Wp.loop (fun n E H2=>∃ (at':Nat) (ts:List Tk) (lv:AV),n=s.length - at' ∧ at' ≤ s.length ∧ E.at 0=.str s ∧ E.at 3=.ptr H.next 0 ∧ E.at 4=lv ∧ E.at 5=.int .i64 at' ∧ FrB 0 H H2 ∧ H.next < H2.next ∧
      H2.get H.next=some (.cells [.int .i64 0,.int .i64 0] 0 true) ∧ TokRep H.next H2 lv ts ∧ ts.length ≤ at' ∧ headR s ts ∧ (ts=[] → at'=spaceN false s) ∧ (isNm s → (ts=[] ∧ at'=0) ∨ (ts=[⟨1,s,0⟩] ∧ at'=s.length))) ?_ (n:=s.length - spaceN false s) ?_
    · rintro n E H2 ⟨at', ts, lv, rfl, ha, h0, h3, h4, h5, hf2, hn2, hg2, hrep, htl, hhead, hfirst, hnm⟩
      have e1:(H.next == H2.next)=false:=by simp;omega
      repeat' (first
         | (apply Rx.nl ?_;clear hK K)|apply Rx.o ?_|apply Rx.on ?_|(apply Rx.cd (fun hb hbp=>?_) (fun hb hbp=>?_) <;> try (cases hb;done))|apply Wp.seq ?_|(apply Wp.ops' fun K hK=>?_)|apply Wp.block ?_|apply Rx.sk ?_|apply Rx.rt ?_|apply Rx.xt ?_)
      · have hlt : at' < s.length := by omega
        have hslo:=slice_lo (P:=Try.prog) (k:=.i64) (s:=s) (m:=at') Try.underlying9 ha
        repeat' (first
           | (apply Rx.nl ?_;clear hK K)|apply Rx.o ?_|apply Rx.on ?_|(apply Rx.cd (fun hb hbp=>?_) (fun hb hbp=>?_) <;> try (cases hb;done))|apply Wp.seq ?_|(apply Wp.ops' fun K hK=>?_)|apply Wp.block ?_|apply Rx.sk ?_|apply Rx.rt ?_|apply Rx.xt ?_)
        have hne:s.drop at' ≠ []:=by
          intro h
          have:=congrArg List.length h
          rw [List.length_drop,List.length_nil] at this
          omega
        refine WpL.call rfl eVk eAk ?_;simp only [List.cons_append,List.nil_append,List.append_nil]
        refine WpCall.mono ?_ (first_wp hx (s.drop at') hne (by rw [List.length_drop];omega) H2)
        rintro v H3 ⟨⟨k,e,rfl,hk⟩,hf3⟩
        have hn3:=hf3.next
        have hg3:H3.get H.next=some (.cells [.int .i64 0,.int .i64 0] 0 true):=by rw [hf3.get _ (Nat.zero_le _) hn2];exact hg2
        have hrep3:TokRep H.next H3 lv ts:=by
          rcases hrep with h|⟨r,q1,q2,q3,q4,q5⟩
          · exact .inl h
          · exact .inr ⟨r,q1,by rw [hf3.get _ (Nat.zero_le _) q4];exact q2,q3,by omega,q5⟩
        have e2:(H.next == H3.next)=false:=by simp;omega
        dsimp only [setO]
        have hx1:Ab.extract (.tup [.agg k.cells,.int .i64 e]) 0=some (.agg k.cells):=rfl
        have hx2:Ab.extract (.tup [.agg k.cells,.int .i64 e]) 1=some (.int .i64 e):=rfl
        have gh0:=@bld92_2
        repeat' (first
           | (apply Rx.nl ?_;clear hK K)|apply Rx.o ?_|apply Rx.on ?_|(apply Rx.cd (fun hb hbp=>?_) (fun hb hbp=>?_) <;> try (cases hb;done))|apply Wp.seq ?_|(apply Wp.ops' fun K hK=>?_)|apply Wp.block ?_|apply Rx.sk ?_|apply Rx.rt ?_|apply Rx.xt ?_)
        · have he : e ≠ 0 := by simpa using hb
          refine ⟨eI,_,(by (try simp only [sB,sO,Nat.reduceBEq,Nat.reduceAdd,Nat.reduceLeDiff,tyF,resultsA,resultA,agg2, *]);first|done|with_reducible rfl),?_⟩;try simp only [oneOr]
          refine ⟨e,at',.nilS,rfl,?_,.inl ⟨he,fun h=>?_⟩⟩
          · exact ((((hf2.trans hf3).alloc _).set (.inl (by omega)) _).set (.inl (Nat.le_refl _)) _)
          · rcases hnm h with ⟨_, q⟩ | ⟨_, q⟩
            · subst q
              exact he (hk.2.2 h.1 (by have:=h.2.1;have:=h.2.2.1;simp only [List.drop_zero];omega) h.2.2.2).1
            · omega
        · have he : e = 0 := by simpa using hb
          have gh0:=@tk_at
          have gh1:=@bs90
          repeat' (first
             | (apply Rx.nl ?_;clear hK K)|apply Rx.o ?_|apply Rx.on ?_|(apply Rx.cd (fun hb hbp=>?_) (fun hb hbp=>?_) <;> try (cases hb;done))|apply Wp.seq ?_|(apply Wp.ops' fun K hK=>?_)|apply Wp.block ?_|apply Rx.sk ?_|apply Rx.rt ?_|apply Rx.xt ?_)
          generalize hk':Tk.mk k.kind k.text (at':Int)=k'
          generalize hH5:Hp.alloc _ (HB.cells (Tk.cells k') 0 true)=H5
          have hn5:H5.next=H3.next + 2:=by rw [← hH5];rfl
          have hg5:H5.get (H3.next + 1)=some (.cells k'.cells 0 true):=by rw [← hH5];simp only [get_set,get_alloc,Hp.next_alloc,Hp.next_set,nb1,nb2,nb3,Nat.add_assoc,Nat.reduceAdd,beq_self_eq_true,cond_true,cond_false,Nat.reduceBEq]
          have hg5a:H5.get H3.next=some (.cells k'.cells 0 true):=by rw [← hH5];simp only [get_set,get_alloc,Hp.next_alloc,Hp.next_set,nb1,nb2,nb3,Nat.add_assoc,Nat.reduceAdd,beq_self_eq_true,cond_true,cond_false,Nat.reduceBEq]
          have hf5:FrB 0 H3 H5:=by rw [← hH5];exact (((FrB.refl _ _).alloc _).set (.inl (Nat.le_refl _)) _).set (.inl (Nat.le_refl _)) _ |>.alloc _
          have hF5:FrB 0 H H5:=(hf2.trans hf3).trans hf5
          have hrep5:TokRep H.next H5 lv ts:=by
            rcases hrep3 with h|⟨r,q1,q2,q3,q4,q5⟩
            · exact .inl h
            · exact .inr ⟨r,q1,by rw [hf5.get _ (Nat.zero_le _) q4];exact q2,q3,by omega,q5⟩
          obtain ⟨H6,p1,p2,p3,p4,p5⟩:=tok_append hrep5 hF5 (by omega) k' hg5 (by omega)
          have hkeep:=hx.keep
          have hg6:H6.get H.next=some (.cells [.int .i64 0,.int .i64 0] 0 true):=by
            rw [p5 _ (by omega) (fun e=>by rcases hrep3 with ⟨_,q⟩|⟨r,q1,_,q3,_⟩ <;> simp_all),hf5.get _ (Nat.zero_le _) (by omega)];exact hg3
          have hg6a:H6.get H3.next=some (.cells k'.cells 0 true):=by
            rw [p5 _ (by omega) (fun e=>by rcases hrep3 with ⟨_,q⟩|⟨r,q1,_,q3,q4,_⟩ <;> simp_all)];exact hg5a
          obtain ⟨n,hn1,hn2',hkt,hkk⟩:=hk.2.1 he
          rw [List.length_drop] at hn2'
          have hktl:k'.text.length=n:=by rw [← hk'];show k.text.length=n;rw [hkt,List.length_take,List.length_drop];omega
          have hwr:IntKind.wrap .i64 ((at':Int) + (n:Int))=((at' + n:Nat):Int):=by rw [IntWalk.i64_in _ (by omega)];omega
          have hslo2:=slice_lo (P:=Try.prog) (k:=.i64) (s:=s) (m:=at' + n) Try.underlying9 (by omega)
          refine WpL.append eV eV (by rw [hkeep];exact p1) ?_
          repeat' (first
             | (apply Rx.nl ?_;clear hK K)|apply Rx.o ?_|apply Rx.on ?_|(apply Rx.cd (fun hb hbp=>?_) (fun hb hbp=>?_) <;> try (cases hb;done))|apply Wp.seq ?_|(apply Wp.ops' fun K hK=>?_)|apply Wp.block ?_|apply Rx.sk ?_|apply Rx.rt ?_|apply Rx.xt ?_)
          refine WpL.call rfl eVk eAk ?_;simp only [List.cons_append,List.nil_append,List.append_nil]
          refine WpCall.mono ?_ (spaceLen_wp hx.space (s.drop (at' + n)) (by rw [List.length_drop];omega) _)
          rintro v _ ⟨rfl,rfl⟩
          dsimp only [setO]
          have hsp2:=spaceN_le false (s.drop (at' + n))
          rw [List.length_drop] at hsp2
          have hwr2:IntKind.wrap .i64 (((at' + n:Nat):Int) + (spaceN false (s.drop (at' + n)):Int))=((at' + n + spaceN false (s.drop (at' + n)):Nat):Int):=by rw [IntWalk.i64_in _ (by omega)];omega
          repeat' (first
             | (apply Rx.nl ?_;clear hK K)|apply Rx.o ?_|apply Rx.on ?_|(apply Rx.cd (fun hb hbp=>?_) (fun hb hbp=>?_) <;> try (cases hb;done))|apply Wp.seq ?_|(apply Wp.ops' fun K hK=>?_)|apply Wp.block ?_|apply Rx.sk ?_|apply Rx.rt ?_|apply Rx.xt ?_)
          refine ⟨s.length - (at' + n + spaceN false (s.drop (at' + n))),by omega,at' + n + spaceN false (s.drop (at' + n)),ts ++ [k'],.sl H5.next 0 (ts.length + 1) 3,rfl,by omega,eE,eE,eE,(by first|(simp only [sB,Nat.reduceBEq,Nat.add_assoc, *];done)|rfl),p4,by omega,hg6,p3,by simp;omega,fun t rest hr=>?_,by simp,fun h=>.inr ?_⟩
          · cases ts with
            | nil =>
              simp only [List.nil_append,List.cons.injEq] at hr
              obtain ⟨rfl,_⟩:=hr
              rw [← hfirst rfl]
              exact ⟨k,by rw [← he];exact hk,by rw [← hk'],by rw [← hk']⟩
            | cons t0 ts =>
              simp only [List.cons_append,List.cons.injEq] at hr
              obtain ⟨rfl,_⟩:=hr
              exact hhead _ _ rfl
          · rcases hnm h with ⟨rfl, q⟩ | ⟨_, q⟩
            · subst q
              have hk2:=(hk.2.2 h.1 (by have:=h.2.1;have:=h.2.2.1;simp only [List.drop_zero];omega) h.2.2.2).2
              simp only [List.drop_zero] at hk2 hkt
              have hwn:wordN s=s.length:=h.2.1
              rw [hwn,List.take_length] at hk2
              have hns:n=s.length:=by
                have:=congrArg List.length hkt
                rw [hk2,List.length_take] at this
                have h3:s.length=min n s.length:=this
                omega
              have hkk2:k'=⟨1,s,0⟩:=by rw [← hk',hk2];rfl
              refine ⟨by rw [hkk2];rfl,?_⟩
              rw [hns];simp [spaceN]
            · omega
      · have hat : at' = s.length := by omega
        have gh0:=@bld92_0
        repeat' (first
           | (apply Rx.nl ?_;clear hK K)|apply Rx.o ?_|apply Rx.on ?_|(apply Rx.cd (fun hb hbp=>?_) (fun hb hbp=>?_) <;> try (cases hb;done))|apply Wp.seq ?_|(apply Wp.ops' fun K hK=>?_)|apply Wp.block ?_|apply Rx.sk ?_|apply Rx.rt ?_|apply Rx.xt ?_)
        refine ⟨eI,_,(by (try simp only [sB,sO,Nat.reduceBEq,Nat.reduceAdd,Nat.reduceLeDiff,tyF,resultsA,resultA,agg2, *]);first|done|with_reducible rfl),?_⟩;try simp only [oneOr]
        refine ⟨0,0,lv,rfl,hf2.set (.inl (Nat.le_refl _)) _,.inr ⟨rfl,ts,?_,hhead,fun h=>?_⟩⟩
        · rcases hrep with h | ⟨r, q1, q2, q3, q4, q5⟩
          · exact .inl h
          · exact .inr ⟨r,q1,by rw [Hp.get_set,if_neg (by omega)];exact q2,q3,q4,q5⟩
        · rcases hnm h with ⟨_, q⟩ | ⟨q, _⟩
          · have:=h.1;have:=h.2.1;omega
          · exact q
    · refine ⟨spaceN false s,[],.nilS,rfl,hsp,eE,eE,eE,eE,(FrB.refl _ _).alloc _,by simp only [Hp.next_alloc];omega,eF,.inl ⟨rfl,rfl⟩,by simp,by simp [headR],fun _=>rfl,fun h=>.inl ⟨rfl,isNm_space h⟩⟩
end Go.Proofs.Ytpbcimfiofmoeaa
namespace Go.Proofs.Ytpbcimfiofmoeaa
set_option maxRecDepth 20000
set_option maxRecDepth 20000
open Go Go.Ab
namespace tyW4j
def tyF:=And.intro @tq3 (And.intro @tq9 (And.intro @tq44 (And.intro @tq63 (And.intro @tq90 (And.intro @tq119 (And.intro @tq47 (And.intro @List.flatMap_cons.{0,0} (And.intro @List.flatMap_nil.{0,0} (@Nat.zero_mul)))))))))
end tyW4j
open tyW4j
noncomputable def code76:{ c:SC // slim 44 (Try.f76.body.getD .skip)=c }:=by
 refine ⟨?_,?_⟩
 rotate_left
 · simp only [Try.f76, Option.getD_some, slim, slimR, slimL, slimD, slimG, Nat.blt, Nat.ble]
   rfl
noncomputable def code77:{ c:SC // slim 15 (Try.f77.body.getD .skip)=c }:=by
 refine ⟨?_,?_⟩
 rotate_left
 · simp only [Try.f77, Option.getD_some, slim, slimR, slimL, slimD, slimG, Nat.blt, Nat.ble]
   rfl
theorem validName_wp {cfg : Cfg} (hx : Lexers cfg) (hw : Plain cfg 76) (s : List UInt8) (hs : s.length < 2 ^ 60) (H : Hp) :
    WpCall Try.prog cfg 76 [.str s] H fun v H'=>v=.bool (nameB s) ∧ FrB 0 H H':=by
  refine WpCall.slim (M:=44) (rs:=[.tmp 2]) (hw.call _) hw.ice hw.froz Try.func76 rfl rfl code76.2 rfl ?_;dsimp only [code76,envOf,Nat.reduceAdd]
  repeat' (first
     | (apply Rx.nl ?_;clear hK K)|apply Rx.o ?_|apply Rx.on ?_|(apply Rx.gd (fun hg hgp=>?_) (fun hg hgp=>?_) <;> try (cases hg;done))|(apply Rx.cd (fun hb hbp=>?_) (fun hb hbp=>?_) <;> try (cases hb;done))|apply Wp.seq ?_|(apply Wp.ops' fun K hK=>?_)|apply Wp.block ?_|apply Rx.sk ?_|apply Rx.rt ?_)
  refine WpL.call rfl eVk eAk ?_;simp only [List.cons_append,List.nil_append,List.append_nil]
  refine WpCall.mono ?_ (scan_wp hx s hs H)
  rintro v H2 ⟨why,at',lv,rfl,hf2,hcase⟩
  have hx1:Ab.extract (.tup [lv,.agg [.int .i64 why,.int .i64 at']]) 0=some lv:=rfl
  have hx2:Ab.extract (.tup [lv,.agg [.int .i64 why,.int .i64 at']]) 1=some (.agg [.int .i64 why,.int .i64 at']):=rfl
  dsimp only [setO]
  have hf3:FrB 0 H ((H2.alloc (.cells [.int .i64 0,.int .i64 0] 0 true)).set H2.next (.cells [.int .i64 why,.int .i64 at'] 0 true)):=(hf2.alloc _).set (.inl hf2.next) _
  rcases hcase with ⟨h1,h2⟩|⟨rfl,ts,hrep,hhead,hnm⟩
  · have hnb : nmB s = false := by
      cases hb:nmB s with
      | false=>rfl
      | true=>exact (h2 ((nmB_iff s).1 hb)).elim
    repeat' (first
       | (apply Rx.nl ?_;clear hK K)|apply Rx.o ?_|apply Rx.on ?_|(apply Rx.gd (fun hg hgp=>?_) (fun hg hgp=>?_) <;> try (cases hg;done))|(apply Rx.cd (fun hb hbp=>?_) (fun hb hbp=>?_) <;> try (cases hb;done))|apply Wp.seq ?_|(apply Wp.ops' fun K hK=>?_)|apply Wp.block ?_|apply Rx.sk ?_|apply Rx.rt ?_)
    all_goals (refine ⟨eI,_,eR,?_⟩;try simp only [oneOr])
    exact ⟨by simp only [nameB,hnb,Bool.false_and],hf3⟩
  · rcases hrep with ⟨rfl, rfl⟩ | ⟨r, rfl, q2, q3, q4, q5⟩
    · have hnb : nmB s = false := by
        cases hb:nmB s with
        | false=>rfl
        | true=>have:=hnm ((nmB_iff s).1 hb);simp at this
      repeat' (first
         | (apply Rx.nl ?_;clear hK K)|apply Rx.o ?_|apply Rx.on ?_|(apply Rx.gd (fun hg hgp=>?_) (fun hg hgp=>?_) <;> try (cases hg;done))|(apply Rx.cd (fun hb hbp=>?_) (fun hb hbp=>?_) <;> try (cases hb;done))|apply Wp.seq ?_|(apply Wp.ops' fun K hK=>?_)|apply Wp.block ?_|apply Rx.sk ?_|apply Rx.rt ?_)
      all_goals (refine ⟨eI,_,eR,?_⟩;try simp only [oneOr])
      exact ⟨by simp only [nameB,hnb,Bool.false_and],hf3⟩
    · have e1 : (r == H2.next) = false := by simp; omega
      by_cases hl:ts.length=1
      · obtain ⟨k, rfl⟩ := List.length_eq_one_iff.1 hl
        simp only [List.flatMap_cons,List.flatMap_nil,List.append_nil] at q2
        simp only [List.length_cons,List.length_nil,Nat.zero_add] at hx1 hx2 ⊢
        have hkey:isNm s ↔ (k.kind=1 ∧ k.text=s):=⟨fun h=>by have:=hnm h;simp only [List.cons.injEq,and_true] at this;rw [this];exact ⟨rfl,rfl⟩,fun h=>head_nm hhead h.1 h.2⟩
        have hnb:nmB s=(decide (k.kind=1) && decide (k.text=s)):=by
          rw [Bool.eq_iff_iff,nmB_iff,hkey];simp
        clear hkey hnm hhead
        have hidx:indexAddrA Try.prog 90 (.sl r 0 1 3) (.int .i64 0)=some (.ptr r 0):=by kernel_rfl
        repeat' (first
           | (apply Rx.nl ?_;clear hK K)|apply Ry.o ?_|apply Ry.on ?_|(apply Ry.gd (fun hg hgp=>?_) (fun hg hgp=>?_) <;> try (cases hg;done))|(apply Ry.cd (fun hb hbp=>?_) (fun hb hbp=>?_) <;> try (cases hb;done))|apply Wp.seq ?_|(apply Wp.ops' fun K hK=>?_)|apply Wp.block ?_|apply Rx.sk ?_|apply Rx.rt ?_)
        all_goals (refine ⟨eI,_,eR,?_⟩;try simp only [oneOr])
        all_goals (refine ⟨?_,hf3⟩;simp only [nameB,hnb,resB];simp_all)
      · have hnb : nmB s = false := by
          cases hb:nmB s with
          | false=>rfl
          | true=>have:=hnm ((nmB_iff s).1 hb);rw [this] at hl;simp at hl
        have hl2:decide ((ts.length:Int)=1)=false:=by simp;omega
        repeat' (first
           | (apply Rx.nl ?_;clear hK K)|apply Rx.o ?_|apply Rx.on ?_|(apply Rx.gd (fun hg hgp=>?_) (fun hg hgp=>?_) <;> try (cases hg;done))|(apply Rx.cd (fun hb hbp=>?_) (fun hb hbp=>?_) <;> try (cases hb;done))|apply Wp.seq ?_|(apply Wp.ops' fun K hK=>?_)|apply Wp.block ?_|apply Rx.sk ?_|apply Rx.rt ?_)
        all_goals (refine ⟨eI,_,eR,?_⟩;try simp only [oneOr])
        exact ⟨by simp only [nameB,hnb,Bool.false_and],hf3⟩
end Go.Proofs.Ytpbcimfiofmoeaa
namespace Go.Proofs.Ytpbcimfiofmoeaa
set_option maxRecDepth 20000
set_option maxRecDepth 20000
open Go Go.Ab
namespace tyW4k
def tyF:=And.intro @tq3 (And.intro @tq9 (And.intro @tq47 (And.intro @tq2 (And.intro @tq49 (@tq51)))))
end tyW4k
open tyW4k
noncomputable def code113:{ c:SC // slim 23 (Try.f113.body.getD .skip)=c }:=by
 refine ⟨?_,?_⟩
 rotate_left
 · simp only [Try.f113, Option.getD_some, slim, slimR, slimL, slimD, slimG, Nat.blt, Nat.ble]
   rfl
noncomputable def code135:{ c:SC // slim 27 (Try.f135.body.getD .skip)=c }:=by
 refine ⟨?_,?_⟩
 rotate_left
 · simp only [Try.f135, Option.getD_some, slim, slimR, slimL, slimD, slimG, Nat.blt, Nat.ble]
   rfl
noncomputable def code115:{ c:SC // slim 10 (Try.f115.body.getD .skip)=c }:=by
 refine ⟨?_,?_⟩
 rotate_left
 · simp only [Try.f115, Option.getD_some, slim, slimR, slimL, slimD, slimG, Nat.blt, Nat.ble]
   rfl
def opB (k kids:Int):Bool:=if k=20 ∨ k=21 then decide (kids=1) else decide (4 ≤ k) && decide (k ≤ 18) && decide (kids=2)
theorem validOp_wp {cfg:Cfg} (hw:Plain cfg 113) (k kids:Int) (H:Hp) :
   WpCall Try.prog cfg 113 [.int .i64 k,.int .i64 kids] H fun v H'=>v=.bool (opB k kids) ∧ H'=H:=by
 refine WpCall.slim (M:=23) (rs:=[.tmp 4]) (hw.call _) hw.ice hw.froz Try.func113 rfl rfl code113.2 rfl ?_;dsimp only [code113,envOf,Nat.reduceAdd]
 repeat' (first
    | (apply Rx.nl ?_;clear hK K)|apply Rx.o ?_|(apply Rx.gd (fun hg hgp=>?_) (fun hg hgp=>?_) <;> try (cases hg;done))|(apply Rx.cd (fun hb hbp=>?_) (fun hb hbp=>?_) <;> try (cases hb;done))|apply Wp.seq ?_|(apply Wp.ops' fun K hK=>?_)|apply Rx.sk ?_|apply Rx.rt ?_)
 all_goals
   all_goals (refine ⟨eI,_,eR,?_⟩;try simp only [oneOr])
 all_goals (refine ⟨?_,by first|rfl|trivial⟩;simp_all [opB] <;> omega)
theorem isZero_wp {cfg:Cfg} (hw:Plain cfg 135) (x:Ex) (H:Hp) :
   WpCall Try.prog cfg 135 [.agg x.cells] H fun v H'=>v=.bool (zeroE x) ∧ FrB 0 H H':=by
 refine WpCall.slim (M:=27) (rs:=[.tmp 2]) (hw.call _) hw.ice hw.froz Try.func135 rfl rfl code135.2 rfl ?_;dsimp only [code135,envOf,Nat.reduceAdd]
 repeat' (first
    | (apply Rx.nl ?_;clear hK K)|apply Rx.o ?_|(apply Rx.gd (fun hg hgp=>?_) (fun hg hgp=>?_) <;> try (cases hg;done))|apply Wp.seq ?_|(apply Wp.ops' fun K hK=>?_)|apply Rx.rt ?_)
 all_goals
   all_goals (refine ⟨eI,_,eR,?_⟩;try simp only [oneOr])
 all_goals (refine ⟨?_,(FrB.refl _ _).alloc _⟩;simp_all [zeroE])
def nameF (s:List UInt8) (want:Bool):Bool:=if want then nameB s else decide (s=[])
theorem nameField_wp {cfg:Cfg} (hx:Lexers cfg) (hv:Plain cfg 76) (hw:Plain cfg 115) (s:List UInt8) (want:Bool) (hs:s.length < 2 ^ 60) (H:Hp) :
   WpCall Try.prog cfg 115 [.str s,.bool want] H fun v H'=>v=.bool (nameF s want) ∧ FrB 0 H H':=by
 cases want
 · refine WpCall.slim (M := 10) (rs := [.tmp 4]) (hw.call _) hw.ice hw.froz Try.func115 rfl rfl code115.2 rfl ?_; dsimp only [code115, envOf, Nat.reduceAdd]
   repeat' (first
      | (apply Rx.nl ?_;clear hK K)|apply Rx.o ?_|(apply Rx.cd (fun hb hbp=>?_) (fun hb hbp=>?_) <;> try (cases hb;done))|apply Wp.seq ?_|(apply Wp.ops' fun K hK=>?_)|apply Rx.sk ?_|apply Rx.rt ?_)
   all_goals (refine ⟨eI,_,eR,?_⟩;try simp only [oneOr])
   exact ⟨by simp [nameF],FrB.refl _ _⟩
 · refine WpCall.slim (M := 10) (rs := [.tmp 4]) (hw.call _) hw.ice hw.froz Try.func115 rfl rfl code115.2 rfl ?_; dsimp only [code115, envOf, Nat.reduceAdd]
   repeat' (first
      | (apply Rx.nl ?_;clear hK K)|apply Rx.o ?_|(apply Rx.cd (fun hb hbp=>?_) (fun hb hbp=>?_) <;> try (cases hb;done))|apply Wp.seq ?_|(apply Wp.ops' fun K hK=>?_)|apply Rx.sk ?_|apply Rx.rt ?_)
   refine WpL.call rfl eVk eAk ?_;simp only [List.cons_append,List.nil_append,List.append_nil]
   refine WpCall.mono ?_ (validName_wp hx hv s hs H)
   rintro v H2 ⟨rfl,hf2⟩
   dsimp only [setO]
   repeat' (first
      | (apply Rx.nl ?_;clear hK K)|apply Rx.o ?_|(apply Rx.cd (fun hb hbp=>?_) (fun hb hbp=>?_) <;> try (cases hb;done))|apply Wp.seq ?_|(apply Wp.ops' fun K hK=>?_)|apply Rx.sk ?_|apply Rx.rt ?_)
   all_goals (refine ⟨eI,_,eR,?_⟩;try simp only [oneOr])
   exact ⟨by simp [nameF],hf2⟩
theorem validNames_wp {cfg : Cfg} (hx : Lexers cfg) (hv : Plain cfg 76) (hw : Plain cfg 77) (l : List (List UInt8)) (hz : strsSz l < 2 ^ 60) (H : Hp) :
    WpCall Try.prog cfg 77 [lstS l] H fun v H'=>v=.bool (l.all nameB) ∧ FrB 0 H H':=by
  have hl:l.length < 2 ^ 60:=by have:=strsSz_len l;omega
  refine WpCall.slim (M:=15) (rs:=[.tmp 2]) (hw.call _) hw.ice hw.froz Try.func77 rfl rfl code77.2 rfl ?_;dsimp only [code77,envOf,Nat.reduceAdd]
  repeat' (first
     | (apply Rx.nl ?_;clear hK K)|apply Rx.o ?_|(apply Rx.cd (fun hb hbp=>?_) (fun hb hbp=>?_) <;> try (cases hb;done))|apply Wp.seq ?_|(apply Wp.ops' fun K hK=>?_)|apply Wp.block ?_|apply Rx.sk ?_|apply Rx.rt ?_|apply Rx.xt ?_)
  refine Wp.loopN (fun i E H2=>l.all nameB=(l.drop i).all nameB ∧ E.at 5=.lst (l.map fun s=>[.str s]) ∧ E.at 6=.int .i64 l.length ∧ E.at 7=.int .i64 i ∧ FrB 0 H H2) l.length ?_ ?_
  · rintro i E H2 hi2 ⟨hc, h5, h6, h7, hf2⟩
    repeat' (first
       | (apply Rx.nl ?_;clear hK K)|apply Rx.o ?_|(apply Rx.cd (fun hb hbp=>?_) (fun hb hbp=>?_) <;> try (cases hb;done))|apply Wp.seq ?_|(apply Wp.ops' fun K hK=>?_)|apply Wp.block ?_|apply Rx.sk ?_|apply Rx.rt ?_|apply Rx.xt ?_)
    · have hlt : i < l.length := by simpa using hb
      have hgx:l[i]?=some l[i]:=List.getElem?_eq_getElem hlt
      have hsm:=strsSz_mem (List.getElem_mem hlt)
      have hdr:(l.drop i).all nameB=(nameB l[i] && (l.drop (i + 1)).all nameB):=by rw [List.drop_eq_getElem_cons hlt,List.all_cons]
      repeat' (first
         | (apply Rx.nl ?_;clear hK K)|apply Rx.o ?_|(apply Rx.cd (fun hb hbp=>?_) (fun hb hbp=>?_) <;> try (cases hb;done))|apply Wp.seq ?_|(apply Wp.ops' fun K hK=>?_)|apply Wp.block ?_|apply Rx.sk ?_|apply Rx.rt ?_|apply Rx.xt ?_)
      refine WpL.call rfl eVk eAk ?_;simp only [List.cons_append,List.nil_append,List.append_nil]
      refine WpCall.mono ?_ (validName_wp hx hv l[i] (by omega) H2)
      rintro v H3 ⟨rfl,hf3⟩
      dsimp only [setO]
      repeat' (first
         | (apply Rx.nl ?_;clear hK K)|apply Rx.o ?_|(apply Rx.cd (fun hb hbp=>?_) (fun hb hbp=>?_) <;> try (cases hb;done))|apply Wp.seq ?_|(apply Wp.ops' fun K hK=>?_)|apply Wp.block ?_|apply Rx.sk ?_|apply Rx.rt ?_|apply Rx.xt ?_)
      · all_goals (refine ⟨eI, _, eR, ?_⟩; try simp only [oneOr])
        exact ⟨by rw [hc,hdr];simp_all,hf2.trans hf3⟩
      · refine ⟨hlt, by rw [hc, hdr]; simp_all, eE, eE, ?_, hf2.trans hf3⟩
        simp only [at_set,Nat.reduceBEq,cond_true,wrap_succ (show i < 2 ^ 62 by omega)]
    · all_goals (refine ⟨eI, _, eR, ?_⟩; try simp only [oneOr])
      have hie:i=l.length:=by simp at hb;omega
      exact ⟨by rw [hc,hie];simp,hf2⟩
  · exact ⟨by simp,eE,eE,eE,FrB.refl _ _⟩
end Go.Proofs.Ytpbcimfiofmoeaa
namespace Go.Proofs.Ytpbcimfiofmoeaa
set_option maxRecDepth 20000
set_option maxRecDepth 20000
open Go Go.Ab
namespace tyP4a
def tyF:=And.intro @tq2 (And.intro @tq3 (And.intro @tq9 (And.intro @tq49 (And.intro @tq51 (And.intro @tq4 (@tq162))))))
end tyP4a
open tyP4a
noncomputable def code114:{ c:SC // slim 27 (Try.f114.body.getD .skip)=c }:=by
 refine ⟨?_,?_⟩
 rotate_left
 · simp only [Try.f114, Option.getD_some, slim, slimR, slimL, slimD, slimG, Nat.blt, Nat.ble]
   rfl
noncomputable def code79:{ c:SC // slim 87 (Try.f79.body.getD .skip)=c }:=by
 refine ⟨?_,?_⟩
 rotate_left
 · simp only [Try.f79, Option.getD_some, slim, slimR, slimL, slimD, slimG, Nat.blt, Nat.ble]
   rfl
noncomputable def code116:{ c:SC // slim 10 (Try.f116.body.getD .skip)=c }:=by
 refine ⟨?_,?_⟩
 rotate_left
 · simp only [Try.f116, Option.getD_some, slim, slimR, slimL, slimD, slimG, Nat.blt, Nat.ble]
   rfl
theorem lexers0 {l:List En} (h:∀ f,f ∈ [151,146,144,133,147,145,134,112] → (∀ args,lookN l f args=none) ∧ iceN l f=false):Lexers (cfgN pls l) where
 let_:=plainN (h _ (by simp)).1 (h _ (by simp)).2
 dig:=plainN (h _ (by simp)).1 (h _ (by simp)).2
 word:=plainN (h _ (by simp)).1 (h _ (by simp)).2
 space:=plainN (h _ (by simp)).1 (h _ (by simp)).2
 num:=plainN (h _ (by simp)).1 (h _ (by simp)).2
 sym:=plainN (h _ (by simp)).1 (h _ (by simp)).2
 first:=plainN (h _ (by simp)).1 (h _ (by simp)).2
 scan:=plainN (h _ (by simp)).1 (h _ (by simp)).2
 plan _:=by first|rfl|kernel_rfl
 keep:=rfl
theorem lex0:Lexers (cfgN pls []):=lexers0 fun f _=>⟨fun _=>rfl,rfl⟩
theorem pvalid_con (ρ:Nat → Int) (s:List UInt8) (hs:s.length < 2 ^ 60):Con Try.prog ρ 76 [.str s] (.bool (nameB s)):=
 Con.lev fit (pls:=pls) (l:=[]) trivial (.cons (.str _) .nil) (.bool _) (WpCall.mono (fun v H h=>h.1) (validName_wp lex0 (plain0 _) s hs H0))
theorem pop_con (ρ:Nat → Int) (x:Int × Nat):Con Try.prog ρ 113 [.int .i64 x.1,.int .i64 x.2] (.bool (opB x.1 x.2)):=
 Con.lev fit (pls:=pls) (l:=[]) trivial (.cons (.int _ _) (.cons (.int _ _) .nil)) (.bool _) (WpCall.mono (fun v H h=>h.1) (validOp_wp (plain0 _) x.1 x.2 H0))
theorem pzero_con (ρ:Nat → Int) (x:Ex):Con Try.prog ρ 135 [.agg x.cells] (.bool (zeroE x)):=
 Con.lev fit (pls:=pls) (l:=[]) trivial (.cons (.agg x.pure) .nil) (.bool _) (WpCall.mono (fun v H h=>h.1) (isZero_wp (plain0 _) x H0))
theorem pnames_con (ρ:Nat → Int) (l:List (List UInt8)) (hl:strsSz l < 2 ^ 60):Con Try.prog ρ 77 [lstS l] (.bool (l.all nameB)):=
 Con.lev fit (pls:=pls) (l:=[]) trivial (.cons (strs_pure _) .nil) (.bool _) (WpCall.mono (fun v H h=>h.1) (validNames_wp lex0 (plain0 _) (plain0 _) l hl H0))
theorem pfield_con (ρ:Nat → Int) (s:List UInt8) (w:Bool) (hs:s.length < 2 ^ 60):Con Try.prog ρ 115 [.str s,.bool w] (.bool (nameF s w)):=
 Con.lev fit (pls:=pls) (l:=[]) trivial (.cons (.str _) (.cons (.bool _) .nil)) (.bool _) (WpCall.mono (fun v H h=>h.1) (nameField_wp lex0 (plain0 _) (plain0 _) s w hs H0))
def fldB (k:Int):List Bool:=
 if k=1 then [true,false,false,false,true,false,false,false]
 else if k=2 then [true,false,false,true,true,false,false,false]
 else if k=3 then [false,false,false,false,true,false,true,true]
 else if k=4 then [false,false,false,false,true,false,true,false]
 else if k=5 then [false,false,false,false,true,false,false,false]
 else if k=6 then [true,true,false,false,false,true,false,false]
 else if k=7 then [false,false,true,false,false,false,false,false]
 else [false,false,false,false,false,false,false,false]
def fldOk (k:Int):Bool:=decide (1 ≤ k) && decide (k ≤ 7)
def fldA (k:Int):AV:=.tup [.agg ((fldB k).map .bool),.bool (fldOk k)]
theorem agg8 (a b c d e f g h:AV):aggA 8 [a,b,c,d,e,f,g,h]=some (.agg [a,b,c,d,e,f,g,h]):=rfl
theorem fields_con (ρ:Nat → Int) (k:Int):Con Try.prog ρ 114 [.int .i64 k] (fldA k):=Con.lev fit (pls:=pls) (l:=[]) trivial (.cons (.int _ _) .nil) (.tup (.cons (.agg fun v hv=>by
   obtain ⟨b,_,rfl⟩:=List.mem_map.1 hv
   exact .bool b) (.cons (.bool _) .nil))) (by
 have hw:=plain0 114
 have b1:buildA Try.prog 162 [(0,.bool true),(4,.bool true)]=some (.agg [.bool true,.bool false,.bool false,.bool false,.bool true,.bool false,.bool false,.bool false]):=by kernel_rfl
 have b2:buildA Try.prog 162 [(0,.bool true),(3,.bool true),(4,.bool true)]=some (.agg [.bool true,.bool false,.bool false,.bool true,.bool true,.bool false,.bool false,.bool false]):=by kernel_rfl
 have b3:buildA Try.prog 162 [(4,.bool true),(6,.bool true),(7,.bool true)]=some (.agg [.bool false,.bool false,.bool false,.bool false,.bool true,.bool false,.bool true,.bool true]):=by kernel_rfl
 have b4:buildA Try.prog 162 [(4,.bool true),(6,.bool true)]=some (.agg [.bool false,.bool false,.bool false,.bool false,.bool true,.bool false,.bool true,.bool false]):=by kernel_rfl
 have b5:buildA Try.prog 162 [(4,.bool true)]=some (.agg [.bool false,.bool false,.bool false,.bool false,.bool true,.bool false,.bool false,.bool false]):=by kernel_rfl
 have b6:buildA Try.prog 162 [(0,.bool true),(1,.bool true),(5,.bool true)]=some (.agg [.bool true,.bool true,.bool false,.bool false,.bool false,.bool true,.bool false,.bool false]):=by kernel_rfl
 have b7:buildA Try.prog 162 [(2,.bool true)]=some (.agg [.bool false,.bool false,.bool true,.bool false,.bool false,.bool false,.bool false,.bool false]):=by kernel_rfl
 have b0:buildA Try.prog 162 []=some (.agg [.bool false,.bool false,.bool false,.bool false,.bool false,.bool false,.bool false,.bool false]):=by kernel_rfl
 refine WpCall.slim (M:=27) (rs:=[.cell 2 162,.tmp 3]) (hw.call _) hw.ice hw.froz Try.func114 rfl rfl code114.2 rfl ?_;dsimp only [code114,envOf,Nat.reduceAdd]
 repeat' (first
    | (apply Rx.nl ?_;clear hK K)|apply Rx.o ?_|apply Rx.on ?_|(apply Rx.cd (fun hb hbp=>?_) (fun hb hbp=>?_) <;> try (cases hb;done))|apply Wp.seq ?_|(apply Wp.ops' fun K hK=>?_)|apply Wp.block ?_|apply Rx.sk ?_|apply Rx.rt ?_)
 all_goals
   refine ⟨eI,_,(by (try simp only [sB,sO,Nat.reduceBEq,Nat.reduceAdd,Nat.reduceLeDiff,tyF,resultsA,resultA,agg8, *]);first|done|with_reducible rfl),?_⟩;try simp only [oneOr]
 all_goals
   first
   | (simp_all [fldA,fldB,fldOk];done)
   | (have h0:fldOk k=false:=by
        simp only [fldOk,Bool.and_eq_false_iff,decide_eq_false_iff_not];omega
      simp_all [fldA,fldB];done))
theorem opB_eq (k:Int) (n:Nat):opB k n=((decide ((n:Int)=2) && isBinB k) || (decide ((n:Int)=1) && (decide (k=20) || decide (k=21)))):=by
 unfold opB isBinB
 by_cases h:k=20 ∨ k=21
 · rw [if_pos h]
   rcases h with rfl|rfl <;> simp
 · rw [if_neg h]
   have h1:¬ k=20:=fun e=>h (.inl e)
   have h2:¬ k=21:=fun e=>h (.inr e)
   simp only [h1,h2,decide_false,Bool.or_false,Bool.and_false]
   cases decide (4 ≤ k) <;> cases decide (k ≤ 18) <;> cases decide ((n:Int)=2) <;> rfl
noncomputable def enPN:En:=⟨76,false,spP (fun s=>s.length < 2 ^ 60) bsE fun s=>.bool (nameB s)⟩
theorem enPN_ok (ρ:Nat → Int):EnOk Try.prog ρ enPN:=spP_ok fun x hx=>pvalid_con ρ x hx
def opE (x:Int × Nat):List AV:=[.int .i64 x.1,.int .i64 x.2]
theorem opE_inj (x y:Int × Nat) (h:opE x=opE y):x=y:=by
 simp only [opE,List.cons.injEq,AV.int.injEq,and_true,true_and] at h
 exact Prod.ext h.1 (by omega)
noncomputable def enPO:En:=⟨113,false,spP (fun _=>True) opE fun x=>.bool (opB x.1 x.2)⟩
theorem enPO_ok (ρ:Nat → Int):EnOk Try.prog ρ enPO:=spP_ok fun x _=>pop_con ρ x
noncomputable def enPZ:En:=⟨135,false,spP (fun _=>True) exE fun x=>.bool (zeroE x)⟩
theorem enPZ_ok (ρ:Nat → Int):EnOk Try.prog ρ enPZ:=spP_ok fun x _=>pzero_con ρ x
theorem wfeVisit {l:List En} (hv:∀ ar,lookN l 76 ar=enPN.sp ar) (ho:∀ ar,lookN l 113 ar=enPO.sp ar) (hp:(∀ ar,lookN l 79 ar=none) ∧ iceN l 79=false) {base:Nat} {I:Hp → Prop} (hI:OfLow base I) :
   VisitE (cfgN pls l) base I 79 [] fun x _=>wfX x:=by
 intro x d H hz hbase hi
 have hw:Plain (cfgN pls l) 79:=plainN hp.1 hp.2
 have kv:∀ s:List UInt8,s.length < 2 ^ 60 → ∀ H,WpCall Try.prog (cfgN pls l) 76 [.str s] H fun v H'=>v=.bool (nameB s) ∧ H'=H:=fun s h1 H=>WpCall.en (enc:=bsE) (out:=fun x=>.bool (nameB x)) bsE_inj (x:=s) (hv _) h1
 have ko:∀ (k:Int) (n:Nat),∀ H,WpCall Try.prog (cfgN pls l) 113 [.int .i64 k,.int .i64 n] H fun v H'=>v=.bool (opB k n) ∧ H'=H:=fun k n H=>WpCall.en (enc:=opE) (out:=fun x=>.bool (opB x.1 x.2)) opE_inj (x:=(k,n)) (ho _) trivial
 have hsz:=x.sz_eq
 refine WpCall.slim (M:=87) (rs:=[.tmp 4]) (hw.call _) hw.ice hw.froz Try.func79 rfl rfl code79.2 rfl ?_;dsimp only [code79,envOf,Nat.reduceAdd]
 repeat' (first
    | (apply Rx.nl ?_;clear hK K)|apply Rx.o ?_|(apply Rx.call ?_;first|refine Rx.k (kv _ (by omega) _) ?_|refine Rx.k (ko _ _ _) ?_)|(apply Rx.gd (fun hg hgp=>?_) (fun hg hgp=>?_) <;> try (cases hg;done))|(apply Rx.cd (fun hb hbp=>?_) (fun hb hbp=>?_) <;> try (cases hb;done))|apply Wp.seq ?_|(apply Wp.ops' fun K hK=>?_)|apply Wp.block ?_|apply Rx.sk ?_|apply Rx.rt ?_)
 all_goals
   all_goals (refine ⟨eI,_,eR,?_⟩;try simp only [oneOr])
   refine ⟨?_,(FrB.refl _ _).alloc _,hI _ _ hi ((Low.refl _ _).alloc hbase _)⟩
   rw [wfX]
   (try rw [opB_eq])
   (try simp only [Bool.not_eq_true',Bool.not_eq_false'] at *);simp only [*,decide_true,decide_false,Bool.false_or,Bool.or_false,Bool.true_or,Bool.or_true,Bool.false_and,Bool.and_false,Bool.true_and,Bool.and_true,Bool.not_true,Bool.not_false,if_true,if_false,Int.reduceEq]
end Go.Proofs.Ytpbcimfiofmoeaa
