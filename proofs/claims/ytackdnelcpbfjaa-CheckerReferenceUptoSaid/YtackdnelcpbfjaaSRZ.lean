/-
  The Go function fullinglaw4.CheckerReference returns true whatever its four arguments are, and leaves all memory that was there as it was. Conditions: what it reads is of bulk at most 1048576.
-/
import Derived.JoinedCond
import Derived.OpenShut
import Derived.ProofKit
import Derived.Test.YtackdnelcpbfjaaSRS
import Derived.WalkKit
set_option linter.unusedSimpArgs false
set_option linter.unusedVariables false
set_option linter.unusedSectionVars false
set_option linter.defProp false
set_option maxHeartbeats 32000000
namespace Go.Proofs.Ytackdnelcpbfjaa.checkerReference
set_option maxRecDepth 20000
set_option maxRecDepth 20000
open Go Go.Ab
namespace tyCheckerReference
def tyF:=And.intro @tq3 (And.intro @tq22 (And.intro @tq23 (And.intro @tq25 (And.intro @tq29 (And.intro @tq30 (@aggP2))))))
end tyCheckerReference
open tyCheckerReference Go.ChangeShapes Go.WideShapes Go.ChangeAt Go.RowKit
theorem own:ownKnob Try.prog.godebug=none:=by kernel_rfl
noncomputable def code3:{ c:SC // slim 31 (Try.f3.body.getD .skip)=c }:=by
 refine ⟨?_,?_⟩
 rotate_left
 · simp only [Try.f3, Option.getD_some, slim, slimR, slimL, slimD, slimG, Nat.blt, Nat.ble]
   rfl
noncomputable def enCEx:En:=⟨15,false,fun args=>lookK knCEx.list 15 args⟩
theorem enCEx_ok (ρ:Nat → Int):EnOk Try.prog ρ enCEx:=fun args r hr=>lookK_ok (knCEx.ok ρ) _ args r hr
noncomputable def enRCk:En:=⟨14,true,spP (fun p=>p.sz < 2 ^ 36) prE fun p=>.int .i64 (refCheck p)⟩
theorem enRCk_ok (ρ:Nat → Int):EnOk Try.prog ρ enRCk:=spP_ok fun p hp=>check_con ρ p hp
noncomputable def levR:List En:=[enPick,enWord,enNms,enW enMutE,enW enMutS,enW enChkP,enW enRCk,enCEx]
theorem levR_ok (ρ:Nat → Int):EnsOk Try.prog ρ levR:=⟨enPick_ok ρ,enWord_ok ρ,enNms_ok ρ,enW_ok (enMutE_ok ρ),enW_ok (enMutS_ok ρ),enW_ok (enChkP_ok ρ),enW_ok (enRCk_ok ρ),enCEx_ok ρ,trivial⟩
theorem mutL_R:MutL levR where
 pick:=fun _=>rfl
 word:=fun _=>rfl
 nms:=fun _=>rfl
 pl:=fun f hf=>by rcases genFn_cases hf with rfl|rfl|rfl|rfl|rfl <;> exact ⟨fun _=>rfl,rfl⟩
 me:=fun _=>rfl
 mei:=rfl
 ms:=fun _=>rfl
 msi:=rfl
 plm:=⟨fun _=>rfl,rfl⟩
theorem kCEx (H:Hp):WpCall Try.prog (cfgN pls levR) 15 [] H fun v H'=>v=.bool true ∧ H'=H:=WpCall.kn rfl
theorem rckX {S:Nat → Prop} {n:Nat} {H:Hp} {cs:List AV} {p:Pr} (hn:n < 59) (hc:CellsW S n H cs p.cells) (hz:p.sz < 2 ^ 36) :
   WpCall Try.prog (cfgN pls levR) 14 [.agg cs] H fun v H'=>v=.int .i64 (refCheck p) ∧ Icy S H H':=by
 obtain ⟨us,h1,h2⟩:=hc
 refine WpCall.enX (x:=p) (enc:=prE) (ok:=fun p=>p.sz < 2 ^ 36) (out:=fun p=>.int .i64 (refCheck p)) (us:=[.agg us]) (n:=n + 1) prE_inj (fun _=>rfl) rfl prE_ns hz (by omega) ⟨⟨us,h1,rfl⟩,trivial⟩ ?_
 show [AV.agg (us.map (wkN 59))]=_
 rw [h2 59 (by omega)];rfl
theorem bs3 (H:Hp) (a b c d e f:AV):buildSliceA Try.prog H 29 3 [(0,.agg [a,b]),(1,.agg [c,d]),(2,.agg [e,f])]=some (.sl H.next 0 3 2,H.alloc (.cells [a,b,c,d,e,f] 0 true)):=by kernel_rfl
theorem ix3 (r:Nat) {i:Nat} (h:i < 3):indexAddrA Try.prog 29 (.sl r 0 3 2) (.int .i64 (i:Int))=some (.ptr r (i * 2)):=by
 rw [ix29s _ _ _ _ (by omega),decide_eq_true (by omega)];simp
set_option maxRecDepth 100000 in
theorem law (raw:Pr) (hraw:raw.sz < 2 ^ 36) (l:List Int) (how a:Int) (hl:l.length < 2 ^ 63):WpCall Try.prog (cfgN pls levR) 3 [.agg raw.cells,.lst (l.map fun n=>[AV.int .i64 n]),.int .i64 how,.int .i64 a] H0 fun v _=>v=.bool true:=by
 have hw:Plain (cfgN pls levR) 3:=plainN (fun _=>rfl) rfl
 have hkeep:(cfgN pls levR).keep 3=false:=rfl
 obtain ⟨r0,r1,hrc⟩:∃ r0 r1,raw.cells=[r0,r1]:=⟨_,_,rfl⟩
 have hone:AV.one r0=true ∧ AV.one r1=true:=by
   rw [Pr.cells_eq] at hrc
   simp only [List.cons.injEq,and_true] at hrc
   obtain ⟨rfl,rfl⟩:=hrc;exact ⟨rfl,rfl⟩
 obtain ⟨q0,q1⟩:=hone
 rw [hrc]
 refine WpCall.slim (M:=31) (rs:=[.tmp 8]) (hw.call _) hw.ice hw.froz Try.func3 rfl rfl code3.2 rfl ?_;dsimp only [code3,envOf,Nat.reduceAdd]
 repeat' (first
    | (apply Rx.nl ?_;clear hK K)|apply Rx.o ?_|apply Rx.on ?_|apply Wp.seq ?_|(apply Wp.ops' fun K hK=>?_)|(apply Rx.dT 1 [(0,2),(0,6),(0,10),(7,10),(8,10)] fun K hK=>?_)|(apply Rx.dT 4 [(0,1),(2,1),(2,3)] fun K hK=>?_)|(apply Rx.nq ?_;try intro _)|(apply Rx.nt ?_ ?_ <;> clear hK K)|apply WpT.step ?_|apply Wp.block ?_|apply Rx.sk ?_|apply Rx.rt ?_|apply Rx.xt ?_)
 refine WpL.call rfl eVk eAk ?_;simp only [List.cons_append,List.nil_append,List.append_nil]
 generalize hHa:Hp.alloc H0 _=Ha
 have na:Ha.next=1:=by rw [← hHa];rfl
 have ga:=show Ha.get 0=some _ by rw [← hHa,Hp.get_alloc,if_pos (show 0=H0.next from rfl)]
 clear hHa
 refine WpCall.mono ?_ (program_wp mutL_R.toGenL (stAll mutL_R.toGenL) l hl _)
 rintro _ H1 ⟨ra,rf,x,y,cf,cg,rfl,hP1,n1,o1,_⟩
 dsimp only [setO]
 repeat' (first
    | (apply Rx.nl ?_;clear hK K)|apply Rx.o ?_|apply Rx.on ?_|apply Wp.seq ?_|(apply Wp.ops' fun K hK=>?_)|(apply Rx.dT 1 [(0,2),(0,6),(0,10),(7,10),(8,10)] fun K hK=>?_)|(apply Rx.dT 4 [(0,1),(2,1),(2,3)] fun K hK=>?_)|(apply Rx.nq ?_;try intro _)|(apply Rx.nt ?_ ?_ <;> clear hK K)|apply WpT.step ?_|apply Wp.block ?_|apply Rx.sk ?_|apply Rx.rt ?_|apply Rx.xt ?_)
 refine WpL.call rfl eVk eAk ?_;simp only [List.cons_append,List.nil_append,List.append_nil]
 refine WpCall.mono ?_ (mutProgram_wp mutL_R (stAll mutL_R.toGenL) l hl how a _)
 rintro _ H2 ⟨va,vb,p2,R,P,rfl,hM,n2,o2⟩
 have g01:=(o1 0 (by omega)).trans ga
 have g0:=(o2 0 (by omega)).trans g01
 obtain ⟨q2,q3⟩:=hM.one
 have c0:CellsW (fun q=>q < H2.next) 51 H2 [r0,r1] raw.cells:=by rw [hrc.symm];exact CellsW.pr (n:=50) raw
 have c1:CellsW (fun q=>q < H2.next) 51 H2 [.sl ra 0 2 2,.sl rf 0 2 9] (genP l).cells:=(hP1.cells.keep2 (S':=fun q=>q < H2.next) (fun q h _=>by omega) (by omega) fun q _ h=>o2 q h).up (by omega)
 have c2:CellsW (fun q=>q < H2.next) 51 H2 [va,vb] p2.cells:=hM.rd.keep2 (fun q h _=>h) (Nat.le_refl _) fun _ _ _=>rfl
 have f0:(0 == H2.next)=false:=ne_beq (by omega)
 dsimp only [setO]
 have gh0:=@bs3
 repeat' (first
    | (apply Rx.nl ?_;clear hK K)|apply Rx.o ?_|apply Rx.on ?_|apply Wp.seq ?_|(apply Wp.ops' fun K hK=>?_)|(apply Rx.dT 1 [(0,2),(0,6),(0,10),(7,10),(8,10)] fun K hK=>?_)|(apply Rx.dT 4 [(0,1),(2,1),(2,3)] fun K hK=>?_)|(apply Rx.nq ?_;try intro _)|(apply Rx.nt ?_ ?_ <;> clear hK K)|apply WpT.step ?_|apply Wp.block ?_|apply Rx.sk ?_|apply Rx.rt ?_|apply Rx.xt ?_)
 · exact eK
 have sz1:=genP_sz l
 have sz2:=hM.good.sz
 have hrows:RowsW (fun q=>q < H2.next) 51 H2 2 [[r0,r1],[.sl ra 0 2 2,.sl rf 0 2 9],[va,vb]] ([raw,genP l,p2].map Pr.cells):=⟨⟨rfl,c0⟩,⟨rfl,c1⟩,⟨rfl,c2⟩,trivial⟩
 have hone3:∀ r ∈ [[r0,r1],[.sl ra 0 2 2,.sl rf 0 2 9],[va,vb]],r.all AV.one=true:=by
   intro r hr
   simp only [List.mem_cons,List.not_mem_nil,or_false] at hr
   rcases hr with rfl|rfl|rfl <;> simp [q0,q1,q2,q3,one_sl]
 have hszs:∀ p ∈ [raw,genP l,p2],p.sz < 2 ^ 36:=by
   intro p hp
   simp only [List.mem_cons,List.not_mem_nil,or_false] at hp
   rcases hp with rfl|rfl|rfl <;> omega
 have hB:(H2.alloc (.cells [r0,r1,.sl ra 0 2 2,.sl rf 0 2 9,va,vb] 0 true)).get H2.next=some (.cells ([[r0,r1],[.sl ra 0 2 2,.sl rf 0 2 9],[va,vb]]:List (List AV)).flatten 0 true):=by rw [Hp.get_alloc,if_pos rfl];rfl
 have hr3:([[r0,r1],[.sl ra 0 2 2,.sl rf 0 2 9],[va,vb]]:List (List AV)).length=3:=rfl
 have hp3:([raw,genP l,p2]:List Pr).length=3:=rfl
 generalize ([[r0,r1],[.sl ra 0 2 2,.sl rf 0 2 9],[va,vb]]:List (List AV))=rows at *
 generalize ([raw,genP l,p2]:List Pr)=ps at *
 refine Wp.forI [18,19] [] 20 3 (fun i E H=>H.get H2.next=some (.cells rows.flatten 0 true) ∧ RowsW (fun q=>q < H2.next) 51 H 2 rows (ps.map Pr.cells)) eE ⟨hB,hrows.keep2 (fun _ _ h=>h) (Nat.le_succ _) fun q h _=>alloc_old h⟩ ?_
 clear hB hrows c0 c1 c2 g0 ga
 rintro i E H3 hi hcE hrH hnH hsI ⟨gB,hJ⟩
 (try simp only [forall_cons,forall_nil,and_true,sB,sO,Nat.reduceBEq,Nat.reduceAdd,Nat.reduceLeDiff,tyF, *] at hcE)
 (try simp only [forall_cons,forall_nil,and_true,sB,sO,Nat.reduceBEq,Nat.reduceAdd,Nat.reduceLeDiff,tyF, *] at hrH)
 (try simp only [Hp.next_alloc,Hp.next_set,H0_next,Nat.zero_add,Nat.reduceAdd] at hnH)
 have hnx:H2.next + 1 ≤ H3.next:=by simpa using hnH
 repeat' (first
    | (apply Rx.nl ?_;clear hK K)|apply Ry.o ?_|(apply Ry.cd (fun hb hbp=>?_) (fun hb hbp=>?_) <;> try (cases hb;done))|apply Wp.seq ?_|(apply Wp.ops' fun K hK=>?_)|(apply Rx.dT 1 [(0,2),(0,6),(0,10),(7,10),(8,10)] fun K hK=>?_)|(apply Rx.dT 4 [(0,1),(2,1),(2,3)] fun K hK=>?_)|(apply Rx.nq ?_;try intro _)|(apply Rx.nt ?_ ?_ <;> clear hK K)|apply WpT.step ?_|apply Wp.block ?_|apply Rx.sk ?_|apply Rx.rt ?_|apply Rx.xt ?_)
 · have hlt : i < 3 := by omega
   have hri:rows[i]?=some rows[i]:=List.getElem?_eq_getElem (by omega)
   have hpi:(ps.map Pr.cells)[i]?=some (ps[i]'(by omega)).cells:=by rw [List.getElem?_map,List.getElem?_eq_getElem (by omega)];rfl
   have hz:=hszs _ (List.getElem_mem (by omega:i < ps.length))
   have hag:=agg_row (RowsW.len hJ) hri
   obtain ⟨hl2,hc⟩:=All2.get hJ hri hpi
   have ho:=hone3 _ (List.getElem_mem (by omega:i < rows.length))
   generalize ps[i]'(by omega)=p at *
   generalize rows[i]'(by omega)=row at *
   match row,hl2 with
   | [u,v],_ =>
   simp only [List.all_cons,List.all_nil,Bool.and_true,Bool.and_eq_true] at ho
   obtain ⟨u1,v1⟩:=ho
   have hix:=ix3 H2.next hlt
   have e1:(H2.next == H3.next)=false:=ne_beq (by omega)
   repeat' (first
      | (apply Rx.nl ?_;clear hK K)|apply Rx.o ?_|apply Rx.on ?_|apply Wp.seq ?_|(apply Wp.ops' fun K hK=>?_)|(apply Rx.dT 1 [(0,2),(0,6),(0,10),(7,10),(8,10)] fun K hK=>?_)|(apply Rx.dT 4 [(0,1),(2,1),(2,3)] fun K hK=>?_)|(apply Rx.nq ?_;try intro _)|(apply Rx.nt ?_ ?_ <;> clear hK K)|apply WpT.step ?_|apply Wp.block ?_|apply Rx.sk ?_|apply Rx.rt ?_|apply Rx.xt ?_)
   refine WpL.call rfl eVk eAk ?_;simp only [List.cons_append,List.nil_append,List.append_nil]
   generalize hH4:Hp.set (Hp.alloc H3 _) H3.next _=H4
   have n4:H4.next=H3.next + 1:=by rw [← hH4];rfl
   have g4:H4.get H3.next=some (.cells [u,v] 0 true):=by rw [← hH4,Hp.get_set,if_pos rfl]
   have k4:∀ q,q < H3.next → H4.get q=H3.get q:=fun q h=>by rw [← hH4,Hp.get_set,if_neg (by omega),alloc_old h]
   clear hH4
   have hc4:=hc.keep (S':=fun q=>q < H2.next) (fun _ h=>h) (by omega:H3.next ≤ H4.next) fun q h1 h2=>k4 q h2
   refine WpCall.mono ?_ (chkX (fun _=>rfl) rfl (n:=51) (by omega) hc4 hz)
   rintro _ H5 ⟨rfl,hI5⟩
   have n5:=hI5.next
   have g5:=(hI5.out H3.next (by omega)).trans g4
   have hc5:=hc4.frame (S':=fun q=>q < H2.next) (fun _ h=>h) (by omega:H4.next ≤ H5.next) fun q _ _=>hI5.same q
   dsimp only [setO]
   repeat' (first
      | (apply Rx.nl ?_;clear hK K)|apply Rx.o ?_|apply Rx.on ?_|apply Wp.seq ?_|(apply Wp.ops' fun K hK=>?_)|(apply Rx.dT 1 [(0,2),(0,6),(0,10),(7,10),(8,10)] fun K hK=>?_)|(apply Rx.dT 4 [(0,1),(2,1),(2,3)] fun K hK=>?_)|(apply Rx.nq ?_;try intro _)|(apply Rx.nt ?_ ?_ <;> clear hK K)|apply WpT.step ?_|apply Wp.block ?_|apply Rx.sk ?_|apply Rx.rt ?_|apply Rx.xt ?_)
   refine WpL.call rfl eVk eAk ?_;simp only [List.cons_append,List.nil_append,List.append_nil]
   refine WpCall.mono ?_ (rckX (n:=51) (by omega) hc5 hz)
   rintro _ H6 ⟨rfl,hI6⟩
   have n6:=hI6.next
   have g6:=(hI6.out H3.next (by omega)).trans g5
   have gB6:=(hI6.out H2.next (by omega)).trans ((hI5.out H2.next (by omega)).trans ((k4 H2.next (by omega)).trans gB))
   have hJ6:=((hJ.keep2 (S':=fun q=>q < H2.next) (fun _ _ h=>h) (by omega:H3.next ≤ H4.next) fun q _ h=>k4 q h).icy (H':=H5) (by omega) fun q _ _=>hI5.same q).icy (H':=H6) (by omega) fun q _ _=>hI6.same q
   generalize refCheck p=e at *
   obtain ⟨x1,x2⟩:H6.next ≤ H3.next + 1 ∧ H3.next + 1 ≤ H6.next:=by omega
   have y1:H4.next ≤ H5.next:=by omega
   have y2:H5.next ≤ H6.next:=by omega
   clear n4 n5 n6
   dsimp only [setO]
   repeat' (first
      | (apply Rx.nl ?_;clear hK K)|apply Ry.o ?_|(apply Ry.cd (fun hb hbp=>?_) (fun hb hbp=>?_) <;> try (cases hb;done))|apply Wp.seq ?_|(apply Wp.ops' fun K hK=>?_)|(apply Rx.dT 1 [(0,2),(0,6),(0,10),(7,10),(8,10)] fun K hK=>?_)|(apply Rx.dT 4 [(0,1),(2,1),(2,3)] fun K hK=>?_)|(apply Rx.nq ?_;try intro _)|(apply Rx.nt ?_ ?_ <;> clear hK K)|apply WpT.step ?_|apply Wp.block ?_|apply Rx.sk ?_|apply Rx.rt ?_|apply Rx.xt ?_)
   · exact eK
   refine ⟨by omega,eL,eL,eN,(by simp only [sB,Nat.reduceBEq, *];exact i64_succ (n:=3) (by omega) (by omega)),?_⟩
   exact ⟨gB6,hJ6⟩
 · repeat' (first
      | (apply Rx.nl ?_;clear hK K)|apply Rx.o ?_|apply Rx.on ?_|(apply Rx.call ?_;first|refine Rx.k (kCEx _) ?_)|apply Wp.seq ?_|(apply Wp.ops' fun K hK=>?_)|(apply Rx.dT 1 [(0,2),(0,6),(0,10),(7,10),(8,10)] fun K hK=>?_)|(apply Rx.dT 4 [(0,1),(2,1),(2,3)] fun K hK=>?_)|(apply Rx.nq ?_;try intro _)|(apply Rx.nt ?_ ?_ <;> clear hK K)|apply WpT.step ?_|apply Wp.block ?_|apply Rx.sk ?_|apply Rx.rt ?_|apply Rx.xt ?_)
   all_goals (refine ⟨eI,_,eR,?_⟩;try simp only [oneOr])
theorem con (raw:Pr) (hraw:raw.sz < 2 ^ 36) (l:List Int) (a b:Int) (hl:l.length < 2 ^ 63):Con Try.prog (fun _=>0) 3 [.agg raw.cells,intRows l,.int .i64 a,.int .i64 b] (.bool true):=
 Con.lev fit (pls:=pls) (levR_ok _) (.cons (.agg raw.pure) (.cons (intRows_pure l) (.cons (.int _ _) (.cons (.int _ _) .nil)))) (.bool _) (law raw hraw l a b hl)
set_option maxRecDepth 100000 in
theorem walk {H:Type} {enc:TypeId × Value → H} (W:World) (v0:Value) {r:Reach} {b0:Nat} (k0:Value.okWide Try.prog W r b0 25 v0) {d:DataW H} {ps:List MemPlace} {sp:Nat → Bool} {held:Bool} (h0:DataW.Trod enc Try.prog W 0 sp held 25 v0 d ps) (s0:Rows.uptoBulk d ≤ 1048576)
   (v1:Value) {r':Reach} {b0':Nat} (k1:Value.okWide Try.prog W r' b0' 26 v1) {d':DataW H} {ps':List MemPlace} {sp':Nat → Bool} {held':Bool} (h1:DataW.Trod enc Try.prog W 0 sp' held' 26 v1 d' ps') (s1:Rows.uptoBulk d' ≤ 1048576) (a1 a2:Int) :
   Calls Try.prog 3 #[v0,v1,.int .i64 a1,.int .i64 a2] W fun e w'=>e=.returned (.bool true) ∧ Below W.heap.size W w':=by
 obtain ⟨raw,hv0,hz⟩:=prog_arg k0 h0
 obtain ⟨l,hv,hl⟩:=seeds_arg k1 h1
 exact Con.walk (ρ:=fun _=>0) (F:=memF W) (con raw (by omega) l a1 a2 hl) (memF_ok W) (VRs.cons hv0 (VRs.cons hv (VRs.cons (.int .i64 a1) (VRs.cons (.int .i64 a2) (VRs.nil _)))))
set_option maxRecDepth 100000 in
theorem lifted (os:Os) (started:os.Started) (H:Type) (enc:TypeId × Value → H) (F:Stop.Interp) :
   ReturnsInHanded {} Try.checked os 3 .any ((Rows.OpenSpec.upto Rows.checkerReferenceSpec).pre6 enc Try.prog Try.f3 Rows.checkerReferenceUptoRow.domain false) (((Rows.OpenSpec.upto Rows.checkerReferenceSpec).at F).post enc Try.prog Try.f3 false true false false):=by
 refine returnsInHanded_of_cond (C:=Try.checked) (s:=Rows.OpenSpec.upto Rows.checkerReferenceSpec) (k:=Rows.uptoSmall) rfl own started (by kernel_rfl) Try.func3
   (OpenSpec.witness (enc:=enc) (C:=Try.checked) (s:=Rows.OpenSpec.upto Rows.checkerReferenceSpec) (k:=Rows.uptoSmall) rfl false ⟨#[],#[.agg #[.slice none 0 0,.slice none 0 0],.slice none 0 0,.int .i64 0,.int .i64 0],[]⟩ 8 (by kernel_rfl) (by kernel_rfl) (by kernel_rfl)
     (x:=([.agg [.nil,.nil],.nil,.lit (.int .i64 0),.lit (.int .i64 0)],[],[])) (by kernel_rfl) rfl (by kernel_rfl)) ?_
 intro W base args ds gs before hval0 hW _ hk _
 have hval:∀ (j:Nat) t v,Try.f3.params[j]?=some t → args[j]?=some v → Value.okWide Try.prog W .any base t v:=hval0
 have hW':=hW
 obtain ⟨p,q,hA0,hV,rfl,hfz,hnd⟩:=hW
 have hA:DataW.TrodAll enc Try.prog W 0 (fun _=>true) true Try.f3.params.toList args.toList ds p:=hA0
 rw [Try.params3] at hA hval
 obtain ⟨v0,vs0,d0,ds0,p0,q0,hargs,rfl,rfl,h0,r0⟩:=trodAll_cons hA
 obtain ⟨v1,vs1,d1,ds1,p1,q1,rfl,rfl,rfl,h1,r1⟩:=trodAll_cons r0
 obtain ⟨v2,vs2,d2,ds2,p2,q2,rfl,rfl,rfl,h2,r2⟩:=trodAll_cons r1
 obtain ⟨v3,vs3,d3,ds3,p3,q3,rfl,rfl,rfl,h3,r3⟩:=trodAll_cons r2
 obtain ⟨rfl,rfl,rfl⟩:=trodAll_nil r3
 obtain rfl:args=#[v0,v1,v2,v3]:=by cases args;simp_all
 obtain ⟨rfl,rfl⟩:=trodVars_none hV
 have hk2:=of_decide_eq_true hk
 simp only [List.append_nil,Rows.uptoBulkAll] at hk2
 have k0:=hval 0 25 v0 rfl rfl
 have b0:Rows.uptoBulk d0 ≤ 1048576:=by omega
 have k1:=hval 1 26 v1 rfl rfl
 have b1:Rows.uptoBulk d1 ≤ 1048576:=by omega
 obtain ⟨a2,rfl,rfl,rfl,w2⟩:=open_int Try.underlying3 (hval 2 3 v2 rfl rfl) h2
 obtain ⟨a3,rfl,rfl,rfl,w3⟩:=open_int Try.underlying3 (hval 3 3 v3 rfl rfl) h3
 clear hA0 hval0 hk2
 refine (walk W v0 k0 h0 b0 v1 k1 h1 b1 a2 a3).mono fun e W' ⟨he,hg⟩=>?_
 subst he
 exact ⟨_,rfl,post_of_below (pv:=[]) hW' (fun _ _ _=>(trodAll_cons_mk (shut_bool Try.underlying4 _) trodAll_mk0)) (fun sp hsp=>(trodAll_cons_mk (arg_stays (by kernel_rfl) (by kernel_rfl) (of_decide_eq_true (by kernel_rfl)) h0 hg (fun p hp=>hW'.lt p hp) (fun x hx=>by simp [hx]) hsp) (trodAll_cons_mk (arg_stays (by kernel_rfl) (by kernel_rfl) (of_decide_eq_true (by kernel_rfl)) h1 hg (fun p hp=>hW'.lt p hp) (fun x hx=>by simp [hx]) hsp) (trodAll_cons_mk (shut_int Try.underlying3 w2) (trodAll_cons_mk (shut_int Try.underlying3 w3) trodAll_mk0))))) (fun _ _=>rfl) (by simp) hg (ok_one (by kernel_rfl) rfl (okWide_bool_mk Try.underlying4 _))⟩
theorem proved:Rows.CheckerReferenceUptoSaid:=
 OpenClaim.holds_of_cond 3 Try.f3 rfl rfl rfl rfl rfl rfl rfl ⟨rfl,rfl,rfl,rfl,rfl⟩ rfl rfl rfl rfl rfl (by kernel_rfl) Try.func3 (by kernel_rfl)
   (of_decide_eq_true (by kernel_rfl)) (by unfold Func.isWrapper;first|(rw [if_pos (by decide +kernel)];kernel_rfl)|(rw [if_neg (by decide +kernel)];exact ⟨rfl,rfl⟩))
   (fun os started H enc _ F=>lifted os started H enc F)
#print axioms proved
end Go.Proofs.Ytackdnelcpbfjaa.checkerReference
