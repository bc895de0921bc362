/-
  The Go function fullinglaw7.IRPrefix returns true whatever its four arguments are, and leaves all memory that was there as it was. Conditions: none.
-/
import Derived.OpenShut
import Derived.ProofKit
import Derived.Test.YtackdnelcpbfjaaSPJ
import Derived.WalkKit
set_option linter.unusedSimpArgs false
set_option linter.unusedVariables false
set_option linter.unusedSectionVars false
set_option linter.defProp false
set_option maxHeartbeats 32000000
namespace Go.Proofs.Ytackdnelcpbfjaa.iRPrefix
set_option maxRecDepth 20000
set_option maxRecDepth 20000
open Go Go.Ab
namespace tyIRPrefix
def tyF:=And.intro @tq3 (And.intro @tq60 (@tq66))
end tyIRPrefix
open tyIRPrefix Go.ChangeShapes Go.WideShapes Go.ChangeAt Go.RowKit
theorem own:ownKnob Try.prog.godebug=none:=by kernel_rfl
noncomputable def code9:{ c:SC // slim 50 (Try.f9.body.getD .skip)=c }:=by
 refine ⟨?_,?_⟩
 rotate_left
 · simp only [Try.f9, Option.getD_some, slim, slimR, slimL, slimD, slimG, Nat.blt, Nat.ble]
   rfl
noncomputable def enIEx:En:=⟨28,false,fun args=>lookK knIEx.list 28 args⟩
theorem enIEx_ok (ρ:Nat → Int):EnOk Try.prog ρ enIEx:=fun args r hr=>lookK_ok (knIEx.ok ρ) _ args r hr
noncomputable def levX:List En:=[enNd,enMut,enPick,enSo,enIEx]
theorem levX_ok (ρ:Nat → Int):EnsOk Try.prog ρ levX:=⟨enNd_ok ρ,enMut_ok ρ,enPick_ok ρ,enSo_ok ρ,enIEx_ok ρ,trivial⟩
theorem kIEx (H:Hp):WpCall Try.prog (cfgN pls levX) 28 [] H fun v H'=>v=.bool true ∧ H'=H:=WpCall.kn rfl
theorem sort_pre {x:List Nd} {k i:Nat} (hi:i < k) (hk:k ≤ x.length):sortI (x.take k) i=sortI x i:=by
 have h:=sortI_app (l:=x.take k) (m:=x.drop k) (i:=i) (by rw [List.length_take];omega)
 rw [List.take_append_drop] at h
 exact h.symm
set_option maxRecDepth 100000 in
theorem law (l:List Int) (how a cut:Int) (hl:l.length < 2 ^ 63):WpCall Try.prog (cfgN pls levX) 9 [intRows l,.int .i64 how,.int .i64 a,.int .i64 cut] H0 fun v _=>v=.bool true:=by
 have hw:Plain (cfgN pls levX) 9:=plainN (fun _=>rfl) rfl
 have hno:NdsOk (nodesL l false) ∧ nodesL l false ≠ []:=⟨nodesL_ok l,nodesL_ne l false⟩
 obtain ⟨hx,hlx,_⟩:=mutL_ok l how a
 change WpCall _ _ _ [lstI l,.int .i64 how,.int .i64 a,.int .i64 cut] _ _
 generalize hxe:mutN (nodesL l false) how a=x at hx hlx
 have hr:=pickG_range (n:=cut) (m:=(x.length:Int) + 1) (by omega) (by omega)
 obtain ⟨k,hk⟩:=Int.eq_ofNat_of_zero_le hr.1
 rw [hk] at hr
 have hkl:k ≤ x.length:=by omega
 have e1:IntKind.wrap .i64 ((x.length:Int) + 1)=(x.length:Int) + 1:=i64_id (by omega) (by omega)
 have hne:(x.length:Int) + 1 ≠ 0:=by omega
 have hsl:=slice_nd x k hkl
 have hxt:=hx.take k
 have hz1:sortI (x.take k) k=0:=by rw [sortI,if_pos (.inr (by rw [List.length_take];omega))]
 have hz2:sortI x (-1)=0:=by rw [sortI,if_pos (.inl (by omega))]
 refine WpCall.slim (M:=50) (rs:=[.tmp 8]) (hw.call _) hw.ice hw.froz Try.func9 rfl rfl code9.2 rfl ?_;dsimp only [code9,envOf,Nat.reduceAdd]
 repeat' (first
    | (apply Rx.nl ?_;clear hK K)|apply Rx.o ?_|(apply Rx.call ?_;first|refine Rx.k (nd_en (fun _=>rfl) _ hl _) ?_|refine Rx.k (mutn_en (fun _=>rfl) _ _ _ hno _) ?_|refine Rx.k (pick_en (fun _=>rfl) _ _ hne _) ?_)|(apply Rx.cd (fun hb hbp=>?_) (fun hb hbp=>?_) <;> try (cases hb;done))|apply Wp.seq ?_|(apply Wp.ops' fun K hK=>?_)|apply Wp.block ?_|apply Rx.sk ?_|apply Rx.rt ?_|apply Rx.xt ?_)
 refine Wp.forI [9,10] [] 11 k (fun i E H=>True) eE trivial ?_
 rintro i E H2 hi hcE hrH hnH hsI _
 (try simp only [forall_cons,forall_nil,and_true,sB,sO,Nat.reduceBEq,Nat.reduceAdd,Nat.reduceLeDiff,tyF, *] at hcE)
 (try simp only [forall_cons,forall_nil,and_true,sB,sO,Nat.reduceBEq,Nat.reduceAdd,Nat.reduceLeDiff,tyF, *] at hrH)
 (try simp only [Hp.next_alloc,Hp.next_set,H0_next,Nat.zero_add,Nat.reduceAdd] at hnH)
 repeat' (first
    | (apply Rx.nl ?_;clear hK K)|apply Rx.o ?_|(apply Rx.cd (fun hb hbp=>?_) (fun hb hbp=>?_) <;> try (cases hb;done))|apply Wp.seq ?_|(apply Wp.ops' fun K hK=>?_)|apply Wp.block ?_|apply Rx.sk ?_|apply Rx.rt ?_|apply Rx.xt ?_)
 · have hlt : i < k := by simpa using hb
   have hse:=sort_pre hlt hkl
   repeat' (first
      | (apply Rx.nl ?_;clear hK K)|apply Ry.o ?_|(apply Ry.call ?_;first|refine Rx.k (so_en (fun _=>rfl) _ _ hxt _) ?_|refine Rx.k (so_en (fun _=>rfl) _ _ hx _) ?_)|(apply Ry.gd (fun hg hgp=>?_) (fun hg hgp=>?_) <;> try (cases hg;done))|(apply Ry.cd (fun hb hbp=>?_) (fun hb hbp=>?_) <;> try (cases hb;done))|apply Wp.seq ?_|(apply Wp.ops' fun K hK=>?_)|apply Wp.block ?_|apply Rx.sk ?_|apply Rx.rt ?_|apply Rx.xt ?_)
   refine ⟨by omega,eL,eL,eN,(by simp only [sB,Nat.reduceBEq, *];exact i64_succ (n:=k) (by omega) (by omega)),?_⟩
   trivial
 · repeat' (first
      | (apply Rx.nl ?_;clear hK K)|apply Ry.o ?_|(apply Ry.call ?_;first|refine Rx.k (so_en (fun _=>rfl) _ _ hxt _) ?_|refine Rx.k (so_en (fun _=>rfl) _ _ hx _) ?_|refine Rx.k (kIEx _) ?_)|(apply Ry.gd (fun hg hgp=>?_) (fun hg hgp=>?_) <;> try (cases hg;done))|(apply Ry.cd (fun hb hbp=>?_) (fun hb hbp=>?_) <;> try (cases hb;done))|apply Wp.seq ?_|(apply Wp.ops' fun K hK=>?_)|apply Wp.block ?_|apply Rx.sk ?_|apply Rx.rt ?_|apply Rx.xt ?_)
   all_goals (refine ⟨eI,_,eR,?_⟩;try simp only [oneOr])
theorem con (l:List Int) (a b c:Int) (hl:l.length < 2 ^ 63):Con Try.prog (fun _=>0) 9 [intRows l,.int .i64 a,.int .i64 b,.int .i64 c] (.bool true):=
 Con.lev fit (pls:=pls) (levX_ok _) (.cons (intRows_pure l) (.cons (.int _ _) (.cons (.int _ _) (.cons (.int _ _) .nil)))) (.bool _) (law l a b c hl)
set_option maxRecDepth 100000 in
theorem walk {H:Type} {enc:TypeId × Value → H} (W:World) (v0:Value) {r:Reach} {b0:Nat} (k0:Value.okWide Try.prog W r b0 26 v0) {d:DataW H} {ps:List MemPlace} {sp:Nat → Bool} {held:Bool} (h0:DataW.Trod enc Try.prog W 0 sp held 26 v0 d ps) (a1 a2 a3:Int) :
   Calls Try.prog 9 #[v0,.int .i64 a1,.int .i64 a2,.int .i64 a3] W fun e w'=>e=.returned (.bool true) ∧ Below W.heap.size W w':=by
 obtain ⟨l,hv,hl⟩:=seeds_arg k0 h0
 exact Con.walk (ρ:=fun _=>0) (F:=memF W) (con l a1 a2 a3 hl) (memF_ok W) (VRs.cons hv (VRs.cons (.int .i64 a1) (VRs.cons (.int .i64 a2) (VRs.cons (.int .i64 a3) (VRs.nil _)))))
set_option maxRecDepth 100000 in
theorem lifted (os:Os) (started:os.Started) (H:Type) (enc:TypeId × Value → H) :
   ReturnsInHanded {} Try.checked os 9 .any (Rows.iRPrefixSpec.pre6 enc Try.prog Try.f9 Rows.iRPrefixRow.domain false) (Rows.iRPrefixSpec.post enc Try.prog Try.f9 false true false false):=by
 refine returnsInHanded_of_change (C:=Try.checked) own started (by kernel_rfl) Try.func9
   (ChangeSpec.witness6 (enc:=enc) (C:=Try.checked) false ⟨#[],#[.slice none 0 0,.int .i64 0,.int .i64 0,.int .i64 0],[]⟩ 8 (by kernel_rfl) (by kernel_rfl) (by kernel_rfl) (by kernel_rfl)) ?_
 intro W base args ds gs before hval0 hW hcnd _
 have hval:∀ (j:Nat) t v,Try.f9.params[j]?=some t → args[j]?=some v → Value.okWide Try.prog W .any base t v:=hval0
 have hW':=hW
 obtain ⟨p,q,hA0,hV,rfl,hfz,hnd⟩:=hW
 have hA:DataW.TrodAll enc Try.prog W 0 (fun _=>true) true Try.f9.params.toList args.toList ds p:=hA0
 rw [Try.params9] at hA hval
 obtain ⟨v0,vs0,d0,ds0,p0,q0,hargs,rfl,rfl,h0,r0⟩:=trodAll_cons hA
 obtain ⟨v1,vs1,d1,ds1,p1,q1,rfl,rfl,rfl,h1,r1⟩:=trodAll_cons r0
 obtain ⟨v2,vs2,d2,ds2,p2,q2,rfl,rfl,rfl,h2,r2⟩:=trodAll_cons r1
 obtain ⟨v3,vs3,d3,ds3,p3,q3,rfl,rfl,rfl,h3,r3⟩:=trodAll_cons r2
 obtain ⟨rfl,rfl,rfl⟩:=trodAll_nil r3
 obtain rfl:args=#[v0,v1,v2,v3]:=by cases args;simp_all
 obtain ⟨rfl,rfl⟩:=trodVars_none hV
 have k0:=hval 0 26 v0 rfl rfl
 obtain ⟨a1,rfl,rfl,rfl,w1⟩:=open_int Try.underlying3 (hval 1 3 v1 rfl rfl) h1
 obtain ⟨a2,rfl,rfl,rfl,w2⟩:=open_int Try.underlying3 (hval 2 3 v2 rfl rfl) h2
 obtain ⟨a3,rfl,rfl,rfl,w3⟩:=open_int Try.underlying3 (hval 3 3 v3 rfl rfl) h3
 clear hA0 hval0
 refine (walk W v0 k0 h0 a1 a2 a3).mono fun e W' ⟨he,hg⟩=>?_
 subst he
 exact ⟨_,rfl,post_of_below (pv:=[]) hW' (fun _ _ _=>(trodAll_cons_mk (shut_bool Try.underlying4 _) trodAll_mk0)) (fun sp hsp=>(trodAll_cons_mk (arg_stays (by kernel_rfl) (by kernel_rfl) (of_decide_eq_true (by kernel_rfl)) h0 hg (fun p hp=>hW'.lt p hp) (fun x hx=>by simp [hx]) hsp) (trodAll_cons_mk (shut_int Try.underlying3 w1) (trodAll_cons_mk (shut_int Try.underlying3 w2) (trodAll_cons_mk (shut_int Try.underlying3 w3) trodAll_mk0))))) (fun _ _=>rfl) (by simp) hg (ok_one (by kernel_rfl) rfl (okWide_bool_mk Try.underlying4 _))⟩
theorem over:Rows.iRPrefixRow.holds Try.pinned (OpenSpec.ofChange Rows.iRPrefixSpec):=
 OpenClaim.holds_of_wide 9 Try.f9 rfl rfl rfl rfl rfl rfl rfl ⟨rfl,rfl,rfl,rfl,rfl⟩ rfl rfl rfl rfl rfl (by kernel_rfl) Try.func9 (by kernel_rfl)
   (of_decide_eq_true (by kernel_rfl)) (by unfold Func.isWrapper;first|(rw [if_pos (by decide +kernel)];kernel_rfl)|(rw [if_neg (by decide +kernel)];exact ⟨rfl,rfl⟩))
   (fun os started H enc _=>lifted os started H enc)
theorem proved:Rows.IRPrefixSaid:=
 over
#print axioms proved
end Go.Proofs.Ytackdnelcpbfjaa.iRPrefix
