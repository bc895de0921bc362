/- Parts: I3, I4, K1, K2a, K2b, K2, K3, R3h, G1, SpecK. -/
import Derived.Test.YtackdnelcpbfjaaSDG
set_option linter.unusedSimpArgs false
set_option linter.unusedVariables false
set_option linter.unusedSectionVars false
set_option linter.defProp false
set_option maxHeartbeats 32000000
namespace Go.Proofs.Ytackdnelcpbfjaa
set_option maxRecDepth 20000
set_option maxRecDepth 20000
open Go Go.Ab
namespace tyI3
def tyF:=And.intro @tq3 (And.intro @tq26 (And.intro @tq60 (And.intro @tq66 (And.intro @tq2 (And.intro @bn1 (@bin_rem))))))
end tyI3
open tyI3
noncomputable def code104:{ c:SC // slim 80 (Try.f104.body.getD .skip)=c }:=by
 refine ⟨?_,?_⟩
 rotate_left
 · simp only [Try.f104, Option.getD_some, slim, slimR, slimL, slimD, slimG, Nat.blt, Nat.ble]
   rfl
noncomputable def code61:{ c:SC // slim 22 (Try.f61.body.getD .skip)=c }:=by
 refine ⟨?_,?_⟩
 rotate_left
 · simp only [Try.f61, Option.getD_some, slim, slimR, slimL, slimD, slimG, Nat.blt, Nat.ble]
   rfl
noncomputable def code25:{ c:SC // slim 21 (Try.f25.body.getD .skip)=c }:=by
 refine ⟨?_,?_⟩
 rotate_left
 · simp only [Try.f25, Option.getD_some, slim, slimR, slimL, slimD, slimG, Nat.blt, Nat.ble]
   rfl
theorem all2_ints (S:Nat → Prop) (n:Nat) (H:Hp):∀ s:List Int,All2 (Ic S (n + 1) H) (s.map (.int .i64)) (s.map (.int .i64))
 | []=>trivial
 | a :: s=>⟨Ic.flat ⟨.int _ _,trivial⟩,all2_ints S n H s⟩
theorem wk60_ints (n:Nat) (s:List Int):wkN (n + 2) (lstI s)=lstI s:=by
 show AV.lst ((s.map fun n=>[AV.int .i64 n]).map fun row=>row.map (wkN (n + 1)))=_
 rw [List.map_map];rfl
theorem IntN.ic {H:Hp} {v:AV} {s:List Int} {lo:Nat} (h:IntN H v s lo):∃ u,Ic (fun k=>lo ≤ k) 3 H v u ∧ wkN 60 u=lstI s:=by
 rcases h with ⟨rfl,rfl⟩|⟨r,imm,rfl,h2,h3,h4,h5⟩
 · exact ⟨.nilS,Ic.flat ⟨.nilS,trivial⟩,rfl⟩
 · refine ⟨.lst (chunk 1 s.length (s.map (.int .i64))), ⟨h4, h5, s.map (.int .i64), imm, true, s.map (.int .i64), h2, by simpa using h3, by simp, ?_, rfl⟩, ?_⟩
   · rw [List.drop_zero, Nat.mul_one, List.take_of_length_le (by simp)]
     exact all2_ints _ _ _ _
   · rw [chunkI_one];exact wk60_ints 58 s
theorem IntB.icy {S:Nat → Prop} {H H':Hp} {v:AV} {s:List Int} {lo:Nat} (h:IntB H v s lo) (k:Icy S H H'):IntB H' v s lo:=by
 obtain ⟨r,imm,rfl,h2,h3,h4,h5⟩:=h
 rcases k.same r with e|⟨cs,i,j,tip,e1,e2,e3⟩
 · exact ⟨r,imm,rfl,by rw [← e];exact h2,h3,h4,by rw [k.next];exact h5⟩
 · rw [h2] at e1
   simp only [Option.some.injEq,HB.cells.injEq] at e1
   obtain ⟨rfl,rfl,rfl⟩:=e1
   exact ⟨r,j,rfl,e2,by have:=e3 (by simpa using h3);simpa using this,h4,by rw [k.next];exact h5⟩
theorem IntN.icy {S:Nat → Prop} {H H':Hp} {v:AV} {s:List Int} {lo:Nat} (h:IntN H v s lo) (k:Icy S H H'):IntN H' v s lo:=h.imp id fun h=>h.icy k
noncomputable def enVo:En:=⟨130,true,spP (fun x=>x.2.length < 2 ^ 30) voE fun x=>.bool (validI x.1.op x.2)⟩
theorem enVo_ok (ρ:Nat → Int):EnOk Try.prog ρ enVo:=spP_ok fun x hx=>validOps_con ρ x hx
noncomputable def levS:List En:=[enW enVo,enIm]
theorem levS_ok (ρ:Nat → Int):EnsOk Try.prog ρ levS:=⟨enW_ok (enVo_ok ρ),enIm_ok ρ,trivial⟩
theorem wk60_nd (n:Nat) (x:Nd):wkN (n + 4) (.agg x.cells)=.agg x.cells:=by
 show AV.agg (x.cells.map (wkN (n + 3)))=_
 rw [Nd.cells]
 simp only [List.map_cons,List.map_nil,wk60_ints];rfl
theorem voE_ns (y:Nd × List Int):(voE y).any (hasSl 90)=false:=by
 obtain ⟨⟨op,imm,kids⟩,s⟩:=y;rfl
theorem vo_en {l:List En} (hl:∀ ar,lookN l 130 ar=(enW enVo).sp ar) (hi:iceN l 130=true) {H:Hp} {v:AV} {s:List Int} {lo:Nat} (hv:IntN H v s lo) (hs:s.length < 2 ^ 30) (n:Nd) :
   WpCall Try.prog (cfgN pls l) 130 [.agg n.cells,v] H fun w H'=>w=.bool (validI n.op s) ∧ Icy (fun k=>lo ≤ k) H H':=by
 obtain ⟨u,h1,h2⟩:=hv.ic
 obtain ⟨cs',h3⟩:∃ us,All2 (Ic (fun k=>lo ≤ k) 2 H) n.cells us ∧ us=n.cells:=by
   refine ⟨n.cells,?_,rfl⟩
   rw [Nd.cells]
   exact ⟨Ic.flat ⟨.int _ _,trivial⟩,Ic.flat ⟨.int _ _,trivial⟩,Ic.flat ⟨ints_pure _,trivial⟩,trivial⟩
 obtain ⟨h3,rfl⟩:=h3
 refine WpCall.enX (x:=((n,s):Nd × List Int)) (enc:=voE) (ok:=fun x=>x.2.length < 2 ^ 30) (out:=fun x=>.bool (validI x.1.op x.2)) (us:=[.agg n.cells,u]) (n:=3) voE_inj (fun ar=>by rw [hl];rfl) hi voE_ns hs (by omega) ⟨⟨n.cells,h3,rfl⟩,h1,trivial⟩ ?_
 show [wkN 60 (.agg n.cells),wkN 60 u]=_
 rw [h2,wk60_nd 56];rfl
theorem kidsI_step {i:Nat} {kn kids:List Int} {j:Nat} (hj:j < kids.length):kidsI i kn (kids.drop j)=if kids[j] < 0 ∨ (i:Int) ≤ kids[j] ∨ kn.getD kids[j].toNat 0=0 then none else (kidsI i kn (kids.drop (j + 1))).map fun s=>kn.getD kids[j].toNat 0 :: s:=by
 rw [List.drop_eq_getElem_cons hj,kidsI]
def KidsAt (i:Nat) (kn kids:List Int) (j:Nat) (s:List Int):Prop:=s.length=j ∧ kidsI i kn kids=(kidsI i kn (kids.drop j)).map fun t=>s ++ t
theorem KidsAt.bad {i:Nat} {kn kids:List Int} {j:Nat} {s:List Int} (h:KidsAt i kn kids j s) {kd:Int} (hg:kids[j]?=some kd) (hb:kd < 0 ∨ (i:Int) ≤ kd ∨ kn.getD kd.toNat 0=0):kidsI i kn kids=none:=by
 obtain ⟨hj,e⟩:=List.getElem?_eq_some_iff.1 hg
 rw [h.2,kidsI_step hj,e,if_pos hb];rfl
theorem KidsAt.next {i:Nat} {kn kids:List Int} {j:Nat} {s:List Int} (h:KidsAt i kn kids j s) {kd:Int} (hg:kids[j]?=some kd) (hb:¬ (kd < 0 ∨ (i:Int) ≤ kd ∨ kn.getD kd.toNat 0=0)):KidsAt i kn kids (j + 1) (s ++ [kn.getD kd.toNat 0]):=by
 obtain ⟨hj,e⟩:=List.getElem?_eq_some_iff.1 hg
 refine ⟨by simp [h.1],?_⟩
 rw [h.2,kidsI_step hj,e,if_neg hb]
 cases kidsI i kn (kids.drop (j + 1)) with
 | none=>rfl
 | some t=>simp
theorem KidsAt.done {i:Nat} {kn kids:List Int} {s:List Int} (h:KidsAt i kn kids kids.length s):kidsI i kn kids=some s:=by
 rw [h.2,List.drop_length];simp [kidsI]
theorem sort1_none {l:List Nd} {i:Nat} {kn:List Int} {n:Nd} (hn:l[i]?=some n) (h:kidsI i kn n.kids=none):sort1 l i kn=0:=by
 rw [sort1,hn];simp only [h]
theorem sort1_some {l:List Nd} {i:Nat} {kn:List Int} {n:Nd} {s:List Int} (hn:l[i]?=some n) (h:kidsI i kn n.kids=some s):sort1 l i kn=if validI n.op s && immI l n then resI n s else 0:=by
 rw [sort1,hn];simp only [h]
theorem valid_one {op:Int} {s:List Int} (h:validI op s=true) (h25:op=25):s.length=1:=by
 subst h25
 by_cases c:s.length=1
 · exact c
 · rw [valid_len (by decide) (by have e:(arI 25).1=1:=rfl;rw [e];omega)] at h;cases h
theorem valid_three {op:Int} {s:List Int} (h:validI op s=true) (h22:op=22):s.length=3:=by
 subst h22
 by_cases c:s.length=3
 · exact c
 · rw [valid_len (by decide) (by have e:(arI 22).1=3:=rfl;rw [e];omega)] at h;cases h
theorem im_ok {l:List Nd} {i:Nat} {kn s:List Int} {n:Nd} (hi:i < l.length) (hkl:∀ n ∈ l,n.kids.length < 2 ^ 30) (hk:kidsI i kn n.kids=some s) (hv:validI n.op s=true):immOk (l,n):=by
 intro h25
 have h1:=valid_one hv h25
 rw [kidsI_len hk] at h1
 obtain ⟨k,hk1⟩:=len1 h1
 simp only [] at hk1 ⊢
 obtain ⟨h3,h4,_⟩:=kidsI_mem hk k (by rw [hk1];exact List.mem_singleton_self _)
 obtain ⟨m,rfl⟩:=Int.eq_ofNat_of_zero_le h3
 have hm:m < l.length:=by omega
 exact ⟨m,l[m],by rw [hk1];rfl,List.getElem?_eq_getElem hm,by have:=hkl _ (List.getElem_mem hm);omega⟩
set_option maxRecDepth 100000 in
theorem sortOf_wp {l:List Nd} {i:Nat} {kn:List Int} {r:Nat} {H:Hp} (hl:l.length < 2 ^ 30) (hi:i < l.length) (hkl:∀ n ∈ l,n.kids.length < 2 ^ 30) (hkn:l.length ≤ kn.length) (hg:H.get r=some (.cells (kn.map (.int .i64)) 0 true)) (hr:r < H.next) :
   WpCall Try.prog (cfgN pls levS) 104 [lstN l,.int .i64 i,.sl r 0 kn.length 1] H fun v H'=>v=.int .i64 (sort1 l i kn) ∧ H.next ≤ H'.next ∧ ∀ k,k < H.next → H'.get k=H.get k:=by
 have hw:Plain (cfgN pls levS) 104:=plainN (fun _=>rfl) rfl
 have hkeep:(cfgN pls levS).keep 104=false:=rfl
 have hgi:l[i]?=some l[i]:=List.getElem?_eq_getElem hi
 have hnk:=hkl _ (List.getElem_mem hi)
 generalize l[i]=n at *
 refine WpCall.slim (M:=80) (rs:=[.tmp 6]) (hw.call _) hw.ice hw.froz Try.func104 rfl rfl code104.2 rfl ?_;dsimp only [code104,envOf,Nat.reduceAdd]
 repeat' (first
    | (apply Rx.nl ?_;clear hK K)|apply Rx.o ?_|apply Rx.on ?_|(apply Rx.gd (fun hg hgp=>?_) (fun hg hgp=>?_) <;> try (cases hg;done))|(apply Rx.cd (fun hb hbp=>?_) (fun hb hbp=>?_) <;> try (cases hb;done))|apply Wp.seq ?_|(apply Wp.ops' fun K hK=>?_)|apply Wp.block ?_|apply Rx.sk ?_|apply Rx.rt ?_|apply Rx.xt ?_)
 refine Wp.forI [0,1,2,7,16,17] [] 18 n.kids.length (fun j E H2=>∃ v s,E.at 8=v ∧ IntN H2 v s (H.next + 1) ∧ KidsAt i kn n.kids j s ∧ H2.get H.next=some (.cells n.cells 0 true) ∧ ∀ k,k < H.next → H2.get k=H.get k) eE ⟨.nilS,[],eE,.inl ⟨rfl,rfl⟩,⟨rfl,by simp⟩,by rw [Hp.get_set,if_pos rfl],fun k hk=>by rw [Hp.get_set,if_neg (by omega),Hp.get_alloc,if_neg (by omega)]⟩ ?_
 rintro j E H2 hj hcE hrH hnH hsI ⟨v,s,k8,hv,hJ,hn7,hold⟩
 (try simp only [forall_cons,forall_nil,and_true,sB,sO,Nat.reduceBEq,Nat.reduceAdd,Nat.reduceLeDiff,tyF, *] at hcE)
 (try simp only [forall_cons,forall_nil,and_true,sB,sO,Nat.reduceBEq,Nat.reduceAdd,Nat.reduceLeDiff,tyF, *] at hrH)
 (try simp only [Hp.next_alloc,Hp.next_set,H0_next,Nat.zero_add,Nat.reduceAdd] at hnH)
 repeat' (first
    | (apply Rx.nl ?_;clear hK K)|apply Rx.o ?_|apply Rx.on ?_|(apply Rx.gd (fun hg hgp=>?_) (fun hg hgp=>?_) <;> try (cases hg;done))|(apply Rx.cd (fun hb hbp=>?_) (fun hb hbp=>?_) <;> try (cases hb;done))|apply Wp.seq ?_|(apply Wp.ops' fun K hK=>?_)|apply Wp.block ?_|apply Rx.sk ?_|apply Rx.rt ?_|apply Rx.xt ?_)
 · have hlt : j < n.kids.length := by simpa using hb
   have hgx:n.kids[j]?=some n.kids[j]:=List.getElem?_eq_getElem hlt
   generalize n.kids[j]=kd at *
   have g2r:H2.get r=some (.cells (kn.map (.int .i64)) 0 true):=by rw [hold r hr];exact hg
   by_cases c1:kd < 0
   · repeat' (first
        | (apply Rx.nl ?_;clear hK K)|apply Ry.o ?_|(apply Ry.gd (fun hg hgp=>?_) (fun hg hgp=>?_) <;> try (cases hg;done))|(apply Ry.cd (fun hb hbp=>?_) (fun hb hbp=>?_) <;> try (cases hb;done))|apply Wp.seq ?_|(apply Wp.ops' fun K hK=>?_)|apply Wp.block ?_|apply Rx.sk ?_|apply Rx.rt ?_|apply Rx.xt ?_)
     all_goals (refine ⟨eI,_,eR,?_⟩;try simp only [oneOr])
     refine ⟨?_,by omega,hold⟩
     rw [sort1_none hgi (hJ.bad hgx (.inl c1))]
   by_cases c2:(i:Int) ≤ kd
   · have c1' : ¬ kd < 0 := c1
     repeat' (first
        | (apply Rx.nl ?_;clear hK K)|apply Ry.o ?_|(apply Ry.gd (fun hg hgp=>?_) (fun hg hgp=>?_) <;> try (cases hg;done))|(apply Ry.cd (fun hb hbp=>?_) (fun hb hbp=>?_) <;> try (cases hb;done))|apply Wp.seq ?_|(apply Wp.ops' fun K hK=>?_)|apply Wp.block ?_|apply Rx.sk ?_|apply Rx.rt ?_|apply Rx.xt ?_)
     all_goals (refine ⟨eI,_,eR,?_⟩;try simp only [oneOr])
     refine ⟨?_,by omega,hold⟩
     rw [sort1_none hgi (hJ.bad hgx (.inr (.inl c2)))]
   obtain ⟨m,rfl⟩:=Int.eq_ofNat_of_zero_le (Int.not_lt.1 c1)
   have hml:m < kn.length:=by omega
   have hgk:kn[m]?=some kn[m]:=List.getElem?_eq_getElem hml
   have hgd:kn.getD (m:Int).toNat 0=kn[m]:=by rw [Int.toNat_natCast,List.getD_eq_getElem?_getD,hgk];rfl
   have hia:indexAddrA Try.prog 26 (.sl r 0 kn.length 1) (.int .i64 (m:Int))=some (.ptr r m):=by rw [index_sl Try.underlying26 sz3 hml];simp
   have hld:aload Try.prog H2 3 (.ptr r m)=some (.int .i64 kn[m]):=by rw [load_one Try.underlying3 rfl g2r,List.getElem?_map,hgk];rfl
   generalize kn[m]=x at *
   repeat' (first
      | (apply Rx.nl ?_;clear hK K)|apply Ry.o ?_|(apply Ry.gd (fun hg hgp=>?_) (fun hg hgp=>?_) <;> try (cases hg;done))|(apply Ry.cd (fun hb hbp=>?_) (fun hb hbp=>?_) <;> try (cases hb;done))|apply Wp.seq ?_|(apply Wp.ops' fun K hK=>?_)|apply Wp.block ?_|apply Rx.sk ?_|apply Rx.rt ?_|apply Rx.xt ?_)
   · all_goals (refine ⟨eI, _, eR, ?_⟩; try simp only [oneOr])
     refine ⟨?_,by omega,hold⟩
     rw [sort1_none hgi (hJ.bad hgx (.inr (.inr (by rw [hgd];assumption))))]
   · have hvb : IntN (H2.alloc (.cells [.int .i64 x] 0 true)) v s (H.next + 1) := hv.keep (Nat.le_succ _) fun k hk => by rw [Hp.get_alloc, if_neg (by have := (hv.lt hk).2; omega)]
     obtain ⟨v5,H5,a5,s5,n5,f5,o5⟩:=appI_one (r:=H2.next) (imm:=0) x hvb (by simp only [Hp.next_alloc];omega) (by rw [Hp.get_alloc,if_pos rfl]) (by have:=hJ.1;omega)
     have hJn:=hJ.next hgx (by rw [hgd];rintro (h|h|h) <;> contradiction)
     rw [hgd] at hJn
     have n5':H2.next ≤ H5.next:=by simp only [Hp.next_alloc] at n5;omega
     clear n5
     have old5:∀ k,k < H.next + 1 → H5.get k=H2.get k:=fun k hk=>by rw [f5 k hk,Hp.get_alloc,if_neg (by omega)]
     refine WpL.append eV eV (by rw [hkeep];exact a5) ?_
     repeat' (first
        | (apply Rx.nl ?_;clear hK K)|apply Rx.o ?_|apply Rx.on ?_|(apply Rx.gd (fun hg hgp=>?_) (fun hg hgp=>?_) <;> try (cases hg;done))|(apply Rx.cd (fun hb hbp=>?_) (fun hb hbp=>?_) <;> try (cases hb;done))|apply Wp.seq ?_|(apply Wp.ops' fun K hK=>?_)|apply Wp.block ?_|apply Rx.sk ?_|apply Rx.rt ?_|apply Rx.xt ?_)
     clear f5 o5 a5
     refine ⟨by omega,eL,eL,eN,(by simp only [sB,Nat.reduceBEq, *];exact i64_succ (n:=n.kids.length) (by omega) (by omega)),?_⟩
     refine ⟨v5,s ++ [x],eE,.inr s5,hJn,by rw [old5 _ (by omega)];exact hn7,fun k hk=>by rw [old5 k (by omega),hold k hk]⟩
 · have hje : j = n.kids.length := by simp at hb; omega
   rw [hje] at hJ
   have hs1:=sort1_some hgi hJ.done
   have hsl2:s.length < 2 ^ 30:=by rw [hJ.1];exact hnk
   repeat' (first
      | (apply Rx.nl ?_;clear hK K)|apply Rx.o ?_|apply Rx.on ?_|(apply Rx.gd (fun hg hgp=>?_) (fun hg hgp=>?_) <;> try (cases hg;done))|(apply Rx.cd (fun hb hbp=>?_) (fun hb hbp=>?_) <;> try (cases hb;done))|apply Wp.seq ?_|(apply Wp.ops' fun K hK=>?_)|apply Wp.block ?_|apply Rx.sk ?_|apply Rx.rt ?_|apply Rx.xt ?_)
   refine WpL.call rfl eVk eAk ?_;simp only [List.cons_append,List.nil_append,List.append_nil]
   refine WpCall.mono ?_ (vo_en (fun _=>rfl) rfl hv hsl2 n)
   rintro w H4 ⟨rfl,hy⟩
   have n4:=hy.next
   have n4':H.next + 1 ≤ H4.next:=by omega
   have hv4:=hv.icy hy
   have g4:H4.get H.next=some (.cells n.cells 0 true):=by rw [hy.out _ (by omega)];exact hn7
   have o4:∀ k,k < H.next → H4.get k=H.get k:=fun k hk=>by rw [hy.out _ (by omega),hold k hk]
   clear hy n4 hv hold hn7
   dsimp only [setO]
   cases hvd:validI n.op s with
   | false =>
     repeat' (first
        | (apply Rx.nl ?_;clear hK K)|apply Rx.o ?_|apply Rx.on ?_|(apply Rx.gd (fun hg hgp=>?_) (fun hg hgp=>?_) <;> try (cases hg;done))|(apply Rx.cd (fun hb hbp=>?_) (fun hb hbp=>?_) <;> try (cases hb;done))|apply Wp.seq ?_|(apply Wp.ops' fun K hK=>?_)|apply Wp.block ?_|apply Rx.sk ?_|apply Rx.rt ?_|apply Rx.xt ?_)
     all_goals (refine ⟨eI,_,eR,?_⟩;try simp only [oneOr])
     refine ⟨?_,by omega,o4⟩
     rw [hs1,hvd];rfl
   | true =>
   have him2:=im_ok hi hkl hJ.done hvd
   rw [hvd,Bool.true_and] at hs1
   have kim:∀ H,WpCall Try.prog (cfgN pls levS) 131 [lstN l,.agg n.cells] H fun v H'=>v=.bool (immI l n) ∧ H'=H:=fun H=>WpCall.en (enc:=imE) (ok:=immOk) (out:=fun x=>.bool (immI x.1 x.2)) imE_inj (x:=(l,n)) rfl him2
   have hq:(16:Int) ≠ 0:=by decide
   repeat' (first
      | (apply Rx.nl ?_;clear hK K)|apply Rx.o ?_|apply Rx.on ?_|(apply Rx.call ?_;first|refine Rx.k (kim _) ?_)|(apply Rx.gd (fun hg hgp=>?_) (fun hg hgp=>?_) <;> try (cases hg;done))|(apply Rx.cd (fun hb hbp=>?_) (fun hb hbp=>?_) <;> try (cases hb;done))|apply Wp.seq ?_|(apply Wp.ops' fun K hK=>?_)|apply Wp.block ?_|apply Rx.sk ?_|apply Rx.rt ?_|apply Rx.xt ?_)
   all_goals (first|(refine ⟨eI,_,eR,?_⟩;(try simp only [oneOr]);refine ⟨?_,by omega,o4⟩;rw [hs1];unfold resI;clear him2 kim o4 hv4 hs1 hgi;simp_all;done)|skip)
   all_goals trace_state
   repeat' (first
      | (apply Rx.nl ?_;clear hK K)|apply Rx.o ?_|apply Rx.on ?_|(apply Rx.gd (fun hg hgp=>?_) (fun hg hgp=>?_) <;> try (cases hg;done))|(apply Rx.cd (fun hb hbp=>?_) (fun hb hbp=>?_) <;> try (cases hb;done))|apply Wp.seq ?_|(apply Wp.ops' fun K hK=>?_)|apply Wp.block ?_|apply Rx.sk ?_|apply Rx.rt ?_|apply Rx.xt ?_)
   have h22:n.op=22:=by assumption
   have hl3:=valid_three hvd h22
   rcases hv4 with ⟨_,hnil⟩|hv4
   · rw [hnil] at hl3;simp at hl3
   obtain ⟨q,hix,hlo⟩:=hv4.at (i:=1) (by omega)
   have hix':indexAddrA Try.prog 26 v (.int .i64 1)=some (.ptr q 1):=hix
   repeat' (first
      | (apply Rx.nl ?_;clear hK K)|apply Rx.o ?_|apply Rx.on ?_|(apply Rx.gd (fun hg hgp=>?_) (fun hg hgp=>?_) <;> try (cases hg;done))|(apply Rx.cd (fun hb hbp=>?_) (fun hb hbp=>?_) <;> try (cases hb;done))|apply Wp.seq ?_|(apply Wp.ops' fun K hK=>?_)|apply Wp.block ?_|apply Rx.sk ?_|apply Rx.rt ?_|apply Rx.xt ?_)
   all_goals (refine ⟨eI,_,eR,?_⟩;try simp only [oneOr])
   refine ⟨?_,by omega,o4⟩
   have hgl:s.getD 1 0=s[1]'(by omega):=by rw [List.getD_eq_getElem?_getD,List.getElem?_eq_getElem (by omega)];rfl
   rw [hs1];unfold resI
   clear him2 kim o4 hv4 hs1 hgi
   simp_all
theorem kidsI_pad {i:Nat} {a b:List Int} (ha:a.length=i):∀ ks:List Int,kidsI i (a ++ b) ks=kidsI i a ks
 | []=>rfl
 | k :: ks => by
   rw [kidsI,kidsI,kidsI_pad ha ks]
   by_cases h:k < 0 ∨ (i:Int) ≤ k
   · rw [if_pos (by omega),if_pos (by omega)]
   · have e : (a ++ b).getD k.toNat 0 = a.getD k.toNat 0 := by rw [List.getD_eq_getElem?_getD, List.getD_eq_getElem?_getD, List.getElem?_append_left (by omega)]
     rw [e]
theorem sort1_pad (l:List Nd) {i:Nat} (b:List Int):sort1 l i (sortsI l i ++ b)=sort1 l i (sortsI l i):=by
 unfold sort1
 cases l[i]? with
 | none=>rfl
 | some n=>simp only [kidsI_pad (sortsI_len l i)]
def NdsOk (l:List Nd):Prop:=l.length < 2 ^ 30 ∧ ∀ n ∈ l,n.kids.length < 2 ^ 30
def ndsE (l:List Nd):List AV:=[lstN l]
theorem ndsE_inj (x y:List Nd) (h:ndsE x=ndsE y):x=y:=by
 simp only [ndsE,List.cons.injEq,and_true] at h;exact lstN_inj h
theorem isorts_con (ρ:Nat → Int) (l:List Nd) (hl:NdsOk l):Con Try.prog ρ 61 [lstN l] (lstI (sortsI l l.length)):=Con.of_made (m:=3) (cfg:=cfgN pls levS) fit (noDec ρ) (EnsOk.look (levS_ok ρ)) (.cons (nds_pure _) .nil) (by
 obtain ⟨hl1,hl2⟩:=hl
 have hw:Plain (cfgN pls levS) 61:=plainN (fun _=>rfl) rfl
 have hmk:∀ H:Hp,makeSliceA Try.prog H 26 (.int .i64 l.length) (.int .i64 l.length)=some (.sl H.next 0 l.length 1,H.alloc (.cells ((List.replicate l.length (0:Int)).map (.int .i64)) 0 true)):=fun H=>makeI _ _ (Nat.le_refl _) (by omega)
 refine WpCall.slim (M:=22) (rs:=[.tmp 2]) (hw.call _) hw.ice hw.froz Try.func61 rfl rfl code61.2 rfl ?_;dsimp only [code61,envOf,Nat.reduceAdd]
 repeat' (first
    | (apply Rx.nl ?_;clear hK K)|apply Rx.o ?_|(apply Rx.cd (fun hb hbp=>?_) (fun hb hbp=>?_) <;> try (cases hb;done))|apply Wp.seq ?_|(apply Wp.ops' fun K hK=>?_)|apply Wp.block ?_|apply Rx.sk ?_|apply Rx.rt ?_|apply Rx.xt ?_)
 refine Wp.forI [0,2,3,9] [] 10 l.length (fun i E H=>H.get 0=some (.cells ((sortsI l i ++ List.replicate (l.length - i) 0).map (.int .i64)) 0 true)) eE (by rw [Hp.get_alloc,if_pos (by rfl)];simp [sortsI]) ?_
 rintro i E H2 hi hcE hrH hnH hsI hJ
 (try simp only [forall_cons,forall_nil,and_true,sB,sO,Nat.reduceBEq,Nat.reduceAdd,Nat.reduceLeDiff,tyF, *] at hcE)
 (try simp only [forall_cons,forall_nil,and_true,sB,sO,Nat.reduceBEq,Nat.reduceAdd,Nat.reduceLeDiff,tyF, *] at hrH)
 (try simp only [Hp.next_alloc,Hp.next_set,H0_next,Nat.zero_add,Nat.reduceAdd] at hnH)
 repeat' (first
    | (apply Rx.nl ?_;clear hK K)|apply Rx.o ?_|(apply Rx.cd (fun hb hbp=>?_) (fun hb hbp=>?_) <;> try (cases hb;done))|apply Wp.seq ?_|(apply Wp.ops' fun K hK=>?_)|apply Wp.block ?_|apply Rx.sk ?_|apply Rx.rt ?_|apply Rx.xt ?_)
 · have hlt : i < l.length := by simpa using hb
   refine WpL.call rfl eVk eAk ?_;simp only [List.cons_append,List.nil_append,List.append_nil]
   have hkl:(sortsI l i ++ List.replicate (l.length - i) (0:Int)).length=l.length:=by rw [List.length_append,sortsI_len,List.length_replicate];omega
   have hso:=sortOf_wp (l:=l) (i:=i) (kn:=sortsI l i ++ List.replicate (l.length - i) 0) (r:=0) (H:=H2) hl1 hlt hl2 (by omega) hJ (by omega)
   rw [hkl] at hso
   refine WpCall.mono ?_ hso
   rintro w H3 ⟨rfl,hn3,hold⟩
   have g3:H3.get 0=_:=(hold 0 (by omega)).trans hJ
   have n3:1 ≤ H3.next:=by omega
   rw [sort1_pad]
   dsimp only [setO]
   generalize hx:sort1 l i (sortsI l i)=x
   have hsi:sortsI l (i + 1)=sortsI l i ++ [x]:=by rw [sortsI,hx]
   repeat' (first
      | (apply Rx.nl ?_;clear hK K)|apply Ry.o ?_|apply Wp.seq ?_|(apply Wp.ops' fun K hK=>?_)|apply Wp.block ?_|apply Rx.sk ?_|apply Rx.rt ?_|apply Rx.xt ?_)
   refine WpL.store eV eV (set_int g3 (by rw [List.length_map,hkl];exact hlt) x) ?_
   repeat' (first
      | (apply Rx.nl ?_;clear hK K)|apply Rx.o ?_|(apply Rx.cd (fun hb hbp=>?_) (fun hb hbp=>?_) <;> try (cases hb;done))|apply Wp.seq ?_|(apply Wp.ops' fun K hK=>?_)|apply Wp.block ?_|apply Rx.sk ?_|apply Rx.rt ?_|apply Rx.xt ?_)
   refine ⟨by omega,eL,eL,eN,(by simp only [sB,Nat.reduceBEq, *];exact i64_succ (n:=l.length) (by omega) (by omega)),?_⟩
   rw [Hp.get_set,if_pos rfl,hsi,← List.map_set]
   have hrep:List.replicate (l.length - i) (0:Int)=0 :: List.replicate (l.length - (i + 1)) 0:=by rw [show l.length - i=(l.length - (i + 1)) + 1 by omega];rfl
   rw [hrep,List.set_append,if_neg (by rw [sortsI_len];omega),sortsI_len,Nat.sub_self,List.set_cons_zero,List.append_assoc];rfl
 · have hie : i = l.length := by simp at hb; omega
   rw [hie,Nat.sub_self] at hJ
   repeat' (first
      | (apply Rx.nl ?_;clear hK K)|apply Rx.o ?_|(apply Rx.cd (fun hb hbp=>?_) (fun hb hbp=>?_) <;> try (cases hb;done))|apply Wp.seq ?_|(apply Wp.ops' fun K hK=>?_)|apply Wp.block ?_|apply Rx.sk ?_|apply Rx.rt ?_|apply Rx.xt ?_)
   all_goals (refine ⟨eI,_,eR,?_⟩;try simp only [oneOr])
   have hb:IntB H2 (.sl 0 0 (sortsI l l.length).length 1) (sortsI l l.length) 0:=⟨0,0,rfl,by rw [hJ];simp,Nat.zero_le _,Nat.zero_le _,by omega⟩
   have:=hb.iceV 1
   rw [sortsI_len] at this
   exact this)
noncomputable def enSs:En:=⟨61,true,spP NdsOk ndsE fun l=>lstI (sortsI l l.length)⟩
theorem enSs_ok (ρ:Nat → Int):EnOk Try.prog ρ enSs:=spP_ok fun l hl=>isorts_con ρ l hl
theorem ss_en {tb:List En} (ht:∀ ar,lookN tb 61 ar=enSs.sp ar) (l:List Nd) (hl:NdsOk l) (H:Hp):WpCall Try.prog (cfgN pls tb) 61 [lstN l] H fun v H'=>v=lstI (sortsI l l.length) ∧ H'=H:=
 WpCall.en (enc:=ndsE) (ok:=NdsOk) (out:=fun l=>lstI (sortsI l l.length)) ndsE_inj (x:=l) (ht _) hl
theorem NdsOk.take {l:List Nd} (h:NdsOk l) (k:Nat):NdsOk (l.take k):=⟨by rw [List.length_take];have:=h.1;omega,fun n hn=>h.2 n (List.mem_of_mem_take hn)⟩
theorem slice_nd (l:List Nd) (k:Nat) (hk:k ≤ l.length):sliceA Try.prog 60 (.lst (l.map Nd.cells)) none (some (.int .i64 (k:Int)))=some (.lst ((l.take k).map Nd.cells)):=by
 have e1:(k:Int)=Int.ofNat k:=rfl
 simp only [sliceA,Try.underlying60,sz66,e1,boundA]
 rw [if_pos ⟨Nat.zero_le _,by rw [List.length_map];exact hk⟩]
 have e2:((l.map Nd.cells).drop 0).take (k - 0)=(l.take k).map Nd.cells:=by rw [List.drop_zero,Nat.sub_zero,List.map_take]
 rw [e2]
 cases l.take k with
 | nil=>rfl
 | cons a l=>simp only [List.map_cons,Nd.clen,if_true]
def srE (x:List Nd × Int):List AV:=[lstN x.1,.int .i64 x.2]
theorem srE_inj (x y:List Nd × Int) (h:srE x=srE y):x=y:=by
 simp only [srE,List.cons.injEq,AV.int.injEq,and_true,true_and] at h
 exact Prod.ext (lstN_inj h.1) h.2
theorem isort_con (ρ:Nat → Int) (x:List Nd × Int) (hx:NdsOk x.1):Con Try.prog ρ 25 (srE x) (.int .i64 (sortI x.1 x.2)):=Con.lev fit (pls:=pls) (l:=[enSs]) ⟨enSs_ok ρ,trivial⟩ (.cons (nds_pure _) (.cons (.int _ _) .nil)) (.int _ _) (by
 obtain ⟨l,i⟩:=x
 simp only [] at hx
 have hx1:=hx.1
 have hw:Plain (cfgN pls [enSs]) 25:=plainN (fun _=>rfl) rfl
 rw [srE]
 simp only []
 by_cases c1:i < 0
 · refine WpCall.slim (M := 21) (rs := [.tmp 4]) (hw.call _) hw.ice hw.froz Try.func25 rfl rfl code25.2 rfl ?_; dsimp only [code25, envOf, Nat.reduceAdd]
   repeat' (first
      | (apply Rx.nl ?_;clear hK K)|apply Ry.o ?_|(apply Ry.gd (fun hg hgp=>?_) (fun hg hgp=>?_) <;> try (cases hg;done))|(apply Ry.cd (fun hb hbp=>?_) (fun hb hbp=>?_) <;> try (cases hb;done))|apply Wp.seq ?_|(apply Wp.ops' fun K hK=>?_)|apply Rx.sk ?_|apply Rx.rt ?_)
   all_goals (refine ⟨eI,_,eR,?_⟩;try simp only [oneOr])
   rw [sortI,if_pos (.inl c1)]
 by_cases c2:(l.length:Int) ≤ i
 · refine WpCall.slim (M := 21) (rs := [.tmp 4]) (hw.call _) hw.ice hw.froz Try.func25 rfl rfl code25.2 rfl ?_; dsimp only [code25, envOf, Nat.reduceAdd]
   repeat' (first
      | (apply Rx.nl ?_;clear hK K)|apply Ry.o ?_|(apply Ry.gd (fun hg hgp=>?_) (fun hg hgp=>?_) <;> try (cases hg;done))|(apply Ry.cd (fun hb hbp=>?_) (fun hb hbp=>?_) <;> try (cases hb;done))|apply Wp.seq ?_|(apply Wp.ops' fun K hK=>?_)|apply Rx.sk ?_|apply Rx.rt ?_)
   all_goals (refine ⟨eI,_,eR,?_⟩;try simp only [oneOr])
   rw [sortI,if_pos (.inr c2)]
 obtain ⟨m,rfl⟩:=Int.eq_ofNat_of_zero_le (Int.not_lt.1 c1)
 have hm:m < l.length:=by omega
 have e1:IntKind.wrap .i64 ((m:Int) + 1)=((m + 1:Nat):Int):=i64_id (by omega) (by omega)
 have hsl:=slice_nd l (m + 1) (by omega)
 have htl:(l.take (m + 1)).length=m + 1:=by rw [List.length_take];omega
 have hgs:(sortsI (l.take (m + 1)) (m + 1))[m]?=some (sortI l m):=by
   rw [sortI,if_neg (by omega),Int.toNat_natCast,List.getD_eq_getElem?_getD,List.getElem?_eq_getElem (by rw [sortsI_len];omega)];rfl
 refine WpCall.slim (M:=21) (rs:=[.tmp 4]) (hw.call _) hw.ice hw.froz Try.func25 rfl rfl code25.2 rfl ?_;dsimp only [code25,envOf,Nat.reduceAdd]
 repeat' (first
    | (apply Rx.nl ?_;clear hK K)|apply Ry.o ?_|(apply Ry.call ?_;first|refine Rx.k (ss_en (fun _=>rfl) _ (hx.take _) _) ?_)|(apply Ry.gd (fun hg hgp=>?_) (fun hg hgp=>?_) <;> try (cases hg;done))|(apply Ry.cd (fun hb hbp=>?_) (fun hb hbp=>?_) <;> try (cases hb;done))|apply Wp.seq ?_|(apply Wp.ops' fun K hK=>?_)|apply Rx.sk ?_|apply Rx.rt ?_)
 all_goals (refine ⟨eI,_,eR,?_⟩;try simp only [oneOr]))
end Go.Proofs.Ytackdnelcpbfjaa
namespace Go.Proofs.Ytackdnelcpbfjaa
set_option maxRecDepth 20000
set_option maxRecDepth 20000
open Go Go.Ab
namespace tyI4
def tyF:=And.intro @tq2 (And.intro @tq3 (And.intro @tq4 (And.intro @tq26 (And.intro @tq60 (And.intro @tq66 (And.intro @tq115 (@bn1)))))))
end tyI4
open tyI4
noncomputable def code24:{ c:SC // slim 65 (Try.f24.body.getD .skip)=c }:=by
 refine ⟨?_,?_⟩
 rotate_left
 · simp only [Try.f24, Option.getD_some, slim, slimR, slimL, slimD, slimG, Nat.blt, Nat.ble]
   rfl
theorem ixB {r n m:Nat} (hm:m < n):indexAddrA Try.prog 115 (.sl r 0 n 1) (.int .i64 (m:Int))=some (.ptr r m):=by rw [index_sl Try.underlying115 sz4 hm];simp
theorem ldB {H:Hp} {r imm m:Nat} {bs:List Bool} (hg:H.get r=some (.cells (bs.map .bool) imm true)) (hm:m < bs.length):aload Try.prog H 4 (.ptr r m)=some (.bool (bs.getD m false)):=by
 rw [load_one Try.underlying4 rfl hg,List.getElem?_map,List.getD_eq_getElem?_getD,List.getElem?_eq_getElem hm];rfl
theorem setB {H:Hp} {r m:Nat} {bs:List Bool} (hg:H.get r=some (.cells (bs.map .bool) 0 true)) (hm:m < bs.length) (b:Bool):astore Try.prog H 4 (.ptr r m) (.bool b)=some (H.set r (.cells ((bs.set m b).map .bool) 0 true)):=by
 rw [set_bool hg (by rw [List.length_map];exact hm),List.map_set]
noncomputable def enSo:En:=⟨25,true,spP (fun x=>NdsOk x.1) srE fun x=>.int .i64 (sortI x.1 x.2)⟩
theorem enSo_ok (ρ:Nat → Int):EnOk Try.prog ρ enSo:=spP_ok fun x hx=>isort_con ρ x hx
theorem so_en {tb:List En} (ht:∀ ar,lookN tb 25 ar=enSo.sp ar) (l:List Nd) (i:Int) (hl:NdsOk l) (H:Hp):WpCall Try.prog (cfgN pls tb) 25 [lstN l,.int .i64 i] H fun v H'=>v=.int .i64 (sortI l i) ∧ H'=H:=
 WpCall.en (enc:=srE) (ok:=fun x=>NdsOk x.1) (out:=fun x=>.int .i64 (sortI x.1 x.2)) srE_inj (x:=(l,i)) (ht _) hl
structure DepJ (l:List Nd) (m k:Nat) (b:List Bool):Prop where
 ok:MarkOk l m k b
 eq:marksI l k b=depB l m
theorem DepJ.start {l:List Nd} {m:Nat} (h:sortI l m ≠ 0):DepJ l m (m + 1) ((List.replicate (m + 1) false).set m true):=⟨marks0 h,rfl⟩
theorem DepJ.step {l:List Nd} {m k:Nat} {b:List Bool} (h:DepJ l m (k + 1) b) (hk:k ≤ m):DepJ l m k (if b.getD k false=true then markI (match l[k]? with|some n=>n.kids|none=>[]) b else b):=⟨h.ok.step hk,h.eq⟩
theorem DepJ.done {l:List Nd} {m:Nat} {b:List Bool} (h:DepJ l m 0 b):b=depB l m:=h.eq
theorem markI_snoc (ks:List Int) (k:Int) (b:List Bool):markI (ks ++ [k]) b=(markI ks b).set k.toNat true:=by simp [markI,List.foldl_append]
def outD (b:List Bool) (i:Nat):List Int:=((List.range i).filter fun j=>b.getD j false).map fun (j:Nat)=>(j:Int)
theorem outD_succ (b:List Bool) (i:Nat):outD b (i + 1)=if b.getD i false=true then outD b i ++ [(i:Int)] else outD b i:=by
 unfold outD
 rw [List.range_succ,List.filter_append,List.map_append]
 cases h:b.getD i false
 · rw [List.filter_cons_of_neg (by rw [h];simp)];simp
 · rw [List.filter_cons_of_pos (by rw [h])];simp
theorem outD_len (b:List Bool) (i:Nat):(outD b i).length ≤ i:=by
 unfold outD;rw [List.length_map];exact Nat.le_trans (List.length_filter_le _ _) (by simp)
set_option maxRecDepth 100000 in
theorem ideps_con (ρ : Nat → Int) (x : List Nd × Int) (hx : NdsOk x.1) : Con Try.prog ρ 24 (srE x) (lstI (depsI x.1 x.2)) := Con.wk' (n := 3) (Con.of_made (r := nlI (depsI x.1 x.2)) (m := 3) (cfg := cfgN pls [enSo]) fit (noDec ρ) (EnsOk.look ⟨enSo_ok ρ, trivial⟩) (.cons (nds_pure _) (.cons (.int _ _) .nil)) (by
  obtain ⟨l,i⟩:=x
  simp only [] at hx
  have hx1:=hx.1
  have hw:Plain (cfgN pls [enSo]) 24:=plainN (fun _=>rfl) rfl
  have hkeep:(cfgN pls [enSo]).keep 24=false:=rfl
  rw [srE]
  simp only []
  by_cases c0:sortI l i=0
  · refine WpCall.slim (M := 65) (rs := [.tmp 4]) (hw.call _) hw.ice hw.froz Try.func24 rfl rfl code24.2 rfl ?_; dsimp only [code24, envOf, Nat.reduceAdd]
    repeat' (first
       | (apply Rx.nl ?_;clear hK K)|apply Ry.o ?_|(apply Ry.call ?_;first|refine Rx.k (so_en (fun _=>rfl) _ _ hx _) ?_)|(apply Ry.cd (fun hb hbp=>?_) (fun hb hbp=>?_) <;> try (cases hb;done))|apply Wp.seq ?_|(apply Wp.ops' fun K hK=>?_)|apply Wp.block ?_|apply Rx.sk ?_|apply Rx.rt ?_|apply Rx.xt ?_)
    all_goals (refine ⟨eI,_,eR,?_⟩;try simp only [oneOr])
    rw [depsI,if_pos c0];rfl
  have hr:0 ≤ i ∧ i < l.length:=by
    unfold sortI at c0
    by_cases c:i < 0 ∨ (l.length:Int) ≤ i
    · rw [if_pos c] at c0;exact absurd rfl c0
    · omega
  obtain ⟨m,rfl⟩:=Int.eq_ofNat_of_zero_le hr.1
  have hm:m < l.length:=by omega
  clear hr
  have e1:IntKind.wrap .i64 ((m:Int) + 1)=((m + 1:Nat):Int):=i64_id (by omega) (by omega)
  have hmk:∀ H:Hp,makeSliceA Try.prog H 115 (.int .i64 ((m + 1:Nat):Int)) (.int .i64 ((m + 1:Nat):Int))=some (.sl H.next 0 (m + 1) 1,H.alloc (.cells ((List.replicate (m + 1) false).map .bool) 0 true)):=fun H=>makeB _ (by omega)
  have hixm:indexAddrA Try.prog 115 (.sl 0 0 (m + 1) 1) (.int .i64 (m:Int))=some (.ptr 0 m):=ixB (by omega)
  refine WpCall.slim (M:=65) (rs:=[.tmp 4]) (hw.call _) hw.ice hw.froz Try.func24 rfl rfl code24.2 rfl ?_;dsimp only [code24,envOf,Nat.reduceAdd]
  repeat' (first
     | (apply Rx.nl ?_;clear hK K)|apply Ry.o ?_|(apply Ry.call ?_;first|refine Rx.k (so_en (fun _=>rfl) _ _ hx _) ?_)|(apply Ry.cd (fun hb hbp=>?_) (fun hb hbp=>?_) <;> try (cases hb;done))|apply Wp.seq ?_|(apply Wp.ops' fun K hK=>?_)|apply Wp.block ?_|apply Rx.sk ?_|apply Rx.rt ?_|apply Rx.xt ?_)
  refine WpL.store eV eV (setB (bs:=List.replicate (m + 1) false) (by rw [Hp.get_alloc,if_pos (by rfl)]) (by simp) true) ?_
  repeat' (first
     | (apply Rx.nl ?_;clear hK K)|apply Rx.o ?_|(apply Rx.cd (fun hb hbp=>?_) (fun hb hbp=>?_) <;> try (cases hb;done))|apply Wp.seq ?_|(apply Wp.ops' fun K hK=>?_)|apply Wp.block ?_|apply Rx.sk ?_|apply Rx.rt ?_|apply Rx.xt ?_)
  refine Wp.forM [0,4,5] [] (fun k E H=>k ≤ m + 1 ∧ E.at 7=.int .i64 ((k:Int) - 1) ∧ ∃ (b:List Bool) (c:Nat),H.get 0=some (.cells (b.map .bool) 0 true) ∧ DepJ l m k b ∧ E.at 6=.int .i64 c ∧ c + k ≤ m + 1) (m + 1) ⟨Nat.le_refl _,(by rw [show (((m + 1:Nat):Int) - 1)=m by omega];exact eE),_,0,by rw [Hp.get_set,if_pos (by rfl)],DepJ.start c0,eE,by omega⟩ ?_
  rintro k E2 H2 hcE hrH hnH ⟨hk,k7,b,c,hgb,hJ,k6,hck⟩
  (try simp only [forall_cons,forall_nil,and_true,sB,sO,Nat.reduceBEq,Nat.reduceAdd,Nat.reduceLeDiff,tyF, *] at hcE)
  have hn0:=hnH
  have hn1:1 ≤ H2.next:=hnH
  clear hnH
  cases k with
  | zero =>
    have k7':E2.at 7=.int .i64 (-1):=k7
    clear k7
    have hmi:∀ H:Hp,makeSliceA Try.prog H 26 (.int .i64 0) (.int .i64 c)=some (.sl H.next 0 0 1,H.alloc (.cells [] 0 true)):=fun H=>makeI 0 c (Nat.zero_le _) (by omega)
    have hbe:=hJ.done
    have hbl:=hJ.ok.len
    clear hJ
    repeat' (first
       | (apply Rx.nl ?_;clear hK K)|apply Ry.o ?_|(apply Ry.cd (fun hb hbp=>?_) (fun hb hbp=>?_) <;> try (cases hb;done))|apply Wp.seq ?_|(apply Wp.ops' fun K hK=>?_)|apply Wp.block ?_|apply Rx.sk ?_|apply Rx.rt ?_|apply Rx.xt ?_)
    subst hbe
    have hds:depsI l m=outD (depB l m) (m + 1):=by rw [depsI_eq,if_neg c0];rfl
    refine Wp.forI [4,5,51] [] 52 (m + 1) (fun i E H=>∃ v,E.at 10=v ∧ IntB H v (outD (depB l m) i) 1 ∧ H.get 0=some (.cells ((depB l m).map .bool) 0 true)) eE ⟨.sl H2.next 0 0 1,eE,⟨H2.next,0,rfl,by rw [Hp.get_alloc,if_pos rfl];rfl,Nat.zero_le _,hn1,Nat.lt_succ_self _⟩,by rw [Hp.get_alloc,if_neg (by omega)];exact hgb⟩ ?_
    rintro i E3 H3 hi hcE hrH hnH hsI ⟨v,k10,hv,hg3⟩
    (try simp only [forall_cons,forall_nil,and_true,sB,sO,Nat.reduceBEq,Nat.reduceAdd,Nat.reduceLeDiff,tyF, *] at hcE)
    (try simp only [forall_cons,forall_nil,and_true,sB,sO,Nat.reduceBEq,Nat.reduceAdd,Nat.reduceLeDiff,tyF, *] at hrH)
    (try simp only [Hp.next_alloc,Hp.next_set,H0_next,Nat.zero_add,Nat.reduceAdd] at hnH)
    repeat' (first
       | (apply Rx.nl ?_;clear hK K)|apply Rx.o ?_|(apply Rx.cd (fun hb hbp=>?_) (fun hb hbp=>?_) <;> try (cases hb;done))|apply Wp.seq ?_|(apply Wp.ops' fun K hK=>?_)|apply Wp.block ?_|apply Rx.sk ?_|apply Rx.rt ?_|apply Rx.xt ?_)
    · have hlt : i < m + 1 := by have := of_decide_eq_true hb; omega
      have hix:indexAddrA Try.prog 115 (.sl 0 0 (m + 1) 1) (.int .i64 (i:Int))=some (.ptr 0 i):=ixB hlt
      have hld:=ldB hg3 (m:=i) (by omega)
      have hos:=outD_succ (depB l m) i
      have hol:=outD_len (depB l m) i
      cases hbq:(depB l m).getD i false with
      | false =>
        rw [hbq] at hld hos
        rw [if_neg (by simp)] at hos
        repeat' (first
           | (apply Rx.nl ?_;clear hK K)|apply Ry.o ?_|(apply Ry.cd (fun hb hbp=>?_) (fun hb hbp=>?_) <;> try (cases hb;done))|apply Wp.seq ?_|(apply Wp.ops' fun K hK=>?_)|apply Wp.block ?_|apply Rx.sk ?_|apply Rx.rt ?_|apply Rx.xt ?_)
        refine ⟨by omega,eL,eL,eN,(by simp only [sB,Nat.reduceBEq, *];exact i64_succ (n:=m + 1) (by omega) (by omega)),?_⟩
        exact ⟨v,eE,by rw [hos];exact hv,hg3⟩
      | true =>
        rw [hbq] at hld hos
        rw [if_pos rfl] at hos
        repeat' (first
           | (apply Rx.nl ?_;clear hK K)|apply Ry.o ?_|(apply Ry.cd (fun hb hbp=>?_) (fun hb hbp=>?_) <;> try (cases hb;done))|apply Wp.seq ?_|(apply Wp.ops' fun K hK=>?_)|apply Wp.block ?_|apply Rx.sk ?_|apply Rx.rt ?_|apply Rx.xt ?_)
        have hvb:IntN (H3.alloc (.cells [.int .i64 i] 0 true)) v (outD (depB l m) i) 1:=.inr (hv.keep (Nat.le_succ _) fun k hk=>by rw [Hp.get_alloc,if_neg (by have:=(hv.lt hk).2;omega)])
        obtain ⟨v5,H5,a5,s5,n5,f5,o5⟩:=appI_one (r:=H3.next) (imm:=0) (i:Int) hvb (by simp only [Hp.next_alloc];omega) (by rw [Hp.get_alloc,if_pos rfl]) (by omega)
        have n5':H3.next ≤ H5.next:=by simp only [Hp.next_alloc] at n5;omega
        have g50:H5.get 0=some (.cells ((depB l m).map .bool) 0 true):=by rw [f5 0 (by omega),Hp.get_alloc,if_neg (by omega)];exact hg3
        clear n5 f5 o5
        refine WpL.append eV eV (by rw [hkeep];exact a5) ?_
        repeat' (first
           | (apply Rx.nl ?_;clear hK K)|apply Rx.o ?_|(apply Rx.cd (fun hb hbp=>?_) (fun hb hbp=>?_) <;> try (cases hb;done))|apply Wp.seq ?_|(apply Wp.ops' fun K hK=>?_)|apply Wp.block ?_|apply Rx.sk ?_|apply Rx.rt ?_|apply Rx.xt ?_)
        refine ⟨by omega,eL,eL,eN,(by simp only [sB,Nat.reduceBEq, *];exact i64_succ (n:=m + 1) (by omega) (by omega)),?_⟩
        exact ⟨v5,eE,by rw [hos];exact s5,g50⟩
    · have hie : i = m + 1 := by have := of_decide_eq_false hb; omega
      repeat' (first
         | (apply Rx.nl ?_;clear hK K)|apply Rx.o ?_|(apply Rx.cd (fun hb hbp=>?_) (fun hb hbp=>?_) <;> try (cases hb;done))|apply Wp.seq ?_|(apply Wp.ops' fun K hK=>?_)|apply Wp.block ?_|apply Rx.sk ?_|apply Rx.rt ?_|apply Rx.xt ?_)
      all_goals (refine ⟨eI,_,eR,?_⟩;try simp only [oneOr])
      rw [hds,nlI,if_neg (by
        intro e
        have h2:=(depB_ok c0).top
        have:(m:Int) ∈ depsI l m:=depsI_mem.2 ⟨c0,m,rfl,h2⟩
        rw [hds,e] at this;simp at this),← hie]
      exact hv.iceV 1
  | succ q =>
    have k7':E2.at 7=.int .i64 (q:Int):=by rw [k7];congr 1;omega
    clear k7
    have hbl:=hJ.ok.len
    have hix:indexAddrA Try.prog 115 (.sl 0 0 (m + 1) 1) (.int .i64 (q:Int))=some (.ptr 0 q):=ixB (by omega)
    have hld:=ldB hgb (m:=q) (by omega)
    have hqn:(0:Int) ≤ q:=by omega
    have hql:q < l.length:=by omega
    have hgx:l[q]?=some l[q]:=List.getElem?_eq_getElem hql
    have hstep:=hJ.step (by omega)
    have e2:IntKind.wrap .i64 ((q:Int) - 1)=(q:Int) - 1:=i64_id (by omega) (by omega)
    have e3:IntKind.wrap .i64 ((c:Int) + 1)=((c + 1:Nat):Int):=i64_id (by omega) (by omega)
    rw [hgx] at hstep
    simp only [] at hstep
    cases hbq:b.getD q false with
    | false =>
      rw [hbq] at hld hstep
      rw [if_neg (by simp)] at hstep
      repeat' (first
         | (apply Rx.nl ?_;clear hK K)|apply Ry.o ?_|(apply Ry.cd (fun hb hbp=>?_) (fun hb hbp=>?_) <;> try (cases hb;done))|apply Wp.seq ?_|(apply Wp.ops' fun K hK=>?_)|apply Wp.block ?_|apply Rx.sk ?_|apply Rx.rt ?_|apply Rx.xt ?_)
      refine ⟨eL,eL,hn0,q,by omega,by omega,eE,b,c,hgb,hstep,eE,by omega⟩
    | true =>
      rw [hbq] at hld hstep
      rw [if_pos rfl] at hstep
      have hkd:∀ d ∈ l[q].kids,0 ≤ d ∧ d < q ∧ sortI l d ≠ 0:=sortI_kids hgx (hJ.ok.wf q hbq).2
      have hnk:=hx.2 _ (List.getElem_mem hql)
      clear hJ
      generalize l[q]=n at *
      repeat' (first
         | (apply Rx.nl ?_;clear hK K)|apply Ry.o ?_|(apply Ry.cd (fun hb hbp=>?_) (fun hb hbp=>?_) <;> try (cases hb;done))|apply Wp.seq ?_|(apply Wp.ops' fun K hK=>?_)|apply Wp.block ?_|apply Rx.sk ?_|apply Rx.rt ?_|apply Rx.xt ?_)
      refine Wp.forI [0,4,5,6,7,38,39] [] 40 n.kids.length (fun j E H=>H.get 0=some (.cells ((markI (n.kids.take j) b).map .bool) 0 true)) eE hgb ?_
      rintro j E3 H3 hj hcE hrH hnH hsI hgj
      (try simp only [forall_cons,forall_nil,and_true,sB,sO,Nat.reduceBEq,Nat.reduceAdd,Nat.reduceLeDiff,tyF, *] at hcE)
      (try simp only [forall_cons,forall_nil,and_true,sB,sO,Nat.reduceBEq,Nat.reduceAdd,Nat.reduceLeDiff,tyF, *] at hrH)
      (try simp only [Hp.next_alloc,Hp.next_set,H0_next,Nat.zero_add,Nat.reduceAdd] at hnH)
      repeat' (first
         | (apply Rx.nl ?_;clear hK K)|apply Rx.o ?_|(apply Rx.cd (fun hb hbp=>?_) (fun hb hbp=>?_) <;> try (cases hb;done))|apply Wp.seq ?_|(apply Wp.ops' fun K hK=>?_)|apply Wp.block ?_|apply Rx.sk ?_|apply Rx.rt ?_|apply Rx.xt ?_)
      · have hlt : j < n.kids.length := by simpa using hb
        have hgy:n.kids[j]?=some n.kids[j]:=List.getElem?_eq_getElem hlt
        obtain ⟨d0,d1,d2⟩:=hkd _ (List.getElem_mem hlt)
        have htk:n.kids.take (j + 1)=n.kids.take j ++ [n.kids[j]]:=by rw [List.take_add_one,hgy];rfl
        generalize n.kids[j]=kd at *
        obtain ⟨d,rfl⟩:=Int.eq_ofNat_of_zero_le d0
        have hix2:indexAddrA Try.prog 115 (.sl 0 0 (m + 1) 1) (.int .i64 (d:Int))=some (.ptr 0 d):=ixB (by omega)
        repeat' (first
           | (apply Rx.nl ?_;clear hK K)|apply Rx.o ?_|(apply Rx.cd (fun hb hbp=>?_) (fun hb hbp=>?_) <;> try (cases hb;done))|apply Wp.seq ?_|(apply Wp.ops' fun K hK=>?_)|apply Wp.block ?_|apply Rx.sk ?_|apply Rx.rt ?_|apply Rx.xt ?_)
        refine WpL.store eV eV (setB hgj (by rw [markI_len];omega) true) ?_
        repeat' (first
           | (apply Rx.nl ?_;clear hK K)|apply Rx.o ?_|(apply Rx.cd (fun hb hbp=>?_) (fun hb hbp=>?_) <;> try (cases hb;done))|apply Wp.seq ?_|(apply Wp.ops' fun K hK=>?_)|apply Wp.block ?_|apply Rx.sk ?_|apply Rx.rt ?_|apply Rx.xt ?_)
        refine ⟨by omega,eL,eL,eN,(by simp only [sB,Nat.reduceBEq, *];exact i64_succ (n:=n.kids.length) (by omega) (by omega)),?_⟩
        rw [Hp.get_set,if_pos rfl,htk,markI_snoc,Int.toNat_natCast]
      · have hje : j = n.kids.length := by simp at hb; omega
        rw [hje,List.take_length] at hgj
        repeat' (first
           | (apply Rx.nl ?_;clear hK K)|apply Rx.o ?_|(apply Rx.cd (fun hb hbp=>?_) (fun hb hbp=>?_) <;> try (cases hb;done))|apply Wp.seq ?_|(apply Wp.ops' fun K hK=>?_)|apply Wp.block ?_|apply Rx.sk ?_|apply Rx.rt ?_|apply Rx.xt ?_)
        refine ⟨eL,eL,Nat.le_trans hn0 hnH,q,by omega,by omega,eE,_,c + 1,hgj,hstep,eE,by omega⟩)) (wk_nlI 1 _)
end Go.Proofs.Ytackdnelcpbfjaa
namespace Go.Proofs.Ytackdnelcpbfjaa
set_option maxRecDepth 20000
set_option maxRecDepth 20000
open Go Go.Ab
namespace tyK1
def tyF:=And.intro @tq3 (And.intro @tq2 (@tq26))
end tyK1
open tyK1
noncomputable def code57:{ c:SC // slim 67 (Try.f57.body.getD .skip)=c }:=by
 refine ⟨?_,?_⟩
 rotate_left
 · simp only [Try.f57, Option.getD_some, slim, slimR, slimL, slimD, slimG, Nat.blt, Nat.ble]
   rfl
noncomputable def code163:{ c:SC // slim 19 (Try.f163.body.getD .skip)=c }:=by
 refine ⟨?_,?_⟩
 rotate_left
 · simp only [Try.f163, Option.getD_some, slim, slimR, slimL, slimD, slimG, Nat.blt, Nat.ble]
   rfl
noncomputable def code148:{ c:SC // slim 29 (Try.f148.body.getD .skip)=c }:=by
 refine ⟨?_,?_⟩
 rotate_left
 · simp only [Try.f148, Option.getD_some, slim, slimR, slimL, slimD, slimG, Nat.blt, Nat.ble]
   rfl
noncomputable def code149:{ c:SC // slim 7 (Try.f149.body.getD .skip)=c }:=by
 refine ⟨?_,?_⟩
 rotate_left
 · simp only [Try.f149, Option.getD_some, slim, slimR, slimL, slimD, slimG, Nat.blt, Nat.ble]
   rfl
noncomputable def code150:{ c:SC // slim 15 (Try.f150.body.getD .skip)=c }:=by
 refine ⟨?_,?_⟩
 rotate_left
 · simp only [Try.f150, Option.getD_some, slim, slimR, slimL, slimD, slimG, Nat.blt, Nat.ble]
   rfl
theorem rarity_con (ρ:Nat → Int) (op:Int):Con Try.prog ρ 57 [.int .i64 op] (arV op):=Con.lev fit (pls:=pls) (l:=[]) trivial (.cons (.int _ _) .nil) (arV_pure op) (by
 have hw:=plain0 57
 refine WpCall.slim (M:=67) (rs:=[.tmp 2,.tmp 3]) (hw.call _) hw.ice hw.froz Try.func57 rfl rfl code57.2 rfl ?_;dsimp only [code57,envOf,Nat.reduceAdd]
 repeat' (first
    | (apply Rx.nl ?_;clear hK K)|apply Rx.o ?_|(apply Rx.gd (fun hg hgp=>?_) (fun hg hgp=>?_) <;> try (cases hg;done))|(apply Rx.cd (fun hb hbp=>?_) (fun hb hbp=>?_) <;> try (cases hb;done))|apply Wp.seq ?_|(apply Wp.ops' fun K hK=>?_)|apply Wp.block ?_|apply Rx.sk ?_|apply Rx.rt ?_)
 all_goals
   refine ⟨eI,_,eRW,?_⟩;try simp only [oneOr]
   unfold arV arI
   first
   | (rw [if_pos (by omega)];done)
   | (rw [if_neg (by omega),if_pos (by omega)];done)
   | (rw [if_neg (by omega),if_neg (by omega),if_pos (by omega)];done)
   | (rw [if_neg (by omega),if_neg (by omega),if_neg (by omega),if_pos (by omega)];done)
   | (rw [if_neg (by omega),if_neg (by omega),if_neg (by omega),if_neg (by omega),if_pos (by omega)];done)
   | (rw [if_neg (by omega),if_neg (by omega),if_neg (by omega),if_neg (by omega),if_neg (by omega),if_pos (by omega)];done)
   | (rw [if_neg (by omega),if_neg (by omega),if_neg (by omega),if_neg (by omega),if_neg (by omega),if_neg (by omega)];done))
theorem maxImm_con (ρ:Nat → Int) (op:Int):Con Try.prog ρ 163 [.int .i64 op] (.int .i64 (maxR op)):=Con.lev fit (pls:=pls) (l:=[]) trivial (.cons (.int _ _) .nil) (.int _ _) (by
 have hw:=plain0 163
 refine WpCall.slim (M:=19) (rs:=[.tmp 2]) (hw.call _) hw.ice hw.froz Try.func163 rfl rfl code163.2 rfl ?_;dsimp only [code163,envOf,Nat.reduceAdd]
 repeat' (first
    | (apply Rx.nl ?_;clear hK K)|apply Rx.o ?_|(apply Rx.cd (fun hb hbp=>?_) (fun hb hbp=>?_) <;> try (cases hb;done))|apply Wp.seq ?_|(apply Wp.ops' fun K hK=>?_)|apply Wp.block ?_|apply Rx.sk ?_|apply Rx.rt ?_)
 all_goals
   refine ⟨eI,_,eRW,?_⟩;try simp only [oneOr]
   simp_all [maxR])
noncomputable def enMx:En:=⟨163,false,spP (fun _=>True) (fun n:Int=>[.int .i64 n]) fun n=>.int .i64 (maxR n)⟩
theorem enMx_ok (ρ:Nat → Int):EnOk Try.prog ρ enMx:=spP_ok fun n _=>maxImm_con ρ n
theorem mx_en {l:List En} (hl:∀ ar,lookN l 163 ar=enMx.sp ar) (n:Int) (H:Hp):WpCall Try.prog (cfgN pls l) 163 [.int .i64 n] H fun v H'=>v=.int .i64 (maxR n) ∧ H'=H:=
 WpCall.en (enc:=fun n:Int=>[.int .i64 n]) (ok:=fun _=>True) (out:=fun n=>.int .i64 (maxR n)) i1E_inj (x:=n) (hl _) trivial
def ii2E (x:Int × Int):List AV:=[.int .i64 x.1,.int .i64 x.2]
theorem ii2E_inj (x y:Int × Int) (h:ii2E x=ii2E y):x=y:=by
 simp only [ii2E,List.cons.injEq,AV.int.injEq,and_true,true_and] at h
 exact Prod.ext h.1 h.2
theorem rvalidImm_con (ρ:Nat → Int) (x:Int × Int):Con Try.prog ρ 148 (ii2E x) (.bool (immR x.1 x.2)):=Con.lev fit (pls:=pls) (l:=[enMx]) ⟨enMx_ok ρ,trivial⟩ (.cons (.int _ _) (.cons (.int _ _) .nil)) (.bool _) (by
 obtain ⟨op,n⟩:=x
 have hw:Plain (cfgN pls [enMx]) 148:=plainN (fun _=>rfl) rfl
 rw [ii2E]
 simp only []
 refine WpCall.slim (M:=29) (rs:=[.tmp 4]) (hw.call _) hw.ice hw.froz Try.func148 rfl rfl code148.2 rfl ?_;dsimp only [code148,envOf,Nat.reduceAdd]
 repeat' (first
    | (apply Rx.nl ?_;clear hK K)|apply Rx.o ?_|(apply Rx.call ?_;first|refine Rx.k (mx_en (fun _=>rfl) _ _) ?_)|apply Rx.gu ?_|(apply Rx.gd (fun hg hgp=>?_) (fun hg hgp=>?_) <;> try (cases hg;done))|(apply Rx.cd (fun hb hbp=>?_) (fun hb hbp=>?_) <;> try (cases hb;done))|apply Wp.seq ?_|(apply Wp.ops' fun K hK=>?_)|apply Rx.sk ?_|apply Rx.rt ?_)
 all_goals
   refine ⟨eI,_,eRW,?_⟩;try simp only [oneOr]
   unfold immR
   first
   | (rw [if_pos (by assumption)];done)
   | (rw [if_neg (by assumption),if_pos (by assumption)];done)
   | (rw [if_neg (by assumption),if_neg (by omega)]
      have hm:¬ maxR op < 0:=by omega
      first
      | (simp_all;done)
      | (generalize maxR op=q at *;simp_all;done)
      | (generalize maxR op=q at *;simp_all;omega)))
noncomputable def enVI:En:=⟨148,false,spP (fun _=>True) ii2E fun x=>.bool (immR x.1 x.2)⟩
theorem enVI_ok (ρ:Nat → Int):EnOk Try.prog ρ enVI:=spP_ok fun n _=>rvalidImm_con ρ n
theorem vi_en {l:List En} (hl:∀ ar,lookN l 148 ar=enVI.sp ar) (a b:Int) (H:Hp):WpCall Try.prog (cfgN pls l) 148 [.int .i64 a,.int .i64 b] H fun v H'=>v=.bool (immR a b) ∧ H'=H:=
 WpCall.en (enc:=ii2E) (ok:=fun _=>True) (out:=fun x=>.bool (immR x.1 x.2)) ii2E_inj (x:=(a,b)) (hl _) trivial
def biE (x:Bool × Int):List AV:=[.bool x.1,.int .i64 x.2]
theorem biE_inj (x y:Bool × Int) (h:biE x=biE y):x=y:=by
 simp only [biE,List.cons.injEq,AV.int.injEq,AV.bool.injEq,and_true,true_and] at h
 exact Prod.ext h.1 h.2
theorem sortIf_con (ρ:Nat → Int) (x:Bool × Int):Con Try.prog ρ 149 (biE x) (.int .i64 (sifR x.1 x.2)):=Con.lev fit (pls:=pls) (l:=[]) trivial (.cons (.bool _) (.cons (.int _ _) .nil)) (.int _ _) (by
 obtain ⟨b,n⟩:=x
 have hw:=plain0 149
 rw [biE]
 simp only []
 cases b
 all_goals
   refine WpCall.slim (M:=7) (rs:=[.tmp 4]) (hw.call _) hw.ice hw.froz Try.func149 rfl rfl code149.2 rfl ?_;dsimp only [code149,envOf,Nat.reduceAdd]
   repeat' (first
      | (apply Rx.nl ?_;clear hK K)|apply Rx.o ?_|(apply Rx.cd (fun hb hbp=>?_) (fun hb hbp=>?_) <;> try (cases hb;done))|apply Wp.seq ?_|(apply Wp.ops' fun K hK=>?_)|apply Rx.sk ?_|apply Rx.rt ?_)
   refine ⟨eI,_,eRW,?_⟩;try simp only [oneOr]
   rfl)
noncomputable def enSi:En:=⟨149,false,spP (fun _=>True) biE fun x=>.int .i64 (sifR x.1 x.2)⟩
theorem enSi_ok (ρ:Nat → Int):EnOk Try.prog ρ enSi:=spP_ok fun n _=>sortIf_con ρ n
theorem si_en {l:List En} (hl:∀ ar,lookN l 149 ar=enSi.sp ar) (a:Bool) (b:Int) (H:Hp):WpCall Try.prog (cfgN pls l) 149 [.bool a,.int .i64 b] H fun v H'=>v=.int .i64 (sifR a b) ∧ H'=H:=
 WpCall.en (enc:=biE) (ok:=fun _=>True) (out:=fun x=>.int .i64 (sifR x.1 x.2)) biE_inj (x:=(a,b)) (hl _) trivial
def liE (s:List Int):List AV:=[lstI s]
theorem liE_inj (x y:List Int) (h:liE x=liE y):x=y:=by
 simp only [liE,List.cons.injEq,and_true] at h;exact lstI_inj h
theorem allVal_con (ρ:Nat → Int) (s:List Int) (hs:s.length < 2 ^ 60):Con Try.prog ρ 150 (liE s) (.bool (allR s)):=Con.lev fit (pls:=pls) (l:=[]) trivial (.cons (ints_pure _) .nil) (.bool _) (by
 have hw:=plain0 150
 rw [liE]
 refine WpCall.slim (M:=15) (rs:=[.tmp 2]) (hw.call _) hw.ice hw.froz Try.func150 rfl rfl code150.2 rfl ?_;dsimp only [code150,envOf,Nat.reduceAdd]
 repeat' (first
    | (apply Rx.nl ?_;clear hK K)|apply Rx.o ?_|(apply Rx.cd (fun hb hbp=>?_) (fun hb hbp=>?_) <;> try (cases hb;done))|apply Wp.seq ?_|(apply Wp.ops' fun K hK=>?_)|apply Wp.block ?_|apply Rx.sk ?_|apply Rx.rt ?_|apply Rx.xt ?_)
 refine Wp.forI [0] [] 3 s.length (fun i E H=>allR s=allR (s.drop i)) eE (by simp) ?_
 rintro i E H2 hi hcE hrH hnH hsI hJ
 (try simp only [forall_cons,forall_nil,and_true,sB,sO,Nat.reduceBEq,Nat.reduceAdd,Nat.reduceLeDiff,tyF, *] at hcE)
 (try simp only [forall_cons,forall_nil,and_true,sB,sO,Nat.reduceBEq,Nat.reduceAdd,Nat.reduceLeDiff,tyF, *] at hrH)
 (try simp only [Hp.next_alloc,Hp.next_set,H0_next,Nat.zero_add,Nat.reduceAdd] at hnH)
 repeat' (first
    | (apply Rx.nl ?_;clear hK K)|apply Rx.o ?_|(apply Rx.cd (fun hb hbp=>?_) (fun hb hbp=>?_) <;> try (cases hb;done))|apply Wp.seq ?_|(apply Wp.ops' fun K hK=>?_)|apply Wp.block ?_|apply Rx.sk ?_|apply Rx.rt ?_|apply Rx.xt ?_)
 · have hlt : i < s.length := by simpa using hb
   have hgx:s[i]?=some s[i]:=List.getElem?_eq_getElem hlt
   have hdr:allR (s.drop i)=(decide (s[i]=1) && allR (s.drop (i + 1))):=by rw [List.drop_eq_getElem_cons hlt];rfl
   repeat' (first
      | (apply Rx.nl ?_;clear hK K)|apply Rx.o ?_|(apply Rx.cd (fun hb hbp=>?_) (fun hb hbp=>?_) <;> try (cases hb;done))|apply Wp.seq ?_|(apply Wp.ops' fun K hK=>?_)|apply Wp.block ?_|apply Rx.sk ?_|apply Rx.rt ?_|apply Rx.xt ?_)
   · all_goals (refine ⟨eI, _, eR, ?_⟩; try simp only [oneOr])
     rw [hJ,hdr];(try simp only [Bool.not_eq_true',Bool.not_eq_false'] at *);simp only [*,decide_true,decide_false,Bool.false_or,Bool.or_false,Bool.true_or,Bool.or_true,Bool.false_and,Bool.and_false,Bool.true_and,Bool.and_true,Bool.not_true,Bool.not_false,if_true,if_false,Int.reduceEq]
   · refine ⟨by omega, eL, eL, eN, (by simp only [sB, Nat.reduceBEq, *]; exact i64_succ (n := s.length) (by omega) (by omega)), ?_⟩
     rw [hJ,hdr];(try simp only [Bool.not_eq_true',Bool.not_eq_false'] at *);simp only [*,decide_true,decide_false,Bool.false_or,Bool.or_false,Bool.true_or,Bool.or_true,Bool.false_and,Bool.and_false,Bool.true_and,Bool.and_true,Bool.not_true,Bool.not_false,if_true,if_false,Int.reduceEq]
 · repeat' (first
      | (apply Rx.nl ?_;clear hK K)|apply Rx.o ?_|(apply Rx.cd (fun hb hbp=>?_) (fun hb hbp=>?_) <;> try (cases hb;done))|apply Wp.seq ?_|(apply Wp.ops' fun K hK=>?_)|apply Wp.block ?_|apply Rx.sk ?_|apply Rx.rt ?_|apply Rx.xt ?_)
   all_goals (refine ⟨eI,_,eR,?_⟩;try simp only [oneOr])
   rw [hJ,show i=s.length by simp at hb;omega,List.drop_length];rfl)
noncomputable def enAv:En:=⟨150,false,spP (fun s=>s.length < 2 ^ 60) liE fun s=>.bool (allR s)⟩
theorem enAv_ok (ρ:Nat → Int):EnOk Try.prog ρ enAv:=spP_ok fun n h=>allVal_con ρ n h
theorem av_en {l:List En} (hl:∀ ar,lookN l 150 ar=enAv.sp ar) (s:List Int) (hs:s.length < 2 ^ 60) (H:Hp):WpCall Try.prog (cfgN pls l) 150 [lstI s] H fun v H'=>v=.bool (allR s) ∧ H'=H:=
 WpCall.en (enc:=liE) (ok:=fun s=>s.length < 2 ^ 60) (out:=fun s=>.bool (allR s)) liE_inj (x:=s) (hl _) hs
noncomputable def enRa:En:=⟨57,false,spP (fun _=>True) (fun n:Int=>[.int .i64 n]) arV⟩
theorem enRa_ok (ρ:Nat → Int):EnOk Try.prog ρ enRa:=spP_ok fun n _=>rarity_con ρ n
theorem ra_en {l:List En} (hl:∀ ar,lookN l 57 ar=enRa.sp ar) (n:Int) (H:Hp):WpCall Try.prog (cfgN pls l) 57 [.int .i64 n] H fun v H'=>v=arV n ∧ H'=H:=
 WpCall.en (enc:=fun n:Int=>[.int .i64 n]) (ok:=fun _=>True) (out:=arV) i1E_inj (x:=n) (hl _) trivial
end Go.Proofs.Ytackdnelcpbfjaa
namespace Go.Proofs.Ytackdnelcpbfjaa
set_option maxRecDepth 20000
set_option maxRecDepth 20000
open Go Go.Ab
namespace tyK2a
def tyF:=And.intro @tq2 (And.intro @tq3 (And.intro @tq26 (And.intro @tq60 (And.intro @tq66 (And.intro @xt0 (And.intro @xt1 (@bin_quo)))))))
end tyK2a
open tyK2a
noncomputable def code129:{ c:SC // slim 221 (Try.f129.body.getD .skip)=c }:=by
 refine ⟨?_,?_⟩
 rotate_left
 · simp only [Try.f129, Option.getD_some, slim, slimR, slimL, slimD, slimG, Nat.blt, Nat.ble]
   rfl
structure NsX where
 l:List Nd
 n:Nd
 k:List Int
def nsE (x:NsX):List AV:=[lstN x.l,.agg x.n.cells,lstI x.k]
theorem nsE_inj (x y:NsX) (h:nsE x=nsE y):x=y:=by
 obtain ⟨a,b,c⟩:=x
 obtain ⟨a',b',c'⟩:=y
 simp only [nsE,List.cons.injEq,AV.agg.injEq,and_true] at h
 rw [lstN_inj h.1,Nd.inj h.2.1,lstI_inj h.2.2]
def nsOk (x:NsX):Prop:=x.k.length=x.n.kids.length ∧ x.k.length < 2 ^ 30 ∧ (x.n.op=25 → x.n.kids.length=1 → ∃ (k:Nat) (m:Nd),x.n.kids=[(k:Int)] ∧ x.l[k]?=some m ∧ m.kids.length < 2 ^ 30)
noncomputable def levNs:List En:=[enRa,enVI,enSi,enAv]
theorem levNs_ok (ρ:Nat → Int):EnsOk Try.prog ρ levNs:=⟨enRa_ok ρ,enVI_ok ρ,enSi_ok ρ,enAv_ok ρ,trivial⟩
theorem nodeR_no {l:List Nd} {n:Nd} {k:List Int} (h:(arI n.op).2=false):nodeR l n k=0:=by rw [nodeR,if_pos h]
theorem nodeR_len {l:List Nd} {n:Nd} {k:List Int} (h:(arI n.op).2=true) (h2:0 ≤ (arI n.op).1) (h3:(n.kids.length:Int) ≠ (arI n.op).1):nodeR l n k=0:=by rw [nodeR,if_neg (by rw [h];simp),if_pos ⟨h2,h3⟩]
theorem nodeR_imm {l:List Nd} {n:Nd} {k:List Int} (h:immR n.op n.imm=false):nodeR l n k=0:=by
 rw [nodeR]
 by_cases c1:(arI n.op).2=false
 · rw [if_pos c1]
 · rw [if_neg c1]
   by_cases c2:0 ≤ (arI n.op).1 ∧ (n.kids.length:Int) ≠ (arI n.op).1
   · rw [if_pos c2]
   · rw [if_neg c2,if_pos h]
theorem nodeR_go {l:List Nd} {n:Nd} {k:List Int} (h:(arI n.op).2=true) (h2:¬ (0 ≤ (arI n.op).1 ∧ (n.kids.length:Int) ≠ (arI n.op).1)) (h3:immR n.op n.imm=true):nodeR l n k =
 if n.op=3 then (if n.imm.tmod 16=0 then 2 else 1)
 else if n.op=26 then 2
 else if n.op=22 then (if k.headD 0 ≠ 1 ∨ k.getD 1 0 ≠ k.getD 2 0 ∨ k.getD 1 0=3 then 0 else k.getD 1 0)
 else if n.op=23 then sifR (decide (k.headD 0=2) && decide (k.getD 1 0=1)) 1
 else if n.op=24 then sifR (decide (k.headD 0=2)) 1
 else if n.op=25 then (if k.headD 0 ≠ 3 ∨ (kidLen l (n.kids.headD 0)).tdiv 2 ≤ n.imm then 0 else sifR (decide (n.imm=0)) 1 + 1)
 else if n.op=27 ∨ n.op=29 then sifR (decide (k.headD 0=2) && decide (k.getD 1 0=1)) 2
 else if n.op=28 then sifR (decide (k.headD 0=2) && decide (k.getD 1 0=1) && decide (k.getD 2 0=1)) 2
 else if n.op=30 then sifR (decide (1 ≤ k.length) && decide (k.length ≤ 7) && decide (k.headD 0=2) && allR (k.drop 1)) 2
 else if n.op=31 then sifR (decide (k.length % 2=1) && decide (1 ≤ k.length / 2) && decide (k.length / 2 ≤ 16) && decide (k.headD 0=2) && allR ((k.drop 1).take (k.length / 2)) && decide (k.getD (k.length / 2 + 1) 0=2) && allR (k.drop (k.length / 2 + 2))) 3
 else sifR (allR k) 1:=by
 rw [nodeR,if_neg (by rw [h];simp),if_neg h2,if_neg (by rw [h3];simp)]
theorem ns30 {l:List Nd} {imm:Int} {kids k:List Int} (hkl:k.length=kids.length) (hkb:k.length < 2 ^ 30) (him:immR 30 imm=true) (hgo:nodeR l ⟨30,imm,kids⟩ k=sifR (decide (1 ≤ k.length) && decide (k.length ≤ 7) && decide (k.headD 0=2) && allR (k.drop 1)) 2) :
   WpCall Try.prog (cfgN pls levNs) 129 [lstN l,.agg [.int .i64 30,.int .i64 imm,lstI kids],lstI k] H0 fun v _=>v=.int .i64 (nodeR l ⟨30,imm,kids⟩ k):=by
 have hw:Plain (cfgN pls levNs) 129:=plainN (fun _=>rfl) rfl
 have hq2:(2:Int) ≠ 0:=by decide
 have hv:arV 30=.tup [.int .i64 (-1),.bool true]:=rfl
 clear hkl
 cases k with
 | nil =>
   have hg2:nodeR l ⟨30,imm,kids⟩ []=sifR false 2:=by rw [hgo];simp
   refine WpCall.slim (M:=221) (rs:=[.tmp 6]) (hw.call _) hw.ice hw.froz Try.func129 rfl rfl code129.2 rfl ?_;dsimp only [code129,envOf,Nat.reduceAdd]
   repeat' (first
      | (apply Rx.nl ?_;clear hK K)|apply Ry.o ?_|(apply Ry.call ?_;first|refine Rx.k (ra_en (fun _=>rfl) _ _) ?_|refine Rx.k (vi_en (fun _=>rfl) _ _ _) ?_|refine Rx.k (si_en (fun _=>rfl) _ _ _) ?_)|(apply Ry.gd (fun hg hgp=>?_) (fun hg hgp=>?_) <;> try (cases hg;done))|(apply Ry.cd (fun hb hbp=>?_) (fun hb hbp=>?_) <;> try (cases hb;done))|apply Wp.seq ?_|(apply Wp.ops' fun K hK=>?_)|apply Wp.block ?_|apply Rx.sk ?_|apply Rx.rt ?_)
   all_goals first
     | exact eK
     | ((refine ⟨eI,_,eRW,?_⟩;try simp only [oneOr]);rw [hg2];done)
 | cons a k =>
   have hsl:=fun a=>slice_tl a k
   simp only [List.length_cons] at hkb
   have hkb':k.length < 2 ^ 60:=by omega
   have hg2:nodeR l ⟨30,imm,kids⟩ (a :: k)=sifR (decide (((k.length + 1:Nat):Int) ≤ 7) && decide (a=2) && allR k) 2:=by
     have e1:decide (((k.length + 1:Nat):Int) ≤ 7)=decide (k.length + 1 ≤ 7):=decide_eq_decide.2 (by omega)
     rw [hgo,e1];simp
   have hge:(1:Int) ≤ ((k.length + 1:Nat):Int):=by omega
   refine WpCall.slim (M:=221) (rs:=[.tmp 6]) (hw.call _) hw.ice hw.froz Try.func129 rfl rfl code129.2 rfl ?_;dsimp only [code129,envOf,Nat.reduceAdd]
   repeat' (first
      | (apply Rx.nl ?_;clear hK K)|apply Ry.o ?_|(apply Ry.call ?_;first|refine Rx.k (ra_en (fun _=>rfl) _ _) ?_|refine Rx.k (vi_en (fun _=>rfl) _ _ _) ?_|refine Rx.k (av_en (fun _=>rfl) _ hkb' _) ?_|refine Rx.k (si_en (fun _=>rfl) _ _ _) ?_)|(apply Ry.gd (fun hg hgp=>?_) (fun hg hgp=>?_) <;> try (cases hg;done))|(apply Ry.cd (fun hb hbp=>?_) (fun hb hbp=>?_) <;> try (cases hb;done))|apply Wp.seq ?_|(apply Wp.ops' fun K hK=>?_)|apply Wp.block ?_|apply Rx.sk ?_|apply Rx.rt ?_)
   all_goals first
     | exact eK
     | ((refine ⟨eI,_,eRW,?_⟩;try simp only [oneOr]);rw [hg2];(try simp only [Bool.not_eq_true',Bool.not_eq_false'] at *);simp only [*,decide_true,decide_false,Bool.false_or,Bool.or_false,Bool.true_or,Bool.or_true,Bool.false_and,Bool.and_false,Bool.true_and,Bool.and_true,Bool.not_true,Bool.not_false,if_true,if_false,Int.reduceEq];done)
theorem ns25 {l:List Nd} {imm:Int} {kids k:List Int} (hkl:k.length=kids.length) (hkb:k.length < 2 ^ 30) (h25:kids.length=1 → ∃ (k:Nat) (m:Nd),kids=[(k:Int)] ∧ l[k]?=some m ∧ m.kids.length < 2 ^ 30) (h1:k.length=1) (him:immR 25 imm=true) (hgo:nodeR l ⟨25,imm,kids⟩ k=(if k.headD 0 ≠ 3 ∨ (kidLen l (kids.headD 0)).tdiv 2 ≤ imm then 0 else sifR (decide (imm=0)) 1 + 1)) :
   WpCall Try.prog (cfgN pls levNs) 129 [lstN l,.agg [.int .i64 25,.int .i64 imm,lstI kids],lstI k] H0 fun v _=>v=.int .i64 (nodeR l ⟨25,imm,kids⟩ k):=by
 have hw:Plain (cfgN pls levNs) 129:=plainN (fun _=>rfl) rfl
 have hq2:(2:Int) ≠ 0:=by decide
 obtain ⟨a,rfl⟩:=len1 h1
 have hk1:kids.length=1:=by rw [← hkl];exact h1
 obtain ⟨kd,m,rfl,hm,hmb⟩:=h25 hk1
 have hv:arV 25=.tup [.int .i64 1,.bool true]:=rfl
 have hkl2:kidLen l (kd:Int)=m.kids.length:=by rw [kidLen,Int.toNat_natCast,hm]
 have hg2:nodeR l ⟨25,imm,[(kd:Int)]⟩ [a]=if a ≠ 3 ∨ (m.kids.length:Int).tdiv 2 ≤ imm then 0 else sifR (decide (imm=0)) 1 + 1:=by rw [hgo];simp [hkl2]
 have e1:IntKind.wrap .i64 ((m.kids.length:Int).tdiv 2)=(m.kids.length:Int).tdiv 2:=by
   rw [Int.tdiv_eq_ediv_of_nonneg (by omega)];exact i64_id (by omega) (by omega)
 have hgk:([(kd:Int)]:List Int)[0]?=some (kd:Int):=rfl
 have e2:IntKind.wrap .i64 (sifR (decide (imm=0)) 1 + 1)=sifR (decide (imm=0)) 1 + 1:=by
   unfold sifR;split <;> rfl
 refine WpCall.slim (M:=221) (rs:=[.tmp 6]) (hw.call _) hw.ice hw.froz Try.func129 rfl rfl code129.2 rfl ?_;dsimp only [code129,envOf,Nat.reduceAdd]
 repeat' (first
    | (apply Rx.nl ?_;clear hK K)|apply Ry.o ?_|(apply Ry.call ?_;first|refine Rx.k (ra_en (fun _=>rfl) _ _) ?_|refine Rx.k (vi_en (fun _=>rfl) _ _ _) ?_|refine Rx.k (si_en (fun _=>rfl) _ _ _) ?_)|(apply Ry.gd (fun hg hgp=>?_) (fun hg hgp=>?_) <;> try (cases hg;done))|(apply Ry.cd (fun hb hbp=>?_) (fun hb hbp=>?_) <;> try (cases hb;done))|apply Wp.seq ?_|(apply Wp.ops' fun K hK=>?_)|(apply Rx.dT 12 [(2,19),(7,19),(10,19),(16,19)] fun K hK=>?_)|(apply Rx.dT 20 [(2,19),(6,19),(9,19),(11,19),(14,19),(15,19)] fun K hK=>?_)|(apply Rx.nq ?_;try intro _)|(apply Rx.nt ?_ ?_ <;> clear hK K)|apply WpT.step ?_|(apply Ry.gt (fun hg hgp=>?_) (fun hg hgp=>?_) <;> try (cases hg;done))|apply Wp.block ?_|apply Rx.sk ?_|apply Rx.rt ?_)
 clear hkl hkl2 hgo h25
 all_goals first
   | exact eK
   | ((refine ⟨eI,_,eRW,?_⟩;try simp only [oneOr]);rw [hg2,if_pos (by simp_all;done)];done)
   | ((refine ⟨eI,_,eRW,?_⟩;try simp only [oneOr]);rw [hg2,if_neg (by simp_all;done)];done)
end Go.Proofs.Ytackdnelcpbfjaa
namespace Go.Proofs.Ytackdnelcpbfjaa
set_option maxRecDepth 20000
set_option maxRecDepth 20000
open Go Go.Ab
namespace tyK2b
def tyF:=And.intro @tq2 (And.intro @tq3 (And.intro @tq26 (And.intro @tq60 (And.intro @tq66 (And.intro @xt0 (And.intro @xt1 (And.intro @bin_rem (@bin_quo))))))))
end tyK2b
open tyK2b
theorem slice_ab (s:List Int) {a b:Nat} (h1:a ≤ b) (h2:b ≤ s.length):sliceA Try.prog 26 (.lst (s.map fun n=>[AV.int .i64 n])) (some (.int .i64 (a:Int))) (some (.int .i64 (b:Int)))=some (.lst (((s.drop a).take (b - a)).map fun n=>[AV.int .i64 n])):=by
 have e1:(a:Int)=Int.ofNat a:=rfl
 have e2:(b:Int)=Int.ofNat b:=rfl
 simp only [sliceA,Try.underlying26,sz3,e1,e2,boundA]
 rw [if_pos ⟨h1,by rw [List.length_map];exact h2⟩,← List.map_drop,← List.map_take]
 cases (s.drop a).take (b - a) with
 | nil=>rfl
 | cons x l=>rfl
theorem slice_a (s:List Int) {a:Nat} (h1:a ≤ s.length):sliceA Try.prog 26 (.lst (s.map fun n=>[AV.int .i64 n])) (some (.int .i64 (a:Int))) none=some (.lst ((s.drop a).map fun n=>[AV.int .i64 n])):=by
 have e1:(a:Int)=Int.ofNat a:=rfl
 simp only [sliceA,Try.underlying26,sz3,e1,boundA]
 rw [if_pos ⟨by rw [List.length_map];exact h1,Nat.le_refl _⟩,List.take_of_length_le (by simp),← List.map_drop]
 cases s.drop a with
 | nil=>rfl
 | cons x l=>rfl
theorem ns31 {l : List Nd} {imm : Int} {kids k : List Int} (hkb : k.length < 2 ^ 30) (him : immR 31 imm = true) (hgo : nodeR l ⟨31, imm, kids⟩ k = sifR (decide (k.length % 2 = 1) && decide (1 ≤ k.length / 2) && decide (k.length / 2 ≤ 16) && decide (k.headD 0 = 2) && allR ((k.drop 1).take (k.length / 2)) && decide (k.getD (k.length / 2 + 1) 0 = 2) && allR (k.drop (k.length / 2 + 2))) 3) :
    WpCall Try.prog (cfgN pls levNs) 129 [lstN l,.agg [.int .i64 31,.int .i64 imm,lstI kids],lstI k] H0 fun v _=>v=.int .i64 (nodeR l ⟨31,imm,kids⟩ k):=by
  have hw:Plain (cfgN pls levNs) 129:=plainN (fun _=>rfl) rfl
  have hq2:(2:Int) ≠ 0:=by decide
  have hv:arV 31=.tup [.int .i64 (-1),.bool true]:=rfl
  have e1:IntKind.wrap .i64 ((k.length:Int).tdiv 2)=((k.length / 2:Nat):Int):=by
    rw [Int.tdiv_eq_ediv_of_nonneg (by omega),i64_id (by omega) (by omega)];omega
  have e2:(k.length:Int).tmod 2=((k.length % 2:Nat):Int):=by rw [Int.tmod_eq_emod_of_nonneg (by omega)];omega
  by_cases hc:k.length % 2=1 ∧ 1 ≤ k.length / 2 ∧ k.length / 2 ≤ 16
  · obtain ⟨h1, h2, h3⟩ := hc
    have e3:IntKind.wrap .i64 (((k.length / 2:Nat):Int) + 1)=((k.length / 2 + 1:Nat):Int):=i64_id (by omega) (by omega)
    have e4:IntKind.wrap .i64 (((k.length / 2:Nat):Int) + 2)=((k.length / 2 + 2:Nat):Int):=i64_id (by omega) (by omega)
    obtain ⟨x,hx⟩:∃ x,k[0]?=some x:=⟨_,List.getElem?_eq_getElem (by omega)⟩
    obtain ⟨y,hy⟩:∃ y,k[k.length / 2 + 1]?=some y:=⟨_,List.getElem?_eq_getElem (by omega)⟩
    have g1:k.headD 0=x:=by rw [List.headD_eq_head?_getD,List.head?_eq_getElem?,hx];rfl
    have g2:k.getD (k.length / 2 + 1) 0=y:=by rw [List.getD_eq_getElem?_getD,hy];rfl
    have hs1:=slice_ab k (a:=1) (b:=k.length / 2 + 1) (by omega) (by omega)
    have hs2:=slice_a k (a:=k.length / 2 + 2) (by omega)
    have el1:((k.drop 1).take (k.length / 2 + 1 - 1)).length < 2 ^ 60:=by rw [List.length_take];omega
    have el2:(k.drop (k.length / 2 + 2)).length < 2 ^ 60:=by rw [List.length_drop];omega
    have hg2:nodeR l ⟨31,imm,kids⟩ k=sifR (decide (x=2) && allR ((k.drop 1).take (k.length / 2 + 1 - 1)) && decide (y=2) && allR (k.drop (k.length / 2 + 2))) 3:=by
      rw [hgo,g1,g2,decide_eq_true h1,decide_eq_true h2,decide_eq_true h3,Nat.add_sub_cancel];rfl
    clear hgo g1 g2
    have e5:(k.length:Int).tmod 2=1:=by rw [e2];omega
    have h2':(1:Int) ≤ ((k.length / 2:Nat):Int):=by omega
    have h3':((k.length / 2:Nat):Int) ≤ 16:=by omega
    have hs1':sliceA Try.prog 26 (.lst (k.map fun n=>[AV.int .i64 n])) (some (.int .i64 1)) (some (.int .i64 ((k.length / 2 + 1:Nat):Int)))=some (.lst (((k.drop 1).take (k.length / 2 + 1 - 1)).map fun n=>[AV.int .i64 n])):=hs1
    clear hs1 e2 h2 h3
    generalize (k.drop 1).take (k.length / 2 + 1 - 1)=p at *
    generalize k.drop (k.length / 2 + 2)=q at *
    generalize k.length / 2 + 1=u at *
    generalize k.length / 2 + 2=w at *
    generalize k.length / 2=m at *
    refine WpCall.slim (M:=221) (rs:=[.tmp 6]) (hw.call _) hw.ice hw.froz Try.func129 rfl rfl code129.2 rfl ?_;dsimp only [code129,envOf,Nat.reduceAdd]
    repeat' (first
       | (apply Rx.nl ?_;clear hK K)|apply Ry.o ?_|(apply Ry.call ?_;first|refine Rx.k (ra_en (fun _=>rfl) _ _) ?_|refine Rx.k (vi_en (fun _=>rfl) _ _ _) ?_|refine Rx.k (av_en (fun _=>rfl) _ el1 _) ?_|refine Rx.k (av_en (fun _=>rfl) _ el2 _) ?_|refine Rx.k (si_en (fun _=>rfl) _ _ _) ?_)|(apply Ry.gd (fun hg hgp=>?_) (fun hg hgp=>?_) <;> try (cases hg;done))|(apply Ry.cd (fun hb hbp=>?_) (fun hb hbp=>?_) <;> try (cases hb;done))|apply Wp.seq ?_|(apply Wp.ops' fun K hK=>?_)|apply Wp.block ?_|apply Rx.sk ?_|apply Rx.rt ?_)
    all_goals first
      | exact eK
      | ((refine ⟨eI,_,eRW,?_⟩;try simp only [oneOr]);rw [hg2];(try simp only [Bool.not_eq_true',Bool.not_eq_false'] at *);simp only [*,decide_true,decide_false,Bool.false_or,Bool.or_false,Bool.true_or,Bool.or_true,Bool.false_and,Bool.and_false,Bool.true_and,Bool.and_true,Bool.not_true,Bool.not_false,if_true,if_false,Int.reduceEq];done)
  · have hg2 : nodeR l ⟨31, imm, kids⟩ k = sifR false 3 := by
      have hf:(decide (k.length % 2=1) && decide (1 ≤ k.length / 2) && decide (k.length / 2 ≤ 16))=false:=by
        rw [Bool.and_eq_false_iff,Bool.and_eq_false_iff,decide_eq_false_iff_not,decide_eq_false_iff_not,decide_eq_false_iff_not];omega
      rw [hgo,hf];rfl
    clear hgo
    generalize k.length / 2=m at *
    generalize k.length % 2=r at *
    refine WpCall.slim (M:=221) (rs:=[.tmp 6]) (hw.call _) hw.ice hw.froz Try.func129 rfl rfl code129.2 rfl ?_;dsimp only [code129,envOf,Nat.reduceAdd]
    repeat' (first
       | (apply Rx.nl ?_;clear hK K)|apply Ry.o ?_|(apply Ry.call ?_;first|refine Rx.k (ra_en (fun _=>rfl) _ _) ?_|refine Rx.k (vi_en (fun _=>rfl) _ _ _) ?_|refine Rx.k (si_en (fun _=>rfl) _ _ _) ?_)|(apply Ry.gd (fun hg hgp=>?_) (fun hg hgp=>?_) <;> try (cases hg;done))|(apply Ry.cd (fun hb hbp=>?_) (fun hb hbp=>?_) <;> try (cases hb;done))|apply Wp.seq ?_|(apply Wp.ops' fun K hK=>?_)|apply Wp.block ?_|apply Rx.sk ?_|apply Rx.rt ?_)
    all_goals first
      | exact eK
      | ((refine ⟨eI,_,eRW,?_⟩;try simp only [oneOr]);rw [hg2];done)
      | (exfalso;omega)
end Go.Proofs.Ytackdnelcpbfjaa
namespace Go.Proofs.Ytackdnelcpbfjaa
set_option maxRecDepth 20000
set_option maxRecDepth 20000
open Go Go.Ab
namespace tyK2
def tyF:=And.intro @tq2 (And.intro @tq3 (And.intro @tq26 (And.intro @tq60 (And.intro @tq66 (And.intro @xt0 (And.intro @xt1 (@bin_rem)))))))
end tyK2
open tyK2
theorem nodeSort_con (ρ:Nat → Int) (x:NsX) (hx:nsOk x):Con Try.prog ρ 129 (nsE x) (.int .i64 (nodeR x.l x.n x.k)):=Con.lev fit (pls:=pls) (levNs_ok ρ) (.cons (nds_pure _) (.cons (.agg (Nd.pure _)) (.cons (ints_pure _) .nil))) (.int _ _) (by
 obtain ⟨l,⟨op,imm,kids⟩,k⟩:=x
 obtain ⟨hkl,hkb,h25⟩:=hx
 have hw:Plain (cfgN pls levNs) 129:=plainN (fun _=>rfl) rfl
 rw [nsE]
 simp only [Nd.cells] at hkl hkb h25 ⊢
 have hq:(16:Int) ≠ 0:=by decide
 have hq2:(2:Int) ≠ 0:=by decide
 cases hok:(arI op).2 with
 | false =>
   have hv:arV op=.tup [.int .i64 (arI op).1,.bool false]:=by rw [arV,hok]
   refine WpCall.slim (M:=221) (rs:=[.tmp 6]) (hw.call _) hw.ice hw.froz Try.func129 rfl rfl code129.2 rfl ?_;dsimp only [code129,envOf,Nat.reduceAdd]
   repeat' (first
      | (apply Rx.nl ?_;clear hK K)|apply Ry.o ?_|(apply Ry.call ?_;first|refine Rx.k (ra_en (fun _=>rfl) _ _) ?_)|apply Ry.gu ?_|(apply Ry.gd (fun hg hgp=>?_) (fun hg hgp=>?_) <;> try (cases hg;done))|(apply Ry.cd (fun hb hbp=>?_) (fun hb hbp=>?_) <;> try (cases hb;done))|apply Wp.seq ?_|(apply Wp.ops' fun K hK=>?_)|(apply Rx.dT 12 [(2,19),(7,19),(10,19),(16,19)] fun K hK=>?_)|(apply Rx.dT 20 [(2,19),(6,19),(9,19),(11,19),(14,19),(15,19)] fun K hK=>?_)|(apply Rx.nq ?_;try intro _)|(apply Rx.nt ?_ ?_ <;> clear hK K)|apply WpT.step ?_|(apply Ry.gt (fun hg hgp=>?_) (fun hg hgp=>?_) <;> try (cases hg;done))|apply Wp.block ?_|apply Rx.sk ?_|apply Rx.rt ?_)
   all_goals
     refine ⟨eI,_,eRW,?_⟩;try simp only [oneOr]
     rw [nodeR_no hok]
 | true =>
 by_cases hlen:0 ≤ (arI op).1 ∧ (kids.length:Int) ≠ (arI op).1
 · have hv : arV op = .tup [.int .i64 (arI op).1, .bool true] := by rw [arV, hok]
   obtain ⟨h1,h2⟩:=hlen
   refine WpCall.slim (M:=221) (rs:=[.tmp 6]) (hw.call _) hw.ice hw.froz Try.func129 rfl rfl code129.2 rfl ?_;dsimp only [code129,envOf,Nat.reduceAdd]
   repeat' (first
      | (apply Rx.nl ?_;clear hK K)|apply Ry.o ?_|(apply Ry.call ?_;first|refine Rx.k (ra_en (fun _=>rfl) _ _) ?_)|apply Ry.gu ?_|(apply Ry.gd (fun hg hgp=>?_) (fun hg hgp=>?_) <;> try (cases hg;done))|(apply Ry.cd (fun hb hbp=>?_) (fun hb hbp=>?_) <;> try (cases hb;done))|apply Wp.seq ?_|(apply Wp.ops' fun K hK=>?_)|(apply Rx.dT 12 [(2,19),(7,19),(10,19),(16,19)] fun K hK=>?_)|(apply Rx.dT 20 [(2,19),(6,19),(9,19),(11,19),(14,19),(15,19)] fun K hK=>?_)|(apply Rx.nq ?_;try intro _)|(apply Rx.nt ?_ ?_ <;> clear hK K)|apply WpT.step ?_|(apply Ry.gt (fun hg hgp=>?_) (fun hg hgp=>?_) <;> try (cases hg;done))|apply Wp.block ?_|apply Rx.sk ?_|apply Rx.rt ?_)
   all_goals
     refine ⟨eI,_,eRW,?_⟩;try simp only [oneOr]
     rw [nodeR_len hok h1 h2]
 cases him:immR op imm with
 | false =>
   have hv:arV op=.tup [.int .i64 (arI op).1,.bool true]:=by rw [arV,hok]
   refine WpCall.slim (M:=221) (rs:=[.tmp 6]) (hw.call _) hw.ice hw.froz Try.func129 rfl rfl code129.2 rfl ?_;dsimp only [code129,envOf,Nat.reduceAdd]
   repeat' (first
      | (apply Rx.nl ?_;clear hK K)|apply Ry.o ?_|(apply Ry.call ?_;first|refine Rx.k (ra_en (fun _=>rfl) _ _) ?_|refine Rx.k (vi_en (fun _=>rfl) _ _ _) ?_)|apply Ry.gu ?_|(apply Ry.gd (fun hg hgp=>?_) (fun hg hgp=>?_) <;> try (cases hg;done))|(apply Ry.cd (fun hb hbp=>?_) (fun hb hbp=>?_) <;> try (cases hb;done))|apply Wp.seq ?_|(apply Wp.ops' fun K hK=>?_)|(apply Rx.dT 12 [(2,19),(7,19),(10,19),(16,19)] fun K hK=>?_)|(apply Rx.dT 20 [(2,19),(6,19),(9,19),(11,19),(14,19),(15,19)] fun K hK=>?_)|(apply Rx.nq ?_;try intro _)|(apply Rx.nt ?_ ?_ <;> clear hK K)|apply WpT.step ?_|(apply Ry.gt (fun hg hgp=>?_) (fun hg hgp=>?_) <;> try (cases hg;done))|apply Wp.block ?_|apply Rx.sk ?_|apply Rx.rt ?_)
   all_goals
     refine ⟨eI,_,eRW,?_⟩;try simp only [oneOr]
     rw [nodeR_imm him]
 | true =>
 have hgo:=nodeR_go (l:=l) (n:=⟨op,imm,kids⟩) (k:=k) hok hlen him
 simp only [] at hgo
 by_cases c31:op=31
 · subst c31
   exact ns31 hkb him (by rw [hgo];simp)
 by_cases c30:op=30
 · subst c30
   exact ns30 hkl hkb him (by rw [hgo];simp)
 by_cases c25:op=25
 · subst c25
   exact ns25 hkl hkb (h25 rfl) (by have e:(arI 25).1=1:=rfl;omega) him (by rw [hgo];simp)
 have hnn:=ar_nn c31 c30
 have hkn:(kids.length:Int)=(arI op).1:=by omega
 have hv:arV op=.tup [.int .i64 kids.length,.bool true]:=by rw [arV,hok,hkn]
 by_cases c22:op=22
 · subst c22
   obtain ⟨a,b,c,rfl⟩:=len3 (s:=k) (by have e:(arI 22).1=3:=rfl;omega)
   have hg2:nodeR l ⟨22,imm,kids⟩ [a,b,c]=if a ≠ 1 ∨ b ≠ c ∨ b=3 then 0 else b:=by rw [hgo];simp
   refine WpCall.slim (M:=221) (rs:=[.tmp 6]) (hw.call _) hw.ice hw.froz Try.func129 rfl rfl code129.2 rfl ?_;dsimp only [code129,envOf,Nat.reduceAdd]
   repeat' (first
      | (apply Rx.nl ?_;clear hK K)|apply Ry.o ?_|(apply Ry.call ?_;first|refine Rx.k (ra_en (fun _=>rfl) _ _) ?_|refine Rx.k (vi_en (fun _=>rfl) _ _ _) ?_)|apply Ry.gu ?_|(apply Ry.gd (fun hg hgp=>?_) (fun hg hgp=>?_) <;> try (cases hg;done))|(apply Ry.cd (fun hb hbp=>?_) (fun hb hbp=>?_) <;> try (cases hb;done))|apply Wp.seq ?_|(apply Wp.ops' fun K hK=>?_)|(apply Rx.dT 12 [(2,19),(7,19),(10,19),(16,19)] fun K hK=>?_)|(apply Rx.dT 20 [(2,19),(6,19),(9,19),(11,19),(14,19),(15,19)] fun K hK=>?_)|(apply Rx.nq ?_;try intro _)|(apply Rx.nt ?_ ?_ <;> clear hK K)|apply WpT.step ?_|(apply Ry.gt (fun hg hgp=>?_) (fun hg hgp=>?_) <;> try (cases hg;done))|apply Wp.block ?_|apply Rx.sk ?_|apply Rx.rt ?_)
   all_goals first
     | exact eK
     | ((refine ⟨eI,_,eRW,?_⟩;try simp only [oneOr]);rw [hg2];clear hg2 hgo h25 hv hkn hlen hok him hkl;(try simp only [Bool.not_eq_true',decide_eq_false_iff_not] at *);first|(rw [if_pos (by simp_all;done)];done)|(rw [if_neg (by simp_all;done)];done)|(rw [if_pos (by omega)];done)|(rw [if_neg (by omega)];done))
 by_cases c23:op=23
 · subst c23
   obtain ⟨a,b,rfl⟩:=len2 (s:=k) (by have e:(arI 23).1=2:=rfl;omega)
   have hg2:nodeR l ⟨23,imm,kids⟩ [a,b]=sifR (decide (a=2) && decide (b=1)) 1:=by rw [hgo];simp
   refine WpCall.slim (M:=221) (rs:=[.tmp 6]) (hw.call _) hw.ice hw.froz Try.func129 rfl rfl code129.2 rfl ?_;dsimp only [code129,envOf,Nat.reduceAdd]
   repeat' (first
      | (apply Rx.nl ?_;clear hK K)|apply Ry.o ?_|(apply Ry.call ?_;first|refine Rx.k (ra_en (fun _=>rfl) _ _) ?_|refine Rx.k (vi_en (fun _=>rfl) _ _ _) ?_|refine Rx.k (si_en (fun _=>rfl) _ _ _) ?_)|apply Ry.gu ?_|(apply Ry.gd (fun hg hgp=>?_) (fun hg hgp=>?_) <;> try (cases hg;done))|(apply Ry.cd (fun hb hbp=>?_) (fun hb hbp=>?_) <;> try (cases hb;done))|apply Wp.seq ?_|(apply Wp.ops' fun K hK=>?_)|(apply Rx.dT 12 [(2,19),(7,19),(10,19),(16,19)] fun K hK=>?_)|(apply Rx.dT 20 [(2,19),(6,19),(9,19),(11,19),(14,19),(15,19)] fun K hK=>?_)|(apply Rx.nq ?_;try intro _)|(apply Rx.nt ?_ ?_ <;> clear hK K)|apply WpT.step ?_|(apply Ry.gt (fun hg hgp=>?_) (fun hg hgp=>?_) <;> try (cases hg;done))|apply Wp.block ?_|apply Rx.sk ?_|apply Rx.rt ?_)
   all_goals first
     | exact eK
     | ((refine ⟨eI,_,eRW,?_⟩;try simp only [oneOr]);rw [hg2];(try simp only [Bool.not_eq_true',Bool.not_eq_false'] at *);simp only [*,decide_true,decide_false,Bool.false_or,Bool.or_false,Bool.true_or,Bool.or_true,Bool.false_and,Bool.and_false,Bool.true_and,Bool.and_true,Bool.not_true,Bool.not_false,if_true,if_false,Int.reduceEq];done)
     | ((refine ⟨eI,_,eRW,?_⟩;try simp only [oneOr]);rw [hg2];clear hg2 hgo h25 hv hkn;simp_all;done)
 by_cases c24:op=24
 · subst c24
   obtain ⟨a,rfl⟩:=len1 (s:=k) (by have e:(arI 24).1=1:=rfl;omega)
   have hg2:nodeR l ⟨24,imm,kids⟩ [a]=sifR (decide (a=2)) 1:=by rw [hgo];simp
   refine WpCall.slim (M:=221) (rs:=[.tmp 6]) (hw.call _) hw.ice hw.froz Try.func129 rfl rfl code129.2 rfl ?_;dsimp only [code129,envOf,Nat.reduceAdd]
   repeat' (first
      | (apply Rx.nl ?_;clear hK K)|apply Ry.o ?_|(apply Ry.call ?_;first|refine Rx.k (ra_en (fun _=>rfl) _ _) ?_|refine Rx.k (vi_en (fun _=>rfl) _ _ _) ?_|refine Rx.k (si_en (fun _=>rfl) _ _ _) ?_)|apply Ry.gu ?_|(apply Ry.gd (fun hg hgp=>?_) (fun hg hgp=>?_) <;> try (cases hg;done))|(apply Ry.cd (fun hb hbp=>?_) (fun hb hbp=>?_) <;> try (cases hb;done))|apply Wp.seq ?_|(apply Wp.ops' fun K hK=>?_)|(apply Rx.dT 12 [(2,19),(7,19),(10,19),(16,19)] fun K hK=>?_)|(apply Rx.dT 20 [(2,19),(6,19),(9,19),(11,19),(14,19),(15,19)] fun K hK=>?_)|(apply Rx.nq ?_;try intro _)|(apply Rx.nt ?_ ?_ <;> clear hK K)|apply WpT.step ?_|(apply Ry.gt (fun hg hgp=>?_) (fun hg hgp=>?_) <;> try (cases hg;done))|apply Wp.block ?_|apply Rx.sk ?_|apply Rx.rt ?_)
   all_goals first
     | exact eK
     | ((refine ⟨eI,_,eRW,?_⟩;try simp only [oneOr]);rw [hg2];done)
 by_cases c27:op=27
 · subst c27
   obtain ⟨a,b,rfl⟩:=len2 (s:=k) (by have e:(arI 27).1=2:=rfl;omega)
   have hg2:nodeR l ⟨27,imm,kids⟩ [a,b]=sifR (decide (a=2) && decide (b=1)) 2:=by rw [hgo];simp
   refine WpCall.slim (M:=221) (rs:=[.tmp 6]) (hw.call _) hw.ice hw.froz Try.func129 rfl rfl code129.2 rfl ?_;dsimp only [code129,envOf,Nat.reduceAdd]
   repeat' (first
      | (apply Rx.nl ?_;clear hK K)|apply Ry.o ?_|(apply Ry.call ?_;first|refine Rx.k (ra_en (fun _=>rfl) _ _) ?_|refine Rx.k (vi_en (fun _=>rfl) _ _ _) ?_|refine Rx.k (si_en (fun _=>rfl) _ _ _) ?_)|apply Ry.gu ?_|(apply Ry.gd (fun hg hgp=>?_) (fun hg hgp=>?_) <;> try (cases hg;done))|(apply Ry.cd (fun hb hbp=>?_) (fun hb hbp=>?_) <;> try (cases hb;done))|apply Wp.seq ?_|(apply Wp.ops' fun K hK=>?_)|(apply Rx.dT 12 [(2,19),(7,19),(10,19),(16,19)] fun K hK=>?_)|(apply Rx.dT 20 [(2,19),(6,19),(9,19),(11,19),(14,19),(15,19)] fun K hK=>?_)|(apply Rx.nq ?_;try intro _)|(apply Rx.nt ?_ ?_ <;> clear hK K)|apply WpT.step ?_|(apply Ry.gt (fun hg hgp=>?_) (fun hg hgp=>?_) <;> try (cases hg;done))|apply Wp.block ?_|apply Rx.sk ?_|apply Rx.rt ?_)
   all_goals first
     | exact eK
     | ((refine ⟨eI,_,eRW,?_⟩;try simp only [oneOr]);rw [hg2];(try simp only [Bool.not_eq_true',Bool.not_eq_false'] at *);simp only [*,decide_true,decide_false,Bool.false_or,Bool.or_false,Bool.true_or,Bool.or_true,Bool.false_and,Bool.and_false,Bool.true_and,Bool.and_true,Bool.not_true,Bool.not_false,if_true,if_false,Int.reduceEq];done)
 by_cases c29:op=29
 · subst c29
   obtain ⟨a,b,rfl⟩:=len2 (s:=k) (by have e:(arI 29).1=2:=rfl;omega)
   have hg2:nodeR l ⟨29,imm,kids⟩ [a,b]=sifR (decide (a=2) && decide (b=1)) 2:=by rw [hgo];simp
   refine WpCall.slim (M:=221) (rs:=[.tmp 6]) (hw.call _) hw.ice hw.froz Try.func129 rfl rfl code129.2 rfl ?_;dsimp only [code129,envOf,Nat.reduceAdd]
   repeat' (first
      | (apply Rx.nl ?_;clear hK K)|apply Ry.o ?_|(apply Ry.call ?_;first|refine Rx.k (ra_en (fun _=>rfl) _ _) ?_|refine Rx.k (vi_en (fun _=>rfl) _ _ _) ?_|refine Rx.k (si_en (fun _=>rfl) _ _ _) ?_)|apply Ry.gu ?_|(apply Ry.gd (fun hg hgp=>?_) (fun hg hgp=>?_) <;> try (cases hg;done))|(apply Ry.cd (fun hb hbp=>?_) (fun hb hbp=>?_) <;> try (cases hb;done))|apply Wp.seq ?_|(apply Wp.ops' fun K hK=>?_)|(apply Rx.dT 12 [(2,19),(7,19),(10,19),(16,19)] fun K hK=>?_)|(apply Rx.dT 20 [(2,19),(6,19),(9,19),(11,19),(14,19),(15,19)] fun K hK=>?_)|(apply Rx.nq ?_;try intro _)|(apply Rx.nt ?_ ?_ <;> clear hK K)|apply WpT.step ?_|(apply Ry.gt (fun hg hgp=>?_) (fun hg hgp=>?_) <;> try (cases hg;done))|apply Wp.block ?_|apply Rx.sk ?_|apply Rx.rt ?_)
   all_goals first
     | exact eK
     | ((refine ⟨eI,_,eRW,?_⟩;try simp only [oneOr]);rw [hg2];(try simp only [Bool.not_eq_true',Bool.not_eq_false'] at *);simp only [*,decide_true,decide_false,Bool.false_or,Bool.or_false,Bool.true_or,Bool.or_true,Bool.false_and,Bool.and_false,Bool.true_and,Bool.and_true,Bool.not_true,Bool.not_false,if_true,if_false,Int.reduceEq];done)
 by_cases c28:op=28
 · subst c28
   obtain ⟨a,b,c,rfl⟩:=len3 (s:=k) (by have e:(arI 28).1=3:=rfl;omega)
   have hg2:nodeR l ⟨28,imm,kids⟩ [a,b,c]=sifR (decide (a=2) && decide (b=1) && decide (c=1)) 2:=by rw [hgo];simp
   refine WpCall.slim (M:=221) (rs:=[.tmp 6]) (hw.call _) hw.ice hw.froz Try.func129 rfl rfl code129.2 rfl ?_;dsimp only [code129,envOf,Nat.reduceAdd]
   repeat' (first
      | (apply Rx.nl ?_;clear hK K)|apply Ry.o ?_|(apply Ry.call ?_;first|refine Rx.k (ra_en (fun _=>rfl) _ _) ?_|refine Rx.k (vi_en (fun _=>rfl) _ _ _) ?_|refine Rx.k (si_en (fun _=>rfl) _ _ _) ?_)|apply Ry.gu ?_|(apply Ry.gd (fun hg hgp=>?_) (fun hg hgp=>?_) <;> try (cases hg;done))|(apply Ry.cd (fun hb hbp=>?_) (fun hb hbp=>?_) <;> try (cases hb;done))|apply Wp.seq ?_|(apply Wp.ops' fun K hK=>?_)|(apply Rx.dT 12 [(2,19),(7,19),(10,19),(16,19)] fun K hK=>?_)|(apply Rx.dT 20 [(2,19),(6,19),(9,19),(11,19),(14,19),(15,19)] fun K hK=>?_)|(apply Rx.nq ?_;try intro _)|(apply Rx.nt ?_ ?_ <;> clear hK K)|apply WpT.step ?_|(apply Ry.gt (fun hg hgp=>?_) (fun hg hgp=>?_) <;> try (cases hg;done))|apply Wp.block ?_|apply Rx.sk ?_|apply Rx.rt ?_)
   all_goals first
     | exact eK
     | ((refine ⟨eI,_,eRW,?_⟩;try simp only [oneOr]);rw [hg2];(try simp only [Bool.not_eq_true',Bool.not_eq_false'] at *);simp only [*,decide_true,decide_false,Bool.false_or,Bool.or_false,Bool.true_or,Bool.or_true,Bool.false_and,Bool.and_false,Bool.true_and,Bool.and_true,Bool.not_true,Bool.not_false,if_true,if_false,Int.reduceEq];done)
 by_cases c26:op=26
 · subst c26
   have hg2:nodeR l ⟨26,imm,kids⟩ k=2:=by rw [hgo];simp
   refine WpCall.slim (M:=221) (rs:=[.tmp 6]) (hw.call _) hw.ice hw.froz Try.func129 rfl rfl code129.2 rfl ?_;dsimp only [code129,envOf,Nat.reduceAdd]
   repeat' (first
      | (apply Rx.nl ?_;clear hK K)|apply Ry.o ?_|(apply Ry.call ?_;first|refine Rx.k (ra_en (fun _=>rfl) _ _) ?_|refine Rx.k (vi_en (fun _=>rfl) _ _ _) ?_|refine Rx.k (si_en (fun _=>rfl) _ _ _) ?_)|apply Ry.gu ?_|(apply Ry.gd (fun hg hgp=>?_) (fun hg hgp=>?_) <;> try (cases hg;done))|(apply Ry.cd (fun hb hbp=>?_) (fun hb hbp=>?_) <;> try (cases hb;done))|apply Wp.seq ?_|(apply Wp.ops' fun K hK=>?_)|(apply Rx.dT 12 [(2,19),(7,19),(10,19),(16,19)] fun K hK=>?_)|(apply Rx.dT 20 [(2,19),(6,19),(9,19),(11,19),(14,19),(15,19)] fun K hK=>?_)|(apply Rx.nq ?_;try intro _)|(apply Rx.nt ?_ ?_ <;> clear hK K)|apply WpT.step ?_|(apply Ry.gt (fun hg hgp=>?_) (fun hg hgp=>?_) <;> try (cases hg;done))|apply Wp.block ?_|apply Rx.sk ?_|apply Rx.rt ?_)
   all_goals first
     | exact eK
     | ((refine ⟨eI,_,eRW,?_⟩;try simp only [oneOr]);rw [hg2];done)
 by_cases c3:op=3
 · subst c3
   have hg2:nodeR l ⟨3,imm,kids⟩ k=if imm.tmod 16=0 then 2 else 1:=by rw [hgo];simp
   refine WpCall.slim (M:=221) (rs:=[.tmp 6]) (hw.call _) hw.ice hw.froz Try.func129 rfl rfl code129.2 rfl ?_;dsimp only [code129,envOf,Nat.reduceAdd]
   repeat' (first
      | (apply Rx.nl ?_;clear hK K)|apply Ry.o ?_|(apply Ry.call ?_;first|refine Rx.k (ra_en (fun _=>rfl) _ _) ?_|refine Rx.k (vi_en (fun _=>rfl) _ _ _) ?_|refine Rx.k (si_en (fun _=>rfl) _ _ _) ?_)|apply Ry.gu ?_|(apply Ry.gd (fun hg hgp=>?_) (fun hg hgp=>?_) <;> try (cases hg;done))|(apply Ry.cd (fun hb hbp=>?_) (fun hb hbp=>?_) <;> try (cases hb;done))|apply Wp.seq ?_|(apply Wp.ops' fun K hK=>?_)|(apply Rx.dT 12 [(2,19),(7,19),(10,19),(16,19)] fun K hK=>?_)|(apply Rx.dT 20 [(2,19),(6,19),(9,19),(11,19),(14,19),(15,19)] fun K hK=>?_)|(apply Rx.nq ?_;try intro _)|(apply Rx.nt ?_ ?_ <;> clear hK K)|apply WpT.step ?_|(apply Ry.gt (fun hg hgp=>?_) (fun hg hgp=>?_) <;> try (cases hg;done))|apply Wp.block ?_|apply Rx.sk ?_|apply Rx.rt ?_)
   all_goals first
     | exact eK
     | ((refine ⟨eI,_,eRW,?_⟩;try simp only [oneOr]);rw [hg2,if_pos (by assumption)];done)
     | ((refine ⟨eI,_,eRW,?_⟩;try simp only [oneOr]);rw [hg2,if_neg (by assumption)];done)
 have hg2:nodeR l ⟨op,imm,kids⟩ k=sifR (allR k) 1:=by
   rw [hgo,if_neg c3,if_neg c26,if_neg c22,if_neg c23,if_neg c24,if_neg c25,if_neg (by omega),if_neg c28,if_neg c30,if_neg c31]
 have hkb':k.length < 2 ^ 60:=by omega
 have hk0:(0:Int) ≤ kids.length:=by omega
 refine WpCall.slim (M:=221) (rs:=[.tmp 6]) (hw.call _) hw.ice hw.froz Try.func129 rfl rfl code129.2 rfl ?_;dsimp only [code129,envOf,Nat.reduceAdd]
 repeat' (first
    | (apply Rx.nl ?_;clear hK K)|apply Ry.o ?_|(apply Ry.call ?_;first|refine Rx.k (ra_en (fun _=>rfl) _ _) ?_|refine Rx.k (vi_en (fun _=>rfl) _ _ _) ?_|refine Rx.k (av_en (fun _=>rfl) _ hkb' _) ?_|refine Rx.k (si_en (fun _=>rfl) _ _ _) ?_)|apply Ry.gu ?_|(apply Ry.gd (fun hg hgp=>?_) (fun hg hgp=>?_) <;> try (cases hg;done))|(apply Ry.cd (fun hb hbp=>?_) (fun hb hbp=>?_) <;> try (cases hb;done))|apply Wp.seq ?_|(apply Wp.ops' fun K hK=>?_)|(apply Rx.dT 12 [(2,19),(7,19),(10,19),(16,19)] fun K hK=>?_)|(apply Rx.dT 20 [(2,19),(6,19),(9,19),(11,19),(14,19),(15,19)] fun K hK=>?_)|(apply Rx.nq ?_;try intro _)|(apply Rx.nt ?_ ?_ <;> clear hK K)|apply WpT.step ?_|(apply Ry.gt (fun hg hgp=>?_) (fun hg hgp=>?_) <;> try (cases hg;done))|apply Wp.block ?_|apply Rx.sk ?_|apply Rx.rt ?_)
 all_goals first
   | exact eK
   | ((refine ⟨eI,_,eRW,?_⟩;try simp only [oneOr]);rw [hg2];done))
end Go.Proofs.Ytackdnelcpbfjaa
namespace Go.Proofs.Ytackdnelcpbfjaa
set_option maxRecDepth 20000
set_option maxRecDepth 20000
open Go Go.Ab
namespace tyK3
def tyF:=And.intro @tq2 (And.intro @tq3 (And.intro @tq26 (And.intro @tq60 (And.intro @tq66 (@bn1)))))
end tyK3
open tyK3
noncomputable def code101:{ c:SC // slim 69 (Try.f101.body.getD .skip)=c }:=by
 refine ⟨?_,?_⟩
 rotate_left
 · simp only [Try.f101, Option.getD_some, slim, slimR, slimL, slimD, slimG, Nat.blt, Nat.ble]
   rfl
noncomputable def enNs:En:=⟨129,true,spP nsOk nsE fun x=>.int .i64 (nodeR x.l x.n x.k)⟩
theorem enNs_ok (ρ:Nat → Int):EnOk Try.prog ρ enNs:=spP_ok fun x hx=>nodeSort_con ρ x hx
noncomputable def levSs:List En:=[enW enNs]
theorem levSs_ok (ρ:Nat → Int):EnsOk Try.prog ρ levSs:=⟨enW_ok (enNs_ok ρ),trivial⟩
theorem wk60_nds (l:List Nd):wkN 60 (lstN l)=lstN l:=by
 show AV.lst ((l.map Nd.cells).map fun row=>row.map (wkN 59))=_
 rw [List.map_map]
 have e:(fun row=>row.map (wkN 59)) ∘ Nd.cells=Nd.cells:=by
   funext x
   show (x.cells).map (wkN 59)=x.cells
   rw [Nd.cells]
   simp only [List.map_cons,List.map_nil,wk60_ints 57];rfl
 rw [e]
theorem nsE_ns (y:NsX):(nsE y).any (hasSl 90)=false:=by
 obtain ⟨l,⟨op,imm,kids⟩,s⟩:=y;rfl
theorem ic_nd (S:Nat → Prop) (H:Hp) (n:Nd):Ic S 3 H (.agg n.cells) (.agg n.cells):=by
 refine ⟨n.cells,?_,rfl⟩
 rw [Nd.cells]
 exact ⟨Ic.flat ⟨.int _ _,trivial⟩,Ic.flat ⟨.int _ _,trivial⟩,Ic.flat ⟨ints_pure _,trivial⟩,trivial⟩
theorem ns_en {tb:List En} (ht:∀ ar,lookN tb 129 ar=(enW enNs).sp ar) (hi:iceN tb 129=true) {H:Hp} {v:AV} {s:List Int} {lo:Nat} (hv:IntN H v s lo) (l:List Nd) (n:Nd) (hok:nsOk ⟨l,n,s⟩) :
   WpCall Try.prog (cfgN pls tb) 129 [lstN l,.agg n.cells,v] H fun w H'=>w=.int .i64 (nodeR l n s) ∧ Icy (fun k=>lo ≤ k) H H':=by
 obtain ⟨u,h1,h2⟩:=hv.ic
 refine WpCall.enX (x:=(⟨l,n,s⟩:NsX)) (enc:=nsE) (ok:=nsOk) (out:=fun x=>.int .i64 (nodeR x.l x.n x.k)) (us:=[lstN l,.agg n.cells,u]) (n:=3) nsE_inj (fun ar=>by rw [ht];rfl) hi nsE_ns hok (by omega) ⟨Ic.flat ⟨nds_pure _,trivial⟩,ic_nd _ _ _,h1,trivial⟩ ?_
 show [wkN 60 (lstN l),wkN 60 (.agg n.cells),wkN 60 u]=_
 rw [h2,wk60_nd 56,wk60_nds];rfl
theorem sort1_R {l:List Nd} {i:Nat} (hi:i < l.length) {n:Nd} {s:List Int} (hn:l[i]?=some n) (hk:kidsI i (sortsI l i) n.kids=some s):sort1 l i (sortsI l i)=nodeR l n s:=by
 rw [← sortR1_eq (by omega),sortR1,hn];simp only [hk]
theorem ns_ok {l:List Nd} {i:Nat} {kn s:List Int} {n:Nd} (hi:i < l.length) (hl:NdsOk l) (hn:l[i]?=some n) (hk:kidsI i kn n.kids=some s):nsOk ⟨l,n,s⟩:=by
 have hb:=hl.2 n (List.mem_of_getElem? hn)
 have e:=kidsI_len hk
 refine ⟨e,by simp only [];omega,fun _ h1=>?_⟩
 obtain ⟨k,hk1⟩:=len1 h1
 simp only [] at hk1 ⊢
 obtain ⟨h3,h4,_⟩:=kidsI_mem hk k (by rw [hk1];exact List.mem_singleton_self _)
 obtain ⟨m,rfl⟩:=Int.eq_ofNat_of_zero_le h3
 have hm:m < l.length:=by omega
 exact ⟨m,l[m],hk1,List.getElem?_eq_getElem hm,hl.2 _ (List.getElem_mem hm)⟩
theorem IntN.at {H:Hp} {v:AV} {l:List Int} {lo:Nat} (h:IntN H v l lo) {i:Nat} (hi:i < l.length) :
   ∃ r,indexAddrA Try.prog 26 v (.int .i64 (i:Int))=some (.ptr r i) ∧ aload Try.prog H 3 (.ptr r i)=some (.int .i64 l[i]):=by
 rcases h with ⟨_,rfl⟩|h
 · simp at hi
 · exact h.at hi
set_option maxRecDepth 100000 in
theorem rsorts_con (ρ : Nat → Int) (l : List Nd) (hl : NdsOk l) : Con Try.prog ρ 101 [lstN l] (lstI (sortsI l l.length)) := Con.wk' (n := 3) (Con.of_made (r := nlI (sortsI l l.length)) (m := 3) (cfg := cfgN pls levSs) fit (noDec ρ) (EnsOk.look (levSs_ok ρ)) (.cons (nds_pure _) .nil) (by
  have hl0:=hl
  obtain ⟨hl1,hl2⟩:=hl
  have hw:Plain (cfgN pls levSs) 101:=plainN (fun _=>rfl) rfl
  have hkeep:(cfgN pls levSs).keep 101=false:=rfl
  refine WpCall.slim (M:=69) (rs:=[.tmp 2]) (hw.call _) hw.ice hw.froz Try.func101 rfl rfl code101.2 rfl ?_;dsimp only [code101,envOf,Nat.reduceAdd]
  repeat' (first
     | (apply Rx.nl ?_;clear hK K)|apply Rx.o ?_|(apply Rx.cd (fun hb hbp=>?_) (fun hb hbp=>?_) <;> try (cases hb;done))|apply Wp.seq ?_|(apply Wp.ops' fun K hK=>?_)|apply Wp.block ?_|apply Rx.sk ?_|apply Rx.rt ?_|apply Rx.xt ?_)
  refine Wp.forI [0,2] [] 4 l.length (fun i E H=>∃ v,E.at 3=v ∧ IntX H v (sortsI l i) 0) eE ⟨.nilS,eE,.inl ⟨rfl,rfl⟩⟩ ?_
  rintro i E H2 hi hcE hrH hnH hsI ⟨v,k3,hv⟩
  (try simp only [forall_cons,forall_nil,and_true,sB,sO,Nat.reduceBEq,Nat.reduceAdd,Nat.reduceLeDiff,tyF, *] at hcE)
  (try simp only [forall_cons,forall_nil,and_true,sB,sO,Nat.reduceBEq,Nat.reduceAdd,Nat.reduceLeDiff,tyF, *] at hrH)
  (try simp only [Hp.next_alloc,Hp.next_set,H0_next,Nat.zero_add,Nat.reduceAdd] at hnH)
  repeat' (first
     | (apply Rx.nl ?_;clear hK K)|apply Rx.o ?_|(apply Rx.cd (fun hb hbp=>?_) (fun hb hbp=>?_) <;> try (cases hb;done))|apply Wp.seq ?_|(apply Wp.ops' fun K hK=>?_)|apply Wp.block ?_|apply Rx.sk ?_|apply Rx.rt ?_|apply Rx.xt ?_)
  · have hlt : i < l.length := by simpa using hb
    have hgi:l[i]?=some l[i]:=List.getElem?_eq_getElem hlt
    have hnk:=hl2 _ (List.getElem_mem hlt)
    generalize l[i]=n at *
    repeat' (first
       | (apply Rx.nl ?_;clear hK K)|apply Rx.o ?_|(apply Rx.cd (fun hb hbp=>?_) (fun hb hbp=>?_) <;> try (cases hb;done))|apply Wp.seq ?_|(apply Wp.ops' fun K hK=>?_)|apply Wp.block ?_|apply Rx.sk ?_|apply Rx.rt ?_|apply Rx.xt ?_)
    refine Wp.forI [0,2,3,4] [] 7 n.kids.length (fun j E H=>∃ w s,E.at 5=w ∧ IntN H w s H2.next ∧ KidsAt i (sortsI l i) n.kids j s ∧ E.at 6=.bool true ∧ ∀ k,k < H2.next → H.get k=H2.get k) eE ⟨.nilS,[],eE,.inl ⟨rfl,rfl⟩,⟨rfl,by simp⟩,eE,fun _ _=>rfl⟩ ?_
    rintro j E3 H3 hj hcE hrH hnH hsI ⟨w,s,k5,hws,hJ,k6,hold⟩
    (try simp only [forall_cons,forall_nil,and_true,sB,sO,Nat.reduceBEq,Nat.reduceAdd,Nat.reduceLeDiff,tyF, *] at hcE)
    (try simp only [forall_cons,forall_nil,and_true,sB,sO,Nat.reduceBEq,Nat.reduceAdd,Nat.reduceLeDiff,tyF, *] at hrH)
    (try simp only [Hp.next_alloc,Hp.next_set,H0_next,Nat.zero_add,Nat.reduceAdd] at hnH)
    repeat' (first
       | (apply Rx.nl ?_;clear hK K)|apply Rx.o ?_|(apply Rx.cd (fun hb hbp=>?_) (fun hb hbp=>?_) <;> try (cases hb;done))|apply Wp.seq ?_|(apply Wp.ops' fun K hK=>?_)|apply Wp.block ?_|apply Rx.sk ?_|apply Rx.rt ?_|apply Rx.xt ?_)
    · have hlt2 : j < n.kids.length := by simpa using hb
      have hgx:n.kids[j]?=some n.kids[j]:=List.getElem?_eq_getElem hlt2
      generalize n.kids[j]=kd at *
      have hv3:IntX H3 v (sortsI l i) 0:=hv.keep (by omega) fun k hk=>hold k (hv.n.lt hk).2
      have hvb:∀ (x:Int),IntN (H3.alloc (.cells [.int .i64 x] 0 true)) v (sortsI l i) 0:=fun x=>hv3.n.keep (Nat.le_succ _) fun k hk=>by rw [Hp.get_alloc,if_neg (by have:=(hv.n.lt hk).2;omega)]
      by_cases cbad:kd < 0 ∨ (i:Int) ≤ kd ∨ (sortsI l i).getD kd.toNat 0=0
      · have hs0 : sort1 l i (sortsI l i) = 0 := sort1_none hgi (hJ.bad hgx cbad)
        have hsn:sortsI l (i + 1)=sortsI l i ++ [0]:=by rw [sortsI,hs0]
        obtain ⟨v5,H5,a5,s5,n5,f5,o5⟩:=appI_one (r:=H3.next) (imm:=0) 0 (hvb 0) (Nat.zero_le _) (by rw [Hp.get_alloc,if_pos rfl]) (by rw [sortsI_len];omega)
        have n5':H2.next ≤ H5.next:=by simp only [Hp.next_alloc] at n5;omega
        clear n5 f5 o5 hvb
        by_cases c1:kd < 0
        · repeat' (first
             | (apply Rx.nl ?_;clear hK K)|apply Ry.o ?_|(apply Ry.gd (fun hg hgp=>?_) (fun hg hgp=>?_) <;> try (cases hg;done))|(apply Ry.cd (fun hb hbp=>?_) (fun hb hbp=>?_) <;> try (cases hb;done))|apply Wp.seq ?_|(apply Wp.ops' fun K hK=>?_)|apply Wp.block ?_|apply Rx.sk ?_|apply Rx.rt ?_|apply Rx.xt ?_)
          refine ⟨by omega,eL,eL,eN,(by simp only [sB,Nat.reduceBEq, *];exact i64_succ (n:=l.length) (by omega) (by omega)),?_⟩
          exact ⟨v5,eE,.inr ⟨by rw [hsn];simp,by rw [hsn];exact s5⟩⟩
        by_cases c2:(i:Int) ≤ kd
        · have c1' : ¬ kd < 0 := c1
          repeat' (first
             | (apply Rx.nl ?_;clear hK K)|apply Ry.o ?_|(apply Ry.gd (fun hg hgp=>?_) (fun hg hgp=>?_) <;> try (cases hg;done))|(apply Ry.cd (fun hb hbp=>?_) (fun hb hbp=>?_) <;> try (cases hb;done))|apply Wp.seq ?_|(apply Wp.ops' fun K hK=>?_)|apply Wp.block ?_|apply Rx.sk ?_|apply Rx.rt ?_|apply Rx.xt ?_)
          refine ⟨by omega,eL,eL,eN,(by simp only [sB,Nat.reduceBEq, *];exact i64_succ (n:=l.length) (by omega) (by omega)),?_⟩
          exact ⟨v5,eE,.inr ⟨by rw [hsn];simp,by rw [hsn];exact s5⟩⟩
        have hb0:(sortsI l i).getD kd.toNat 0=0:=by
          rcases cbad with h|h|h
          · exact absurd h c1
          · exact absurd h c2
          · exact h
        clear cbad
        obtain ⟨m,rfl⟩:=Int.eq_ofNat_of_zero_le (Int.not_lt.1 c1)
        have hml:m < (sortsI l i).length:=by rw [sortsI_len];omega
        obtain ⟨q,hix,hlo⟩:=hv3.n.at hml
        have hgk:(sortsI l i)[m]=0:=by
          rw [Int.toNat_natCast,List.getD_eq_getElem?_getD,List.getElem?_eq_getElem hml] at hb0;exact hb0
        rw [hgk] at hlo
        repeat' (first
           | (apply Rx.nl ?_;clear hK K)|apply Ry.o ?_|(apply Ry.gd (fun hg hgp=>?_) (fun hg hgp=>?_) <;> try (cases hg;done))|(apply Ry.cd (fun hb hbp=>?_) (fun hb hbp=>?_) <;> try (cases hb;done))|apply Wp.seq ?_|(apply Wp.ops' fun K hK=>?_)|apply Wp.block ?_|apply Rx.sk ?_|apply Rx.rt ?_|apply Rx.xt ?_)
        refine ⟨by omega,eL,eL,eN,(by simp only [sB,Nat.reduceBEq, *];exact i64_succ (n:=l.length) (by omega) (by omega)),?_⟩
        exact ⟨v5,eE,.inr ⟨by rw [hsn];simp,by rw [hsn];exact s5⟩⟩
      · have hJn := hJ.next hgx cbad
        have c1:¬ kd < 0:=fun h=>cbad (.inl h)
        have c2:¬ (i:Int) ≤ kd:=fun h=>cbad (.inr (.inl h))
        have c3:¬ (sortsI l i).getD kd.toNat 0=0:=fun h=>cbad (.inr (.inr h))
        clear cbad hvb
        obtain ⟨m,rfl⟩:=Int.eq_ofNat_of_zero_le (Int.not_lt.1 c1)
        have hml:m < (sortsI l i).length:=by rw [sortsI_len];omega
        obtain ⟨q,hix,hlo⟩:=hv3.n.at hml
        have hgk:(sortsI l i).getD (m:Int).toNat 0=(sortsI l i)[m]:=by
          rw [Int.toNat_natCast,List.getD_eq_getElem?_getD,List.getElem?_eq_getElem hml];rfl
        rw [hgk] at c3 hJn
        generalize (sortsI l i)[m]=x at *
        have hwb:IntN (H3.alloc (.cells [.int .i64 x] 0 true)) w s H2.next:=hws.keep (Nat.le_succ _) fun k hk=>by rw [Hp.get_alloc,if_neg (by have:=(hws.lt hk).2;omega)]
        obtain ⟨v5,H5,a5,s5,n5,f5,o5⟩:=appI_one (r:=H3.next) (imm:=0) x hwb (by simp only [Hp.next_alloc];omega) (by rw [Hp.get_alloc,if_pos rfl]) (by rw [hJ.1];omega)
        have n5':H3.next ≤ H5.next:=by simp only [Hp.next_alloc] at n5;omega
        have o5':∀ k,k < H2.next → H5.get k=H2.get k:=fun k hk=>by rw [f5 k hk,Hp.get_alloc,if_neg (by omega),hold k hk]
        clear n5 f5 o5 hJ hold hv3
        repeat' (first
           | (apply Rx.nl ?_;clear hK K)|apply Ry.o ?_|(apply Ry.gd (fun hg hgp=>?_) (fun hg hgp=>?_) <;> try (cases hg;done))|(apply Ry.cd (fun hb hbp=>?_) (fun hb hbp=>?_) <;> try (cases hb;done))|apply Wp.seq ?_|(apply Wp.ops' fun K hK=>?_)|apply Wp.block ?_|apply Rx.sk ?_|apply Rx.rt ?_|apply Rx.xt ?_)
        refine ⟨by omega,eL,eL,eN,(by simp only [sB,Nat.reduceBEq, *];exact i64_succ (n:=n.kids.length) (by omega) (by omega)),?_⟩
        exact ⟨v5,s ++ [x],eE,.inr s5,hJn,eE,o5'⟩
    · have hje : j = n.kids.length := by omega
      rw [hje] at hJ
      have hv3:IntX H3 v (sortsI l i) 0:=hv.keep (by omega) fun k hk=>hold k (hv.n.lt hk).2
      have hs1:=sort1_R hlt hgi hJ.done
      have hok:=ns_ok hlt hl0 hgi hJ.done
      have hsn:sortsI l (i + 1)=sortsI l i ++ [nodeR l n s]:=by rw [sortsI,hs1]
      repeat' (first
         | (apply Rx.nl ?_;clear hK K)|apply Rx.o ?_|(apply Rx.cd (fun hb hbp=>?_) (fun hb hbp=>?_) <;> try (cases hb;done))|apply Wp.seq ?_|(apply Wp.ops' fun K hK=>?_)|apply Wp.block ?_|apply Rx.sk ?_|apply Rx.rt ?_|apply Rx.xt ?_)
      refine WpL.call rfl eVk eAk ?_;simp only [List.cons_append,List.nil_append,List.append_nil]
      refine WpCall.mono ?_ (ns_en (fun _=>rfl) rfl hws l n hok)
      rintro x H4 ⟨rfl,hy⟩
      have n4:=hy.next
      have n4':H2.next ≤ H4.next:=by omega
      have hv4:IntX H4 v (sortsI l i) 0:=hv3.keep (by omega) fun k hk=>hy.out k (by have:=(hv.n.lt hk).2;omega)
      clear hy n4 hws hJ hold hv3 hs1 hok
      dsimp only [setO]
      generalize nodeR l n s=x at *
      have hvb:IntN (H4.alloc (.cells [.int .i64 x] 0 true)) v (sortsI l i) 0:=hv4.n.keep (Nat.le_succ _) fun k hk=>by rw [Hp.get_alloc,if_neg (by have:=(hv4.n.lt hk).2;omega)]
      obtain ⟨v5,H5,a5,s5,n5,f5,o5⟩:=appI_one (r:=H4.next) (imm:=0) x hvb (Nat.zero_le _) (by rw [Hp.get_alloc,if_pos rfl]) (by rw [sortsI_len];omega)
      have n5':H2.next ≤ H5.next:=by simp only [Hp.next_alloc] at n5;omega
      clear n5 f5 o5 hvb
      repeat' (first
         | (apply Rx.nl ?_;clear hK K)|apply Rx.o ?_|(apply Rx.cd (fun hb hbp=>?_) (fun hb hbp=>?_) <;> try (cases hb;done))|apply Wp.seq ?_|(apply Wp.ops' fun K hK=>?_)|apply Wp.block ?_|apply Rx.sk ?_|apply Rx.rt ?_|apply Rx.xt ?_)
      refine ⟨by omega,eL,eL,eN,(by simp only [sB,Nat.reduceBEq, *];exact i64_succ (n:=l.length) (by omega) (by omega)),?_⟩
      exact ⟨v5,eE,.inr ⟨by rw [hsn];simp,by rw [hsn];exact s5⟩⟩
  · have hie : i = l.length := by simp at hb; omega
    rw [hie] at hv
    repeat' (first
       | (apply Rx.nl ?_;clear hK K)|apply Rx.o ?_|(apply Rx.cd (fun hb hbp=>?_) (fun hb hbp=>?_) <;> try (cases hb;done))|apply Wp.seq ?_|(apply Wp.ops' fun K hK=>?_)|apply Wp.block ?_|apply Rx.sk ?_|apply Rx.rt ?_|apply Rx.xt ?_)
    all_goals (refine ⟨eI,_,eR,?_⟩;try simp only [oneOr])
    exact hv.iceV 1)) (wk_nlI 1 _)
end Go.Proofs.Ytackdnelcpbfjaa
namespace Go.Proofs.Ytackdnelcpbfjaa
set_option maxRecDepth 20000
set_option maxRecDepth 20000
open Go Go.Ab
namespace tyR3h
end tyR3h
open tyR3h
structure Sc where
 vars:List (List UInt8)
 arrays:Option (List (List UInt8))
 p:Pr
section
variable (vs an:List (List UInt8))
end
end Go.Proofs.Ytackdnelcpbfjaa
namespace Go.Proofs.Ytackdnelcpbfjaa
set_option maxRecDepth 20000
set_option maxRecDepth 20000
open Go Go.Ab
namespace tyG1
def tyF:=And.intro @tq3 (And.intro @tq2 (And.intro @tq54 (And.intro @tq9 (And.intro @tq35 (And.intro @bin_rem (@bin_quo))))))
end tyG1
open tyG1
noncomputable def code16:{ c:SC // slim 14 (Try.f16.body.getD .skip)=c }:=by
 refine ⟨?_,?_⟩
 rotate_left
 · simp only [Try.f16, Option.getD_some, slim, slimR, slimL, slimD, slimG, Nat.blt, Nat.ble]
   rfl
noncomputable def code56:{ c:SC // slim 25 (Try.f56.body.getD .skip)=c }:=by
 refine ⟨?_,?_⟩
 rotate_left
 · simp only [Try.f56, Option.getD_some, slim, slimR, slimL, slimD, slimG, Nat.blt, Nat.ble]
   rfl
def pickG (n m:Int):Int:=if n.tmod m < 0 then w64 (n.tmod m + m) else n.tmod m
theorem pickG_range {n m:Int} (h:0 < m) (h2:m < 2 ^ 62):0 ≤ pickG n m ∧ pickG n m < m:=by
 unfold pickG
 have h3:=Int.tmod_lt_of_pos n h
 have h4:-m < n.tmod m:=by
   have:=Int.tmod_lt_of_pos (-n) h
   rw [Int.neg_tmod] at this
   omega
 split
 · unfold w64
   rw [IntWalk.i64_in _ (by omega)];omega
 · omega
def pkE (x:Int × Int):List AV:=[.int .i64 x.1,.int .i64 x.2]
theorem pkE_inj (x y:Int × Int) (h:pkE x=pkE y):x=y:=by
 simp only [pkE,List.cons.injEq,AV.int.injEq,and_true,true_and] at h
 exact Prod.ext h.1 h.2
theorem pick_con (ρ:Nat → Int) (x:Int × Int) (hx:x.2 ≠ 0):Con Try.prog ρ 16 (pkE x) (.int .i64 (pickG x.1 x.2)):=Con.lev fit (pls:=pls) (l:=[]) trivial (.cons (.int _ _) (.cons (.int _ _) .nil)) (.int _ _) (by
 have hw:=plain0 16
 obtain ⟨n,m⟩:=x
 rw [pkE]
 simp only [] at hx ⊢
 refine WpCall.slim (M:=14) (rs:=[.tmp 4]) (hw.call _) hw.ice hw.froz Try.func16 rfl rfl code16.2 rfl ?_;dsimp only [code16,envOf,Nat.reduceAdd]
 repeat' (first
    | (apply Rx.nl ?_;clear hK K)|apply Rx.o ?_|(apply Rx.cd (fun hb hbp=>?_) (fun hb hbp=>?_) <;> try (cases hb;done))|apply Wp.seq ?_|(apply Wp.ops' fun K hK=>?_)|apply Rx.sk ?_|apply Rx.rt ?_)
 all_goals (refine ⟨eI,_,eR,?_⟩;try simp only [oneOr])
 all_goals (simp_all [pickG];try omega))
noncomputable def enPick:En:=⟨16,false,spP (fun x=>x.2 ≠ 0) pkE fun x=>.int .i64 (pickG x.1 x.2)⟩
theorem enPick_ok (ρ:Nat → Int):EnOk Try.prog ρ enPick:=spP_ok fun x hx=>pick_con ρ x hx
theorem pick_en {l:List En} (hl:∀ ar,lookN l 16 ar=enPick.sp ar) (n m:Int) (hm:m ≠ 0) (H:Hp):WpCall Try.prog (cfgN pls l) 16 [.int .i64 n,.int .i64 m] H fun v H'=>v=.int .i64 (pickG n m) ∧ H'=H:=
 WpCall.en (enc:=pkE) (ok:=fun x=>x.2 ≠ 0) (out:=fun x=>.int .i64 (pickG x.1 x.2)) pkE_inj (x:=(n,m)) (hl _) hm
def edgesG:List Int:=[0,1,-1,2,-9223372036854775808,9223372036854775807,4294967296,-2147483648,63,64]
def wordG (n raw:Int):Int:=if pickG n 24 < 10 then edgesG.getD (pickG n 24).toNat 0 else if pickG n 24 < 22 then w64 (pickG (w64 (n.tdiv 24)) 17 - 6) else raw
theorem bsEd (H:Hp):buildSliceA Try.prog H 54 10 [(0,.int .i64 0),(1,.int .i64 1),(2,.int .i64 (-1)),(3,.int .i64 2),(4,.int .i64 (-9223372036854775808)),(5,.int .i64 9223372036854775807),(6,.int .i64 4294967296),(7,.int .i64 (-2147483648)),(8,.int .i64 63),(9,.int .i64 64)]=some (.sl H.next 0 10 1,H.alloc (.cells (edgesG.map fun n=>.int .i64 n) 0 true)):=by kernel_rfl
theorem word_con (ρ:Nat → Int) (x:Int × Int):Con Try.prog ρ 56 (pkE x) (.int .i64 (wordG x.1 x.2)):=Con.lev fit (pls:=pls) (l:=[enPick]) ⟨enPick_ok ρ,trivial⟩ (.cons (.int _ _) (.cons (.int _ _) .nil)) (.int _ _) (by
 have hw:Plain (cfgN pls [enPick]) 56:=plainN (fun _=>rfl) rfl
 obtain ⟨n,m⟩:=x
 have hr:=pickG_range (n:=n) (m:=24) (by omega) (by omega)
 have hp:0 ≤ pickG n 24:=hr.1
 rw [pkE]
 simp only []
 have hq:(24:Int) ≠ 0:=by decide
 refine WpCall.slim (M:=25) (rs:=[.tmp 4]) (hw.call _) hw.ice hw.froz Try.func56 rfl rfl code56.2 rfl ?_;dsimp only [code56,envOf,Nat.reduceAdd]
 have gh0:=@bsEd
 repeat' (first
    | (apply Rx.nl ?_;clear hK K)|apply Rx.o ?_|(apply Rx.call ?_;first|refine Rx.k (pick_en (fun _=>rfl) _ _ (by decide) _) ?_)|(apply Rx.cd (fun hb hbp=>?_) (fun hb hbp=>?_) <;> try (cases hb;done))|apply Wp.seq ?_|(apply Wp.ops' fun K hK=>?_)|apply Wp.block ?_|apply Rx.sk ?_|apply Rx.rt ?_)
 · have hlt : (pickG n 24).toNat < 10 := by omega
   have hg:edgesG[(pickG n 24).toNat]?=some (edgesG.getD (pickG n 24).toNat 0):=by
     rw [List.getD_eq_getElem?_getD,List.getElem?_eq_getElem (by simpa [edgesG] using hlt)];rfl
   repeat' (first
      | (apply Rx.nl ?_;clear hK K)|apply Ry.o ?_|apply Wp.seq ?_|(apply Wp.ops' fun K hK=>?_)|apply Wp.block ?_|apply Rx.sk ?_|apply Rx.rt ?_)
   all_goals (refine ⟨eI,_,eR,?_⟩;try simp only [oneOr])
   rw [wordG,if_pos (by assumption)]
 · all_goals (refine ⟨eI, _, eR, ?_⟩; try simp only [oneOr])
   rw [wordG,if_neg (by assumption),if_pos (by assumption)]
 · all_goals (refine ⟨eI, _, eR, ?_⟩; try simp only [oneOr])
   rw [wordG,if_neg (by assumption),if_neg (by assumption)])
noncomputable def enWord:En:=⟨56,false,spP (fun _=>True) pkE fun x=>.int .i64 (wordG x.1 x.2)⟩
theorem enWord_ok (ρ:Nat → Int):EnOk Try.prog ρ enWord:=spP_ok fun x hx=>word_con ρ x
theorem word_en {l:List En} (hl:∀ ar,lookN l 56 ar=enWord.sp ar) (n m:Int) (H:Hp):WpCall Try.prog (cfgN pls l) 56 [.int .i64 n,.int .i64 m] H fun v H'=>v=.int .i64 (wordG n m) ∧ H'=H:=
 WpCall.en (enc:=pkE) (ok:=fun _=>True) (out:=fun x=>.int .i64 (wordG x.1 x.2)) pkE_inj (x:=(n,m)) (hl _) trivial
end Go.Proofs.Ytackdnelcpbfjaa
namespace Go.Proofs.Ytackdnelcpbfjaa
set_option maxRecDepth 20000
open Go Go.Ab
def srtK (op:Int):Int:=if op=27 ∨ op=28 ∨ op=29 then 2 else 1
def opSortK (op k:Int):Int:=if k=0 ∧ (srtK op=2 ∨ op=23 ∨ op=24) then 2 else 1
theorem opSortK_12 (op k:Int):opSortK op k=1 ∨ opSortK op k=2:=by unfold opSortK;split <;> simp
def allK (s:List Int) (t:Int):Nat → List Int
 | 0=>[]
 | i + 1=>if s.getD i 0=t then allK s t i ++ [(i:Int)] else allK s t i
theorem allK_len (s:List Int) (t:Int):∀ i,(allK s t i).length ≤ i
 | 0=>Nat.le_refl _
 | i + 1 => by
   have:=allK_len s t i
   rw [allK];split
   · rw [List.length_append,List.length_singleton];omega
   · omega
theorem allK_ne {s:List Int} {t:Int} {k:Nat} (h:s.getD k 0=t):∀ {i:Nat},k < i → 0 < (allK s t i).length
 | 0,hk=>by omega
 | i + 1, hk => by
   rw [allK]
   by_cases e:k=i
   · subst e;rw [if_pos h,List.length_append,List.length_singleton];omega
   · have := allK_ne h (i := i) (by omega)
     split
     · rw [List.length_append];omega
     · exact this
def ofK (l:List Nd) (t n:Int):Int:=
 (allK (sortsI l l.length) t l.length).getD ((allK (sortsI l l.length) t l.length).length - 1 - (pickG n (allK (sortsI l l.length) t l.length).length).toNat) 0
def opK (values:Bool) (n:Int):Int:=if values=false ∧ 5 < pickG n 9 then [23,27,28,29,24].getD (pickG (w64 (n.tdiv 9)) 5).toNat 0 else 4 + pickG n 19
def seedK (n:Int):Nat → Int
 | 0=>w64 (n.tdiv 7)
 | 1=>w64 (n.tdiv 101)
 | 2=>w64 (n.tdiv 1009)
 | _=>0
def kidsK (out:List Nd) (op n:Int):Nat → List Int
 | 0=>[]
 | j + 1=>kidsK out op n j ++ [ofK out (opSortK op j) (seedK n j)]
def immK (op n:Int):Int:=if op=27 then 1 + pickG (w64 (n.tdiv 5)) 2 else if op=23 ∨ op=28 then pickG (w64 (n.tdiv 5)) 2 else 0
def nodeK (out:List Nd) (values:Bool) (n:Int):Nd:=
 if pickG n 11=0 then ⟨1,wordG (w64 (n.tdiv 11)) n,[]⟩ else ⟨opK values n,immK (opK values n) n,kidsK out (opK values n) n (arI (opK values n)).1.toNat⟩
def hasK (l:List Nd) (x:Nd):Bool:=l.any fun y=>decide (y=x)
def addK (out:List Nd) (x:Nd):List Nd:=if hasK out x=true then out else out ++ [x]
def baseK:List Nd:=[⟨2,0,[]⟩,⟨2,1,[]⟩,⟨26,0,[]⟩]
def nodesK (l:List Int) (values:Bool):Nat → List Nd
 | 0=>baseK
 | i + 1=>addK (nodesK l values i) (nodeK (nodesK l values i) values (l.getD i 0))
def nodesL (l:List Int) (values:Bool):List Nd:=nodesK l values (min l.length 14)
theorem kidsK_len (out:List Nd) (op n:Int):∀ j,(kidsK out op n j).length=j
 | 0=>rfl
 | j + 1=>by rw [kidsK,List.length_append,kidsK_len out op n j];rfl
theorem arI_le (op:Int):(arI op).1 ≤ 3:=by
 unfold arI
 repeat' split
 all_goals decide
theorem nodeK_kids (out:List Nd) (values:Bool) (n:Int):(nodeK out values n).kids.length ≤ 3:=by
 unfold nodeK
 split
 · exact Nat.zero_le _
 · show (kidsK _ _ _ _).length ≤ 3
   rw [kidsK_len]
   have:=arI_le (opK values n)
   omega
theorem addK_len (out:List Nd) (x:Nd):(addK out x).length ≤ out.length + 1:=by
 unfold addK;split
 · omega
 · rw [List.length_append];exact Nat.le_refl _
theorem nodesK_len (l:List Int) (values:Bool):∀ i,(nodesK l values i).length ≤ 3 + i
 | 0=>Nat.le_refl _
 | i + 1 => by
   have:=nodesK_len l values i
   have:=addK_len (nodesK l values i) (nodeK (nodesK l values i) values (l.getD i 0))
   rw [nodesK];omega
theorem nodesK_base (l:List Int) (values:Bool):∀ i,∃ r,nodesK l values i=baseK ++ r
 | 0=>⟨[],rfl⟩
 | i + 1 => by
   obtain ⟨r,h⟩:=nodesK_base l values i
   rw [nodesK]
   unfold addK
   split
   · exact ⟨r,h⟩
   · exact ⟨r ++ [nodeK (nodesK l values i) values (l.getD i 0)],by rw [← List.append_assoc,← h]⟩
def kidsLe (c:Nat) (l:List Nd):Prop:=∀ n ∈ l,n.kids.length ≤ c
theorem nodesK_kids (l:List Int) (values:Bool):∀ i,kidsLe 3 (nodesK l values i)
 | 0=>by intro n hn;simp only [nodesK,baseK,List.mem_cons,List.not_mem_nil,or_false] at hn;rcases hn with rfl|rfl|rfl <;> simp
 | i + 1 => by
   intro n hn
   rw [nodesK] at hn
   unfold addK at hn
   split at hn
   · exact nodesK_kids l values i n hn
   · rcases List.mem_append.1 hn with hn | hn
     · exact nodesK_kids l values i n hn
     · rw [List.mem_singleton] at hn;subst hn;exact nodeK_kids _ _ _
theorem base_sorts (r:List Nd):(sortsI (baseK ++ r) (baseK ++ r).length).getD 0 0=1 ∧ (sortsI (baseK ++ r) (baseK ++ r).length).getD 2 0=2:=by
 have hl:(baseK ++ r).length=3 + r.length:=by rw [List.length_append];rfl
 rw [sortI_get (j:=0) (by omega) (Nat.le_refl _),sortI_get (j:=2) (by omega) (Nat.le_refl _)]
 have h0:=sortI_app (l:=baseK) (m:=r) (i:=0) (by decide)
 have h2:=sortI_app (l:=baseK) (m:=r) (i:=2) (by decide)
 have e0:sortI baseK 0=1:=by decide
 have e2:sortI baseK 2=2:=by decide
 exact ⟨h0.trans e0,h2.trans e2⟩
theorem allK_pos {l:List Nd} (h:∃ r,l=baseK ++ r) {t:Int} (ht:t=1 ∨ t=2):0 < (allK (sortsI l l.length) t l.length).length:=by
 obtain ⟨r,rfl⟩:=h
 have hl:(baseK ++ r).length=3 + r.length:=by rw [List.length_append];rfl
 obtain ⟨h0,h2⟩:=base_sorts r
 rcases ht with rfl|rfl
 · exact allK_ne h0 (by omega)
 · exact allK_ne h2 (by omega)
def mutNd (l:List Nd) (n:Nd) (how at_:Int):Nd:=
 if pickG how 10=0 then ⟨pickG (w64 (how.tdiv 10)) 36 - 1,n.imm,n.kids⟩
 else if pickG how 10=1 then ⟨n.op,pickG (w64 (how.tdiv 10)) 300 - 3,n.kids⟩
 else if pickG how 10=2 then ⟨n.op,n.imm,n.kids ++ [pickG (w64 (how.tdiv 10)) (l.length + 2) - 1]⟩
 else if pickG how 10=3 then (if n.kids=[] then n else ⟨n.op,n.imm,n.kids.set (pickG (w64 (how.tdiv 10)) n.kids.length).toNat (pickG (w64 (at_.tdiv 3)) (l.length + 2) - 1)⟩)
 else if pickG how 10=4 then ⟨n.op,n.imm,n.kids.drop 1⟩
 else if pickG how 10=6 then ⟨3,pickG (w64 (how.tdiv 10)) 40,[]⟩
 else n
def mutN (l : List Nd) (how at_ : Int) : List Nd :=
 if l=[] then [] else
   (if pickG how 10=5 then l ++ [l.getD (pickG at_ l.length).toNat ⟨0,0,[]⟩] else l).set (pickG at_ l.length).toNat (mutNd l (l.getD (pickG at_ l.length).toNat ⟨0,0,[]⟩) how at_)
theorem mutNd_kids (l:List Nd) (n:Nd) (how at_:Int):(mutNd l n how at_).kids.length ≤ n.kids.length + 1:=by
 unfold mutNd
 repeat' split
 all_goals (first|(simp;done)|(simp;omega))
theorem mutN_len (l:List Nd) (how at_:Int):(mutN l how at_).length ≤ l.length + 1:=by
 unfold mutN
 split
 · exact Nat.zero_le _
 · rw [List.length_set]; split
   · rw [List.length_append];exact Nat.le_refl _
   · omega
theorem mutN_kids {l : List Nd} {c : Nat} (h : kidsLe c l) (how at_ : Int) : kidsLe (c + 1) (mutN l how at_) := by
  intro n hn
  unfold mutN at hn
  split at hn
  · simp at hn
  · rename_i hne
    have hg:(l.getD (pickG at_ l.length).toNat ⟨0,0,[]⟩).kids.length ≤ c:=by
      rw [List.getD_eq_getElem?_getD]
      cases e:l[(pickG at_ l.length).toNat]? with
      | none=>exact Nat.zero_le _
      | some x=>exact h x (List.mem_of_getElem? e)
    rcases List.mem_or_eq_of_mem_set hn with hn|rfl
    · split at hn
      · rcases List.mem_append.1 hn with hn | hn
        · have:=h n hn;omega
        · rw [List.mem_singleton] at hn;subst hn;omega
      · have:=h n hn;omega
    · have:=mutNd_kids l (l.getD (pickG at_ l.length).toNat ⟨0,0,[]⟩) how at_;omega
theorem nodesL_ne (l:List Int) (values:Bool):nodesL l values ≠ []:=by
 obtain ⟨r,h⟩:=nodesK_base l values (min l.length 14)
 rw [nodesL,h];simp [baseK]
theorem mutN_ne {l:List Nd} (h:l ≠ []) (how at_:Int):mutN l how at_ ≠ []:=by
 unfold mutN
 rw [if_neg h]
 intro e
 have:=congrArg List.length e
 rw [List.length_set,List.length_nil] at this
 split at this
 · simp at this
 · exact h (List.eq_nil_of_length_eq_zero this)
end Go.Proofs.Ytackdnelcpbfjaa
