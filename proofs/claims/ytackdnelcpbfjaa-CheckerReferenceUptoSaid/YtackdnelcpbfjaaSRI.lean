/- Parts: R3g, R3h, R3i, R3j, AbWk, AbCut, AbIc. -/
import Derived.Test.YtackdnelcpbfjaaSRH
set_option linter.unusedSimpArgs false
set_option linter.unusedVariables false
set_option linter.unusedSectionVars false
set_option linter.defProp false
set_option maxHeartbeats 32000000
namespace Go.Proofs.Ytackdnelcpbfjaa
set_option maxRecDepth 20000
set_option maxRecDepth 20000
open Go Go.Ab
namespace tyR3g
def tyF:=And.intro @tq3 (And.intro @tq9 (And.intro @tq22 (And.intro @tq23 (And.intro @tq25 (And.intro @tq35 (And.intro @tq36 (And.intro @tq39 (And.intro @tq41 (And.intro @tq44 (And.intro @bsS1 (@bsS0)))))))))))
end tyR3g
open tyR3g
noncomputable def code42:{ c:SC // slim 85 (Try.f42.body.getD .skip)=c }:=by
 refine ⟨?_,?_⟩
 rotate_left
 · simp only [Try.f42, Option.getD_some, slim, slimR, slimL, slimD, slimG, Nat.blt, Nat.ble]
   rfl
def dupFrom:List (List UInt8) → List (List UInt8) → Bool
 | _,[]=>false
 | seen,s :: l=>hasS seen s || dupFrom (seen ++ [s]) l
def dupFns (an:List (List UInt8)):List (List UInt8) → List Fu → Bool
 | _,[]=>false
 | seen,f :: fs=>hasS seen f.name || dupFrom an (f.params ++ f.locals) || dupFns an (seen ++ [f.name]) fs
def arNames (p:Pr):List (List UInt8):=p.arrays.map (·.name)
def dupP (p:Pr):Bool:=dupFrom [] (arNames p) || dupFns (arNames p) [] p.funcs
def SplitAt {α:Type} (l seen:List α) (i:Nat):Prop:=l=seen ++ l.drop i
theorem drop_split {α:Type} {l seen:List α} {i:Nat} (h:i < l.length) (e:SplitAt l seen i):SplitAt l (seen ++ [l[i]]) (i + 1):=by
 unfold SplitAt at *
 rw [List.append_assoc,List.singleton_append,← List.drop_eq_getElem_cons h];exact e
theorem dup_con (ρ : Nat → Int) (p : Pr) (hz : p.sz < 2 ^ 36) : Con Try.prog ρ 42 [.agg p.cells] (.bool (dupP p)) := Con.lev fit (pls := pls) (l := [enHas]) ⟨enHas_ok ρ, trivial⟩ (.cons (.agg p.pure) .nil) (.bool _) (by
  have hw:Plain (cfgN pls [enHas]) 42:=plainN (fun _=>rfl) rfl
  have hkeep:(cfgN pls [enHas]).keep 42=false:=rfl
  have hpz:p.sz=1 + arrsSz p.arrays + fnsSz p.funcs:=rfl
  have hla:=arrsSz_len p.arrays
  have hlf:=fnsSz_len p.funcs
  have hal:(arNames p).length=p.arrays.length:=by simp [arNames]
  refine WpCall.slim (M:=85) (rs:=[.tmp 2]) (hw.call _) hw.ice hw.froz Try.func42 rfl rfl code42.2 rfl ?_;dsimp only [code42,envOf,Nat.reduceAdd]
  repeat' (first
     | (apply Rx.nl ?_;clear hK K)|apply Rx.o ?_|apply Rx.on ?_|(apply Rx.cd (fun hb hbp=>?_) (fun hb hbp=>?_) <;> try (cases hb;done))|apply Wp.seq ?_|(apply Wp.ops' fun K hK=>?_)|(apply Rx.dT 16 [(0,3),(2,3),(5,3),(5,6)] fun K hK=>?_)|(apply Rx.nq ?_;try intro _)|(apply Rx.nt ?_ ?_ <;> clear hK K)|apply WpT.step ?_|apply Wp.block ?_|apply Rx.sk ?_|apply Rx.rt ?_|apply Rx.xt ?_)
  refine Wp.forI [1] [0] 5 p.arrays.length (fun i E H=>E.at 4=.nilS ∧ ∃ v seen,E.at 3=v ∧ StrN H v seen 1 ∧ dupFrom [] (arNames p)=dupFrom seen ((arNames p).drop i) ∧ SplitAt (arNames p) seen i) eE ⟨eE,.nilS,[],eE,.inl ⟨rfl,rfl⟩,by simp,by simp [SplitAt]⟩ ?_
  rintro i E H2 hi hcE hrH hnH hsI ⟨k4,v,seen,k3,s2,hJ,hsn⟩
  (try simp only [forall_cons,forall_nil,and_true,sB,sO,Nat.reduceBEq,Nat.reduceAdd,Nat.reduceLeDiff,tyF, *] at hcE)
  (try simp only [forall_cons,forall_nil,and_true,sB,sO,Nat.reduceBEq,Nat.reduceAdd,Nat.reduceLeDiff,tyF, *] at hrH)
  (try simp only [Hp.next_alloc,Hp.next_set,H0_next,Nat.zero_add,Nat.reduceAdd] at hnH)
  have hB0:(0 == H2.next)=false:=ne_beq (by omega)
  have hC0:(H2.next == 0)=false:=ne_beq (by omega)
  have hsl:seen.length ≤ p.arrays.length:=by have:arNames p=seen ++ (arNames p).drop i:=hsn;have:=congrArg List.length this;rw [List.length_append] at this;omega
  repeat' (first
     | (apply Rx.nl ?_;clear hK K)|apply Rx.o ?_|apply Rx.on ?_|(apply Rx.cd (fun hb hbp=>?_) (fun hb hbp=>?_) <;> try (cases hb;done))|apply Wp.seq ?_|(apply Wp.ops' fun K hK=>?_)|(apply Rx.dT 16 [(0,3),(2,3),(5,3),(5,6)] fun K hK=>?_)|(apply Rx.nq ?_;try intro _)|(apply Rx.nt ?_ ?_ <;> clear hK K)|apply WpT.step ?_|apply Wp.block ?_|apply Rx.sk ?_|apply Rx.rt ?_|apply Rx.xt ?_)
  · have hlt : i < p.arrays.length := by simpa using hb
    have hgx:p.arrays[i]?=some p.arrays[i]:=List.getElem?_eq_getElem hlt
    have hgn:(arNames p)[i]'(by omega)=p.arrays[i].name:=by simp [arNames]
    have hdr:dupFrom seen ((arNames p).drop i)=(hasS seen p.arrays[i].name || dupFrom (seen ++ [p.arrays[i].name]) ((arNames p).drop (i + 1))):=by rw [List.drop_eq_getElem_cons (by omega),hgn];rfl
    have hsn2:=drop_split (by omega) hsn
    rw [hgn] at hsn2
    repeat' (first
       | (apply Rx.nl ?_;clear hK K)|apply Rx.o ?_|apply Rx.on ?_|(apply Rx.cd (fun hb hbp=>?_) (fun hb hbp=>?_) <;> try (cases hb;done))|apply Wp.seq ?_|(apply Wp.ops' fun K hK=>?_)|(apply Rx.dT 16 [(0,3),(2,3),(5,3),(5,6)] fun K hK=>?_)|(apply Rx.nq ?_;try intro _)|(apply Rx.nt ?_ ?_ <;> clear hK K)|apply WpT.step ?_|apply Wp.block ?_|apply Rx.sk ?_|apply Rx.rt ?_|apply Rx.xt ?_)
    refine WpL.call rfl eVk eAk ?_;simp only [List.cons_append,List.nil_append,List.append_nil]
    refine WpCall.mono ?_ (has_wp (fun _=>rfl) rfl s2 (by omega) p.arrays[i].name)
    rintro w H3 ⟨rfl,s3,n3,f3,o3⟩
    have m3:H2.next ≤ H3.next:=by omega
    clear n3
    dsimp only [setO]
    have g30:H3.get 0=some (.cells p.cells 0 true):=by rw [f3 0 (by omega)];exact hrH
    have e1:(0 == H3.next)=false:=by simp;omega
    have s4:StrN (H3.alloc (.cells [.str p.arrays[i].name] 0 true)) v seen 1:=s3.keep (Nat.le_succ _) fun k hk=>by rw [Hp.get_alloc,if_neg (by have:=s3.lt hk;omega)]
    repeat' (first
       | (apply Rx.nl ?_;clear hK K)|apply Rx.o ?_|apply Rx.on ?_|(apply Rx.cd (fun hb hbp=>?_) (fun hb hbp=>?_) <;> try (cases hb;done))|apply Wp.seq ?_|(apply Wp.ops' fun K hK=>?_)|(apply Rx.dT 16 [(0,3),(2,3),(5,3),(5,6)] fun K hK=>?_)|(apply Rx.nq ?_;try intro _)|(apply Rx.nt ?_ ?_ <;> clear hK K)|apply WpT.step ?_|apply Wp.block ?_|apply Rx.sk ?_|apply Rx.rt ?_|apply Rx.xt ?_)
    · all_goals (refine ⟨eI, _, eR, ?_⟩; try simp only [oneOr])
      rw [dupP,hJ,hdr];(try simp only [Bool.not_eq_true',Bool.not_eq_false'] at *);simp only [*,decide_true,decide_false,Bool.false_or,Bool.or_false,Bool.true_or,Bool.or_true,Bool.false_and,Bool.and_false,Bool.true_and,Bool.and_true,Bool.not_true,Bool.not_false,if_true,if_false,Int.reduceEq]
    · obtain ⟨v5, H5, a5, s5, n5, f5, o5⟩ := app_one (r := H3.next) (imm := 0) p.arrays[i].name s4 (by simp only [Hp.next_alloc]; omega) (by rw [Hp.get_alloc, if_pos rfl]) (by omega)
      have g50:H5.get 0=some (.cells p.cells 0 true):=by rw [f5 0 (by omega),Hp.get_alloc,if_neg (by omega)];exact g30
      simp only [Hp.next_alloc] at n5
      have m5:H3.next + 1 ≤ H5.next:=by omega
      clear n5
      refine WpL.append eV eV (by rw [hkeep];exact a5) ?_
      repeat' (first
         | (apply Rx.nl ?_;clear hK K)|apply Rx.o ?_|apply Rx.on ?_|(apply Rx.cd (fun hb hbp=>?_) (fun hb hbp=>?_) <;> try (cases hb;done))|apply Wp.seq ?_|(apply Wp.ops' fun K hK=>?_)|(apply Rx.dT 16 [(0,3),(2,3),(5,3),(5,6)] fun K hK=>?_)|(apply Rx.nq ?_;try intro _)|(apply Rx.nt ?_ ?_ <;> clear hK K)|apply WpT.step ?_|apply Wp.block ?_|apply Rx.sk ?_|apply Rx.rt ?_|apply Rx.xt ?_)
      refine ⟨by omega,eL,eL,eN,(by simp only [sB,Nat.reduceBEq, *];exact i64_succ (n:=p.arrays.length) (by omega) (by omega)),?_⟩
      exact ⟨eE,v5,seen ++ [p.arrays[i].name],eE,.inr s5,by rw [hJ,hdr];(try simp only [Bool.not_eq_true',Bool.not_eq_false'] at *);simp only [*,decide_true,decide_false,Bool.false_or,Bool.or_false,Bool.true_or,Bool.or_true,Bool.false_and,Bool.and_false,Bool.true_and,Bool.and_true,Bool.not_true,Bool.not_false,if_true,if_false,Int.reduceEq],hsn2⟩
  · have hie : i = (arNames p).length := by simp at hb; omega
    unfold SplitAt at hsn
    rw [hie,List.drop_length] at hJ hsn
    rw [List.append_nil] at hsn
    have hJ':dupFrom [] (arNames p)=false:=hJ
    rw [← hsn] at s2
    clear hJ hie hsI hi hsl hsn
    clear seen
    have c3:∀ k,ownS v k → k < H2.next:=fun k hk=>(s2.lt hk).2
    refine Wp.forI [1,3] [0] 6 p.funcs.length (fun i E H=>∃ u seen,E.at 4=u ∧ StrN H u seen H2.next ∧ StrN H v (arNames p) 1 ∧ dupFns (arNames p) [] p.funcs=dupFns (arNames p) seen (p.funcs.drop i) ∧ seen.length=i) eE ⟨.nilS,[],eE,.inl ⟨rfl,rfl⟩,s2,by simp,rfl⟩ ?_
    rintro i E H4 hi hcE hrH hnH hsI ⟨u,seen,k4',s4,t4,hJ2,hsl⟩
    (try simp only [forall_cons,forall_nil,and_true,sB,sO,Nat.reduceBEq,Nat.reduceAdd,Nat.reduceLeDiff,tyF, *] at hcE)
    (try simp only [forall_cons,forall_nil,and_true,sB,sO,Nat.reduceBEq,Nat.reduceAdd,Nat.reduceLeDiff,tyF, *] at hrH)
    (try simp only [Hp.next_alloc,Hp.next_set,H0_next,Nat.zero_add,Nat.reduceAdd] at hnH)
    have hB0:(0 == H4.next)=false:=ne_beq (by omega)
    have hC0:(H4.next == 0)=false:=ne_beq (by omega)
    repeat' (first
       | (apply Rx.nl ?_;clear hK K)|apply Rx.o ?_|apply Rx.on ?_|(apply Rx.cd (fun hb hbp=>?_) (fun hb hbp=>?_) <;> try (cases hb;done))|apply Wp.seq ?_|(apply Wp.ops' fun K hK=>?_)|(apply Rx.dT 16 [(0,3),(2,3),(5,3),(5,6)] fun K hK=>?_)|(apply Rx.nq ?_;try intro _)|(apply Rx.nt ?_ ?_ <;> clear hK K)|apply WpT.step ?_|apply Wp.block ?_|apply Rx.sk ?_|apply Rx.rt ?_|apply Rx.xt ?_)
    · have hlt : i < p.funcs.length := by simpa using hb
      have hgx:p.funcs[i]?=some p.funcs[i]:=List.getElem?_eq_getElem hlt
      have hsm:=fnsSz_mem (List.getElem_mem hlt)
      have hsz:p.funcs[i].sz=1 + p.funcs[i].name.length + strsSz p.funcs[i].params + strsSz p.funcs[i].locals + stmtsSz p.funcs[i].body + p.funcs[i].value.sz:=rfl
      have hdr:dupFns (arNames p) seen (p.funcs.drop i)=(hasS seen p.funcs[i].name || dupFrom (arNames p) (p.funcs[i].params ++ p.funcs[i].locals) || dupFns (arNames p) (seen ++ [p.funcs[i].name]) (p.funcs.drop (i + 1))):=by rw [List.drop_eq_getElem_cons hlt];rfl
      repeat' (first
         | (apply Rx.nl ?_;clear hK K)|apply Rx.o ?_|apply Rx.on ?_|(apply Rx.cd (fun hb hbp=>?_) (fun hb hbp=>?_) <;> try (cases hb;done))|apply Wp.seq ?_|(apply Wp.ops' fun K hK=>?_)|(apply Rx.dT 16 [(0,3),(2,3),(5,3),(5,6)] fun K hK=>?_)|(apply Rx.nq ?_;try intro _)|(apply Rx.nt ?_ ?_ <;> clear hK K)|apply WpT.step ?_|apply Wp.block ?_|apply Rx.sk ?_|apply Rx.rt ?_|apply Rx.xt ?_)
      generalize hHb:Hp.set (Hp.alloc H4 _) H4.next _=Hb
      have nb:H4.next < Hb.next:=by rw [← hHb];exact Nat.lt_succ_self _
      have oldb:∀ k,k < H4.next → Hb.get k=H4.get k:=fun k hk=>by rw [← hHb,Hp.get_set,if_neg (by omega),Hp.get_alloc,if_neg (by omega)]
      have gb:Hb.get H4.next=some (.cells p.funcs[i].cells 0 true):=by rw [← hHb,Hp.get_set,if_pos rfl]
      have gb0:Hb.get 0=some (.cells p.cells 0 true):=by rw [oldb 0 (by omega)];exact hrH
      have s4b:StrN Hb u seen H2.next:=s4.keep (by omega) fun k hk=>oldb k (s4.lt hk).2
      have t4b:StrN Hb v (arNames p) 1:=t4.keep (by omega) fun k hk=>oldb k (t4.lt hk).2
      have nou:¬ ownS u H4.next:=fun h=>by have:=(s4.lt h).2;omega
      clear hHb
      refine WpL.call rfl eVk eAk ?_;simp only [List.cons_append,List.nil_append,List.append_nil]
      refine WpCall.mono ?_ (has_wp (fun _=>rfl) rfl s4b (by omega) p.funcs[i].name)
      rintro w H5 ⟨rfl,s5,n5,f5,o5⟩
      have m5:Hb.next ≤ H5.next:=by omega
      clear n5
      dsimp only [setO]
      have g5:H5.get H4.next=some (.cells p.funcs[i].cells 0 true):=by rw [o5 _ nou];exact gb
      have g50:H5.get 0=some (.cells p.cells 0 true):=by rw [f5 0 (by omega)];exact gb0
      have t5:StrN H5 v (arNames p) 1:=t4b.keep (by omega) fun k hk=>f5 k (c3 k hk)
      have e5:(H4.next == H5.next)=false:=by simp;omega
      repeat' (first
         | (apply Rx.nl ?_;clear hK K)|apply Rx.o ?_|apply Rx.on ?_|(apply Rx.cd (fun hb hbp=>?_) (fun hb hbp=>?_) <;> try (cases hb;done))|apply Wp.seq ?_|(apply Wp.ops' fun K hK=>?_)|(apply Rx.dT 16 [(0,3),(2,3),(5,3),(5,6)] fun K hK=>?_)|(apply Rx.nq ?_;try intro _)|(apply Rx.nt ?_ ?_ <;> clear hK K)|apply WpT.step ?_|apply Wp.block ?_|apply Rx.sk ?_|apply Rx.rt ?_|apply Rx.xt ?_)
      · all_goals (refine ⟨eI, _, eR, ?_⟩; try simp only [oneOr])
        rw [dupP,hJ',hJ2,hdr];(try simp only [Bool.not_eq_true',Bool.not_eq_false'] at *);simp only [*,decide_true,decide_false,Bool.false_or,Bool.or_false,Bool.true_or,Bool.or_true,Bool.false_and,Bool.and_false,Bool.true_and,Bool.and_true,Bool.not_true,Bool.not_false,if_true,if_false,Int.reduceEq]
      have old5:∀ k,k < H5.next → (H5.alloc (.cells [.str p.funcs[i].name] 0 true)).get k=H5.get k:=fun k hk=>by rw [Hp.get_alloc,if_neg (by omega)]
      have s5b:StrN (H5.alloc (.cells [.str p.funcs[i].name] 0 true)) u seen H2.next:=s5.keep (Nat.le_succ _) fun k hk=>old5 k (s5.lt hk).2
      obtain ⟨u6,H6,a6,s6,n6,f6,o6⟩:=app_one (r:=H5.next) (imm:=0) p.funcs[i].name s5b (by simp only [Hp.next_alloc];omega) (by rw [Hp.get_alloc,if_pos rfl]) (by omega)
      simp only [Hp.next_alloc] at n6
      have m6:H5.next + 2 ≤ H6.next:=by omega
      clear n6
      have g6:H6.get H4.next=some (.cells p.funcs[i].cells 0 true):=by rw [o6.1 _ (by simp only [Hp.next_alloc];omega) nou,old5 _ (by omega)];exact g5
      have g60:H6.get 0=some (.cells p.cells 0 true):=by rw [f6 0 (by omega),old5 _ (by omega)];exact g50
      have t6:StrN H6 v (arNames p) 1:=t5.keep (by omega) fun k hk=>by rw [f6 k (c3 k hk),old5 _ (t5.lt hk).2]
      refine WpL.append eV eV (by rw [hkeep];exact a6) ?_
      repeat' (first
         | (apply Rx.nl ?_;clear hK K)|apply Rx.o ?_|apply Rx.on ?_|(apply Rx.cd (fun hb hbp=>?_) (fun hb hbp=>?_) <;> try (cases hb;done))|apply Wp.seq ?_|(apply Wp.ops' fun K hK=>?_)|(apply Rx.dT 16 [(0,3),(2,3),(5,3),(5,6)] fun K hK=>?_)|(apply Rx.nq ?_;try intro _)|(apply Rx.nt ?_ ?_ <;> clear hK K)|apply WpT.step ?_|apply Wp.block ?_|apply Rx.sk ?_|apply Rx.rt ?_|apply Rx.xt ?_)
      have old6:∀ k,k < H6.next → (H6.alloc (.cells [] 0 true)).get k=H6.get k:=fun k hk=>by rw [Hp.get_alloc,if_neg (by omega)]
      have s7:StrB (H6.alloc (.cells [] 0 true)) (.sl H6.next 0 0 1) [] H6.next:=⟨H6.next,0,rfl,by rw [Hp.get_alloc,if_pos rfl];rfl,by simp,Nat.le_refl _,Nat.lt_succ_self _⟩
      have t7:StrN (H6.alloc (.cells [] 0 true)) v (arNames p) 1:=t6.keep (Nat.le_succ _) fun k hk=>old6 k (t6.lt hk).2
      obtain ⟨w8,H8,a8,s8,n8,f8,o8⟩:=app_own s7 (Nat.le_succ _) t7 (by simp;omega)
      simp only [Hp.next_alloc] at n8
      have g8:H8.get H4.next=some (.cells p.funcs[i].cells 0 true):=by rw [f8 _ (by omega),old6 _ (by omega)];exact g6
      have g80:H8.get 0=some (.cells p.cells 0 true):=by rw [f8 0 (by omega),old6 _ (by omega)];exact g60
      have t8:StrN H8 v (arNames p) 1:=t6.keep (by omega) fun k hk=>by rw [f8 k (by have:=(t6.lt hk).2;omega),old6 _ (t6.lt hk).2]
      have u8:StrB H8 u6 (seen ++ [p.funcs[i].name]) H2.next:=s6.keep (by omega) fun k hk=>by rw [f8 k (s6.lt hk).2,old6 _ (s6.lt hk).2]
      refine WpL.append eV eV (by rw [hkeep];exact a8) ?_
      have e8:(H4.next == H8.next)=false:=by simp;omega
      repeat' (first
         | (apply Rx.nl ?_;clear hK K)|apply Rx.o ?_|apply Rx.on ?_|(apply Rx.cd (fun hb hbp=>?_) (fun hb hbp=>?_) <;> try (cases hb;done))|apply Wp.seq ?_|(apply Wp.ops' fun K hK=>?_)|(apply Rx.dT 16 [(0,3),(2,3),(5,3),(5,6)] fun K hK=>?_)|(apply Rx.nq ?_;try intro _)|(apply Rx.nt ?_ ?_ <;> clear hK K)|apply WpT.step ?_|apply Wp.block ?_|apply Rx.sk ?_|apply Rx.rt ?_|apply Rx.xt ?_)
      have old8:∀ k,k < H8.next → (H8.alloc (.cells [] 0 true)).get k=H8.get k:=fun k hk=>by rw [Hp.get_alloc,if_neg (by omega)]
      have s9:StrB (H8.alloc (.cells [] 0 true)) (.sl H8.next 0 0 1) [] H8.next:=⟨H8.next,0,rfl,by rw [Hp.get_alloc,if_pos rfl];rfl,by simp,Nat.le_refl _,Nat.lt_succ_self _⟩
      have g9a:(H8.alloc (.cells [] 0 true)).get H4.next=some (.cells p.funcs[i].cells 0 true):=by rw [old8 _ (by omega)];exact g8
      have g9b:(H8.alloc (.cells [] 0 true)).get H8.next=some (.cells [] 0 true):=by rw [Hp.get_alloc,if_pos rfl]
      have hpl:=strsSz_len p.funcs[i].params
      have hll:=strsSz_len p.funcs[i].locals
      obtain ⟨w9,H9,a9,s10,n9,f9,_⟩:=app_lst p.funcs[i].params s9 (Nat.le_succ _) (by simp;omega)
      simp only [Hp.next_alloc] at n9
      have g9:H9.get H4.next=some (.cells p.funcs[i].cells 0 true):=by rw [f9 _ (by omega)];exact g9a
      refine WpL.append eV eV (by rw [hkeep];exact a9) ?_
      repeat' (first
         | (apply Rx.nl ?_;clear hK K)|apply Rx.o ?_|apply Rx.on ?_|(apply Rx.cd (fun hb hbp=>?_) (fun hb hbp=>?_) <;> try (cases hb;done))|apply Wp.seq ?_|(apply Wp.ops' fun K hK=>?_)|(apply Rx.dT 16 [(0,3),(2,3),(5,3),(5,6)] fun K hK=>?_)|(apply Rx.nq ?_;try intro _)|(apply Rx.nt ?_ ?_ <;> clear hK K)|apply WpT.step ?_|apply Wp.block ?_|apply Rx.sk ?_|apply Rx.rt ?_|apply Rx.xt ?_)
      obtain ⟨w11,H11,a11,s11,n11,f11,_⟩:=app_lst p.funcs[i].locals s10 (by omega) (by simp;omega)
      have g11:H11.get H4.next=some (.cells p.funcs[i].cells 0 true):=by rw [f11 _ (by omega)];exact g9
      refine WpL.append eV eV (by rw [hkeep];exact a11) ?_
      repeat' (first
         | (apply Rx.nl ?_;clear hK K)|apply Rx.o ?_|apply Rx.on ?_|(apply Rx.cd (fun hb hbp=>?_) (fun hb hbp=>?_) <;> try (cases hb;done))|apply Wp.seq ?_|(apply Wp.ops' fun K hK=>?_)|(apply Rx.dT 16 [(0,3),(2,3),(5,3),(5,6)] fun K hK=>?_)|(apply Rx.nq ?_;try intro _)|(apply Rx.nt ?_ ?_ <;> clear hK K)|apply WpT.step ?_|apply Wp.block ?_|apply Rx.sk ?_|apply Rx.rt ?_|apply Rx.xt ?_)
      · exact eK
      · have old11 : ∀ k, k < H8.next → H11.get k = H8.get k := fun k hk => by rw [f11 k hk, f9 k hk, old8 k hk]
        have g110:H11.get 0=some (.cells p.cells 0 true):=by rw [old11 0 (by omega)];exact g80
        have u11:StrB H11 u6 (seen ++ [p.funcs[i].name]) H2.next:=u8.keep (by omega) fun k hk=>old11 k (u8.lt hk).2
        have v11:StrN H11 v (arNames p) 1:=t8.keep (by omega) fun k hk=>old11 k (t8.lt hk).2
        have q11:StrB H11 w8 (arNames p) H6.next:=s8.keep (by omega) fun k hk=>old11 k (s8.lt hk).2
        have c8:∀ k,ownS w8 k → k < H8.next:=fun k hk=>(s8.lt hk).2
        have cu:∀ k,ownS u6 k → k < H6.next:=fun k hk=>(s6.lt hk).2
        have s11':StrB H11 w11 (p.funcs[i].params ++ p.funcs[i].locals) H8.next:=s11
        have hfl:(p.funcs[i].params ++ p.funcs[i].locals).length < 2 ^ 38:=by simp;omega
        have m11:H8.next + 1 ≤ H11.next:=by omega
        have m8:H6.next + 1 ≤ H8.next:=by omega
        clear s11 a11 f11 a9 f9 s10 s9 a8 f8 s8 a6 f6 s6 n9 n11 o8 o6 s7 t7 old8 old6 old5 s5b t8 u8 t6 t5 g9 g9a g9b g8 g6 g5 e8 e5
        generalize p.funcs[i].params ++ p.funcs[i].locals=ns at *
        have hln:=fun H'=>s11'.len (H':=H')
        refine Wp.forI [1,3,4,6,7,9] [0] 10 ns.length (fun j E H=>∃ w seen2,E.at 8=w ∧ StrB H w seen2 H6.next ∧ (∀ k,ownS w k → ¬ ownS w11 k) ∧ StrB H w11 ns H8.next ∧ StrN H v (arNames p) 1 ∧ StrB H u6 (seen ++ [p.funcs[i].name]) H2.next ∧ dupFrom (arNames p) ns=dupFrom seen2 (ns.drop j) ∧ seen2.length=(arNames p).length + j) eE ⟨w8,arNames p,eE,q11,fun k h1 h2=>by have:=c8 k h1;have:=(s11'.lt h2).1;omega,s11',v11,u11,by simp,rfl⟩ ?_
        rintro j E3 H12 hj hcE hrH hnH hsI ⟨w,seen2,k8,q12,hno,r12,v12,u12,hJ3,hsl2⟩
        (try simp only [forall_cons,forall_nil,and_true,sB,sO,Nat.reduceBEq,Nat.reduceAdd,Nat.reduceLeDiff,tyF,g110, *] at hcE)
        (try simp only [forall_cons,forall_nil,and_true,sB,sO,Nat.reduceBEq,Nat.reduceAdd,Nat.reduceLeDiff,tyF,g110, *] at hrH)
        (try simp only [Hp.next_alloc,Hp.next_set,H0_next,Nat.zero_add,Nat.reduceAdd] at hnH)
        have hB0:(0 == H12.next)=false:=ne_beq (by omega)
        have hC0:(H12.next == 0)=false:=ne_beq (by omega)
        repeat' (first
           | (apply Rx.nl ?_;clear hK K)|apply Rx.o ?_|apply Rx.on ?_|(apply Rx.cd (fun hb hbp=>?_) (fun hb hbp=>?_) <;> try (cases hb;done))|apply Wp.seq ?_|(apply Wp.ops' fun K hK=>?_)|(apply Rx.dT 16 [(0,3),(2,3),(5,3),(5,6)] fun K hK=>?_)|(apply Rx.nq ?_;try intro _)|(apply Rx.nt ?_ ?_ <;> clear hK K)|apply WpT.step ?_|apply Wp.block ?_|apply Rx.sk ?_|apply Rx.rt ?_|apply Rx.xt ?_)
        · have hlt2 : j < ns.length := by simpa using hb
          obtain ⟨q,ia,ld⟩:=r12.at hlt2
          have hdr2:dupFrom seen2 (ns.drop j)=(hasS seen2 ns[j] || dupFrom (seen2 ++ [ns[j]]) (ns.drop (j + 1))):=by rw [List.drop_eq_getElem_cons hlt2];rfl
          repeat' (first
             | (apply Rx.nl ?_;clear hK K)|apply Rx.o ?_|apply Rx.on ?_|(apply Rx.cd (fun hb hbp=>?_) (fun hb hbp=>?_) <;> try (cases hb;done))|apply Wp.seq ?_|(apply Wp.ops' fun K hK=>?_)|(apply Rx.dT 16 [(0,3),(2,3),(5,3),(5,6)] fun K hK=>?_)|(apply Rx.nq ?_;try intro _)|(apply Rx.nt ?_ ?_ <;> clear hK K)|apply WpT.step ?_|apply Wp.block ?_|apply Rx.sk ?_|apply Rx.rt ?_|apply Rx.xt ?_)
          refine WpL.call rfl eVk eAk ?_;simp only [List.cons_append,List.nil_append,List.append_nil]
          refine WpCall.mono ?_ (has_wp (fun _=>rfl) rfl (.inr q12) (by omega) ns[j])
          rintro w0 H13 ⟨rfl,s13,n13,f13,o13⟩
          have m13:H12.next ≤ H13.next:=by omega
          clear n13
          dsimp only [setO]
          have g130:H13.get 0=some (.cells p.cells 0 true):=by rw [f13 0 (by omega)];exact hrH
          have r13:StrB H13 w11 ns H8.next:=r12.keep m13 fun k hk=>o13 k fun h=>hno k h hk
          have v13:StrN H13 v (arNames p) 1:=v12.keep m13 fun k hk=>f13 k (by have:=c3 k hk;omega)
          have u13:StrB H13 u6 (seen ++ [p.funcs[i].name]) H2.next:=u12.keep m13 fun k hk=>f13 k (cu k hk)
          clear ia ld
          obtain ⟨q2,ia2,ld2⟩:=r13.at hlt2
          repeat' (first
             | (apply Rx.nl ?_;clear hK K)|apply Rx.o ?_|apply Rx.on ?_|(apply Rx.cd (fun hb hbp=>?_) (fun hb hbp=>?_) <;> try (cases hb;done))|apply Wp.seq ?_|(apply Wp.ops' fun K hK=>?_)|(apply Rx.dT 16 [(0,3),(2,3),(5,3),(5,6)] fun K hK=>?_)|(apply Rx.nq ?_;try intro _)|(apply Rx.nt ?_ ?_ <;> clear hK K)|apply WpT.step ?_|apply Wp.block ?_|apply Rx.sk ?_|apply Rx.rt ?_|apply Rx.xt ?_)
          · all_goals (refine ⟨eI, _, eR, ?_⟩; try simp only [oneOr])
            rw [dupP,hJ',hJ2,hdr,hJ3,hdr2];(try simp only [Bool.not_eq_true',Bool.not_eq_false'] at *);simp only [*,decide_true,decide_false,Bool.false_or,Bool.or_false,Bool.true_or,Bool.or_true,Bool.false_and,Bool.and_false,Bool.true_and,Bool.and_true,Bool.not_true,Bool.not_false,if_true,if_false,Int.reduceEq]
          have old13:∀ k,k < H13.next → (H13.alloc (.cells [.str ns[j]] 0 true)).get k=H13.get k:=fun k hk=>by rw [Hp.get_alloc,if_neg (by omega)]
          have s13b:StrN (H13.alloc (.cells [.str ns[j]] 0 true)) w seen2 H6.next:=s13.keep (Nat.le_succ _) fun k hk=>old13 k (s13.lt hk).2
          obtain ⟨w14,H14,a14,s14,n14,f14,o14⟩:=app_one (r:=H13.next) (imm:=0) ns[j] s13b (by simp only [Hp.next_alloc];omega) (by rw [Hp.get_alloc,if_pos rfl]) (by omega)
          simp only [Hp.next_alloc] at n14
          have m14:H13.next + 2 ≤ H14.next:=by omega
          clear n14
          have g140:H14.get 0=some (.cells p.cells 0 true):=by rw [f14 0 (by omega),old13 _ (by omega)];exact g130
          refine WpL.append eV eV (by rw [hkeep];exact a14) ?_
          repeat' (first
             | (apply Rx.nl ?_;clear hK K)|apply Rx.o ?_|apply Rx.on ?_|(apply Rx.cd (fun hb hbp=>?_) (fun hb hbp=>?_) <;> try (cases hb;done))|apply Wp.seq ?_|(apply Wp.ops' fun K hK=>?_)|(apply Rx.dT 16 [(0,3),(2,3),(5,3),(5,6)] fun K hK=>?_)|(apply Rx.nq ?_;try intro _)|(apply Rx.nt ?_ ?_ <;> clear hK K)|apply WpT.step ?_|apply Wp.block ?_|apply Rx.sk ?_|apply Rx.rt ?_|apply Rx.xt ?_)
          refine ⟨by omega,eL,eL,eN,(by simp only [sB,Nat.reduceBEq, *];exact i64_succ (n:=ns.length) (by omega) (by omega)),?_⟩
          refine ⟨w14,seen2 ++ [ns[j]],eE,s14,fun k h1 h2=>?_,?_,?_,?_,by rw [hJ3,hdr2];(try simp only [Bool.not_eq_true',Bool.not_eq_false'] at *);simp only [*,decide_true,decide_false,Bool.false_or,Bool.or_false,Bool.true_or,Bool.or_true,Bool.false_and,Bool.and_false,Bool.true_and,Bool.and_true,Bool.not_true,Bool.not_false,if_true,if_false,Int.reduceEq],by simp [hsl2];omega⟩
          · have hk := (r13.lt h2).2
            rcases o14.2 k h1 with h3|h3
            · exact hno k h3 h2
            · simp only [Hp.next_alloc] at h3;omega
          · refine r13.keep (by omega) fun k hk => ?_
            have hl:=(r13.lt hk).2
            rw [o14.1 k (by simp only [Hp.next_alloc];omega) (fun h=>hno k h hk),old13 k hl]
          · exact v13.keep (by omega) fun k hk=>by rw [f14 k (by have:=c3 k hk;omega),old13 k (v13.lt hk).2]
          · exact u13.keep (by omega) fun k hk=>by rw [f14 k (cu k hk),old13 k (u13.lt hk).2]
        · have hje : j = ns.length := by simp at hb; omega
          rw [hje,List.drop_length] at hJ3
          have hJ3':dupFrom (arNames p) ns=false:=hJ3
          refine ⟨by omega,eL,eL,eN,(by simp only [sB,Nat.reduceBEq, *];exact i64_succ (n:=p.funcs.length) (by omega) (by omega)),?_⟩
          exact ⟨u6,seen ++ [p.funcs[i].name],eE,.inr u12,v12,by rw [hJ2,hdr,hJ3'];(try simp only [Bool.not_eq_true',Bool.not_eq_false'] at *);simp only [*,decide_true,decide_false,Bool.false_or,Bool.or_false,Bool.true_or,Bool.or_true,Bool.false_and,Bool.and_false,Bool.true_and,Bool.and_true,Bool.not_true,Bool.not_false,if_true,if_false,Int.reduceEq],by simp [hsl]⟩
    · all_goals (refine ⟨eI, _, eR, ?_⟩; try simp only [oneOr])
      have hie:i=p.funcs.length:=by simp at hb;omega
      rw [hie,List.drop_length] at hJ2
      have hJ2':dupFns (arNames p) [] p.funcs=false:=hJ2
      rw [dupP,hJ',hJ2'];rfl)
end Go.Proofs.Ytackdnelcpbfjaa
namespace Go.Proofs.Ytackdnelcpbfjaa
set_option maxRecDepth 20000
set_option maxRecDepth 20000
open Go Go.Ab
namespace tyR3h
def tyF:=And.intro @tq2 (And.intro @tq3 (And.intro @tq9 (And.intro @tq25 (And.intro @tq35 (And.intro @tq37 (And.intro @tq39 (And.intro @tq89 (And.intro @tq22 (And.intro @tq23 (And.intro @tq36 (@tq46)))))))))))
end tyR3h
open tyR3h
noncomputable def code44:{ c:SC // slim 43 (Try.f44.body.getD .skip)=c }:=by
 refine ⟨?_,?_⟩
 rotate_left
 · simp only [Try.f44, Option.getD_some, slim, slimR, slimL, slimD, slimG, Nat.blt, Nat.ble]
   rfl
noncomputable def code89:{ c:SC // slim 64 (Try.f89.body.getD .skip)=c }:=by
 refine ⟨?_,?_⟩
 rotate_left
 · simp only [Try.f89, Option.getD_some, slim, slimR, slimL, slimD, slimG, Nat.blt, Nat.ble]
   rfl
structure Sc where
 vars:List (List UInt8)
 arrays:Option (List (List UInt8))
 p:Pr
def Sc.an (x:Sc):List (List UInt8):=x.arrays.getD []
def orowA:Option (List (List UInt8)) → AV
 | none=>.nilS
 | some l=>lstS l
def Sc.cells (x:Sc):List AV:=[lstS x.vars,orowA x.arrays,.lst (x.p.arrays.map Ar.cells),.lst (x.p.funcs.map Fu.cells)]
def Sc.ok (x:Sc):Prop:=x.vars.length < 2 ^ 60 ∧ x.an.length < 2 ^ 60 ∧ x.p.sz < 2 ^ 60
theorem Sc.c0 (x:Sc):x.cells[0]?=some (lstS x.vars):=rfl
theorem Sc.c1 (x:Sc):x.cells[1]?=some (orowA x.arrays):=rfl
theorem Sc.whole (x:Sc):aggA 4 x.cells=some (.agg x.cells):=rfl
theorem Sc.part (x:Sc):aggA 2 (x.cells.drop 2)=some (.agg x.p.cells):=rfl
theorem orow_pure (a:Option (List (List UInt8))):PureA (orowA a):=by
 cases a with
 | none=>exact .nilS
 | some l=>exact strs_pure l
theorem Sc.pure (x:Sc):PureL x.cells:=.cons (strs_pure _) (.cons (orow_pure _) x.p.pure)
theorem orow_inj {a b:Option (List (List UInt8))} (h:orowA a=orowA b):a=b:=by
 cases a <;> cases b <;> simp only [orowA,reduceCtorEq,AV.lst.injEq] at h
 · rfl
 · rw [strs_inj h]
theorem Sc.inj {x y:Sc} (h:x.cells=y.cells):x=y:=by
 obtain ⟨v,a,p⟩:=x
 obtain ⟨v',a',p'⟩:=y
 simp only [Sc.cells,List.cons.injEq,AV.lst.injEq,and_true] at h
 obtain ⟨h1,h2,h3,h4⟩:=h
 rw [strs_inj h1,orow_inj h2,Pr.inj (x:=p) (y:=p') (by simp [Pr.cells,h3,h4])]
section
variable (vs an:List (List UInt8))
def defX (x:Ex):Bool:=(!decide (x.kind=2) || hasS vs x.name) && (!decide (x.kind=3) || hasS an x.name)
mutual
def defE:Ex → Bool
 | .mk k n s o ks=>defEs ks && defX vs an (.mk k n s o ks)
def defEs:List Ex → Bool
 | []=>true
 | e :: es=>defE e && defEs es
end
theorem defE_eq (x:Ex):defE vs an x=(defEs vs an x.kids && defX vs an x):=by cases x;rw [defE];rfl
end
def scE (x:Sc × Ex):List AV:=[.agg x.1.cells,.agg x.2.cells]
theorem scE_inj (x y:Sc × Ex) (h:scE x=scE y):x=y:=by
 simp only [scE,List.cons.injEq,AV.agg.injEq,and_true] at h
 exact Prod.ext (Sc.inj h.1) (Ex.inj h.2)
theorem hasO_wp {l:List En} (hl:∀ ar,lookN l 87 ar=enHas.sp ar) (a:Option (List (List UInt8))) (ha:(a.getD []).length < 2 ^ 60) (s:List UInt8) (H:Hp) :
   WpCall Try.prog (cfgN pls l) 87 [orowA a,.str s] H fun v H'=>v=.bool (hasS (a.getD []) s) ∧ H'=H:=by
 have:=WpCall.en (P:=Try.prog) (pls:=pls) (l:=l) (enc:=rowsE) (ok:=fun x=>(x.1.getD []).length < 2 ^ 60) (out:=fun x=>.bool (hasS (x.1.getD []) x.2)) rowsE_inj (g:=87) (x:=(a,s)) (hl _) ha (H:=H)
 cases a <;> exact this
theorem defE_con (ρ:Nat → Int):∀ x:Sc × Ex,(x.1.ok ∧ x.2.sz < 2 ^ 60) → Con Try.prog ρ 44 (scE x) (.bool (defE x.1.vars x.1.an x.2)):=
 Con.recN fit (pls:=pls) (l:=[enHas]) ⟨enHas_ok ρ,trivial⟩ (fun x=>x.2.sz) (ok:=fun x=>x.1.ok ∧ x.2.sz < 2 ^ 60) (enc:=scE) (out:=fun x=>.bool (defE x.1.vars x.1.an x.2)) (fun x _=>.cons (.agg x.1.pure) (.cons (.agg x.2.pure) .nil)) (fun x _=>.bool _) (fun x hx=>by
 have hw:=plainR (sz:=fun x:Sc × Ex=>x.2.sz) (ok:=fun x=>x.1.ok ∧ x.2.sz < 2 ^ 60) (out:=fun x=>.bool (defE x.1.vars x.1.an x.2)) scE_inj (f:=44) (l:=[enHas]) x
 generalize hl:(⟨44,false,spP (fun y=>(y.1.ok ∧ y.2.sz < 2 ^ 60) ∧ y.2.sz < x.2.sz) scE fun x=>.bool (defE x.1.vars x.1.an x.2)⟩:En) :: [enHas]=l at hw ⊢
 obtain ⟨c,x⟩:=x
 obtain ⟨hc,hx⟩:=hx
 simp only [] at hx hc
 have kr:∀ y:Ex,y.sz < x.sz → ∀ H,WpCall Try.prog (cfgN pls l) 44 [.agg c.cells,.agg y.cells] H fun v H'=>v=.bool (defE c.vars c.an y) ∧ H'=H:=fun y h2 H=>by
   subst hl;exact WpCall.en (enc:=scE) (out:=fun x=>.bool (defE x.1.vars x.1.an x.2)) scE_inj (x:=(c,y)) rfl ⟨⟨hc,by simp only [];omega⟩,h2⟩
 have kv:∀ s H,WpCall Try.prog (cfgN pls l) 87 [lstS c.vars,.str s] H fun v H'=>v=.bool (hasS c.vars s) ∧ H'=H:=fun s H=>by
   subst hl;exact hasO_wp (fun _=>rfl) (some c.vars) hc.1 s H
 have ka:∀ s H,WpCall Try.prog (cfgN pls l) 87 [orowA c.arrays,.str s] H fun v H'=>v=.bool (hasS c.an s) ∧ H'=H:=fun s H=>by
   subst hl;exact hasO_wp (fun _=>rfl) c.arrays hc.2.1 s H
 have hsz:=x.sz_eq
 have hlen:=exprsSz_len x.kids
 change WpCall _ _ _ [.agg c.cells,.agg x.cells] _ _
 refine WpCall.slim (M:=43) (rs:=[.tmp 4]) hw.call hw.ice hw.froz Try.func44 rfl rfl code44.2 rfl ?_;dsimp only [code44,envOf,Nat.reduceAdd]
 repeat' (first
    | (apply Rx.nl ?_;clear hK K)|apply Rx.o ?_|apply Rx.gu ?_|(apply Rx.gd (fun hg hgp=>?_) (fun hg hgp=>?_) <;> try (cases hg;done))|(apply Rx.cd (fun hb hbp=>?_) (fun hb hbp=>?_) <;> try (cases hb;done))|apply Wp.seq ?_|(apply Wp.ops' fun K hK=>?_)|(apply Rx.dT 4 [(0,6),(2,6),(5,6)] fun K hK=>?_)|(apply Rx.nq ?_;try intro _)|(apply Rx.nt ?_ ?_ <;> clear hK K)|apply WpT.step ?_|apply Wp.block ?_|apply Rx.sk ?_|apply Rx.rt ?_|apply Rx.xt ?_)
 refine Wp.forI [2,3] [0,1] 5 x.kids.length (fun i E H=>defEs c.vars c.an x.kids=defEs c.vars c.an (x.kids.drop i)) eE (by simp) ?_
 rintro i E H2 hi hcE hrH hnH hsI hJ
 (try simp only [forall_cons,forall_nil,and_true,sB,sO,Nat.reduceBEq,Nat.reduceAdd,Nat.reduceLeDiff,tyF, *] at hcE)
 (try simp only [forall_cons,forall_nil,and_true,sB,sO,Nat.reduceBEq,Nat.reduceAdd,Nat.reduceLeDiff,tyF, *] at hrH)
 (try simp only [Hp.next_alloc,Hp.next_set,H0_next,Nat.zero_add,Nat.reduceAdd] at hnH)
 have hB0:(0 == H2.next)=false:=ne_beq (by omega)
 have hC0:(H2.next == 0)=false:=ne_beq (by omega)
 have hB1:(1 == H2.next)=false:=ne_beq (by omega)
 have hC1:(H2.next == 1)=false:=ne_beq (by omega)
 have gh0:=@Sc.c0
 have gh1:=@Sc.c1
 have gh2:=@Sc.whole
 repeat' (first
    | (apply Rx.nl ?_;clear hK K)|apply Rx.o ?_|(apply Rx.call ?_;first|refine Rx.k (kv _ _) ?_|refine Rx.k (ka _ _) ?_)|apply Rx.gu ?_|(apply Rx.gd (fun hg hgp=>?_) (fun hg hgp=>?_) <;> try (cases hg;done))|(apply Rx.cd (fun hb hbp=>?_) (fun hb hbp=>?_) <;> try (cases hb;done))|apply Wp.seq ?_|(apply Wp.ops' fun K hK=>?_)|(apply Rx.dT 4 [(0,6),(2,6),(5,6)] fun K hK=>?_)|(apply Rx.nq ?_;try intro _)|(apply Rx.nt ?_ ?_ <;> clear hK K)|apply WpT.step ?_|apply Wp.block ?_|apply Rx.sk ?_|apply Rx.rt ?_|apply Rx.xt ?_)
 · have hlt : i < x.kids.length := by simpa using hb
   have hgx:x.kids[i]?=some x.kids[i]:=List.getElem?_eq_getElem hlt
   have hm:=exprsSz_mem (List.getElem_mem hlt)
   have hdr:defEs c.vars c.an (x.kids.drop i)=(defE c.vars c.an x.kids[i] && defEs c.vars c.an (x.kids.drop (i + 1))):=by rw [List.drop_eq_getElem_cons hlt];rfl
   have gh0:=@Sc.whole
   repeat' (first
      | (apply Rx.nl ?_;clear hK K)|apply Rx.o ?_|(apply Rx.call ?_;first|refine Rx.k (kr _ (by omega) _) ?_)|apply Rx.gu ?_|(apply Rx.gd (fun hg hgp=>?_) (fun hg hgp=>?_) <;> try (cases hg;done))|(apply Rx.cd (fun hb hbp=>?_) (fun hb hbp=>?_) <;> try (cases hb;done))|apply Wp.seq ?_|(apply Wp.ops' fun K hK=>?_)|(apply Rx.dT 4 [(0,6),(2,6),(5,6)] fun K hK=>?_)|(apply Rx.nq ?_;try intro _)|(apply Rx.nt ?_ ?_ <;> clear hK K)|apply WpT.step ?_|apply Wp.block ?_|apply Rx.sk ?_|apply Rx.rt ?_|apply Rx.xt ?_)
   · exact eK
   all_goals (first|(refine ⟨eI,_,eR,?_⟩;(try simp only [oneOr]);rw [defE_eq,hJ,hdr];(try simp only [Bool.not_eq_true',Bool.not_eq_false'] at *);simp only [*,decide_true,decide_false,Bool.false_or,Bool.or_false,Bool.true_or,Bool.or_true,Bool.false_and,Bool.and_false,Bool.true_and,Bool.and_true,Bool.not_true,Bool.not_false,if_true,if_false,Int.reduceEq];done)|skip)
   refine ⟨by omega,eL,eL,eN,(by simp only [sB,Nat.reduceBEq, *];exact i64_succ (n:=x.kids.length) (by omega) (by omega)),?_⟩
   rw [hJ,hdr];(try simp only [Bool.not_eq_true',Bool.not_eq_false'] at *);simp only [*,decide_true,decide_false,Bool.false_or,Bool.or_false,Bool.true_or,Bool.or_true,Bool.false_and,Bool.and_false,Bool.true_and,Bool.and_true,Bool.not_true,Bool.not_false,if_true,if_false,Int.reduceEq]
 all_goals
   have hie:i=x.kids.length:=by omega
   rw [hie,List.drop_length] at hJ
   have hJ':defEs c.vars c.an x.kids=true:=hJ
   clear hJ
   all_goals (refine ⟨eI,_,eR,?_⟩;try simp only [oneOr])
   rw [defE_eq,hJ',defX];(try simp only [Bool.not_eq_true',Bool.not_eq_false'] at *);simp only [*,decide_true,decide_false,Bool.false_or,Bool.or_false,Bool.true_or,Bool.or_true,Bool.false_and,Bool.and_false,Bool.true_and,Bool.and_true,Bool.not_true,Bool.not_false,if_true,if_false,Int.reduceEq])
def defStK (c:Sc) (x:St):Bool:=
 if x.kind=1 then hasS c.vars x.name
 else if x.kind=6 then hasS c.vars x.name && decide (0 ≤ findF c.p.funcs x.to 0)
 else if x.kind=2 then hasS c.an x.name
 else true
def defStX (c:Sc) (x:St):Bool:=defEs c.vars c.an x.args && defE c.vars c.an x.at_ && defE c.vars c.an x.value && defStK c x
def scS (x:Sc × St):List AV:=[.agg x.1.cells,.agg x.2.cells]
theorem scS_inj (x y:Sc × St) (h:scS x=scS y):x=y:=by
 simp only [scS,List.cons.injEq,AV.agg.injEq,and_true] at h
 exact Prod.ext (Sc.inj h.1) (St.inj h.2)
noncomputable def enDefE:En:=⟨44,true,spP (fun x=>x.1.ok ∧ x.2.sz < 2 ^ 60) scE fun x=>.bool (defE x.1.vars x.1.an x.2)⟩
theorem enDefE_ok (ρ:Nat → Int):EnOk Try.prog ρ enDefE:=spP_ok fun x hx=>defE_con ρ x hx
def psE (x:Pr × List UInt8):List AV:=[.agg x.1.cells,.str x.2]
theorem psE_inj (x y:Pr × List UInt8) (h:psE x=psE y):x=y:=by
 simp only [psE,List.cons.injEq,AV.agg.injEq,AV.str.injEq,and_true] at h
 exact Prod.ext (Pr.inj h.1) h.2
noncomputable def enFind:En:=⟨88,false,spP (fun x=>x.1.funcs.length < 2 ^ 60) psE fun x=>.int .i64 (findF x.1.funcs x.2 0)⟩
theorem enFind_ok (ρ:Nat → Int):EnOk Try.prog ρ enFind:=spP_ok fun x hx=>find_con ρ x.1 x.2 hx
noncomputable def levH:List En:=[enHas,enFind,enDefE]
theorem levH_ok (ρ:Nat → Int):EnsOk Try.prog ρ levH:=⟨enHas_ok ρ,enFind_ok ρ,enDefE_ok ρ,trivial⟩
theorem defSt_con (ρ:Nat → Int) (c:Sc) (x:St) (hc:c.ok) (hx:x.sz < 2 ^ 60):Con Try.prog ρ 89 [.agg c.cells,.agg x.cells] (.bool (defStX c x)):=Con.lev fit (pls:=pls) (levH_ok ρ) (.cons (.agg c.pure) (.cons (.agg x.pure) .nil)) (.bool _) (by
 have hw:Plain (cfgN pls levH) 89:=plainN (fun _=>rfl) rfl
 have kr:∀ y:Ex,y.sz < 2 ^ 60 → ∀ H,WpCall Try.prog (cfgN pls levH) 44 [.agg c.cells,.agg y.cells] H fun v H'=>v=.bool (defE c.vars c.an y) ∧ H'=H:=fun y h2 H=>WpCall.en (enc:=scE) (out:=fun x=>.bool (defE x.1.vars x.1.an x.2)) scE_inj (x:=(c,y)) rfl ⟨hc,h2⟩
 have kv:∀ s H,WpCall Try.prog (cfgN pls levH) 87 [lstS c.vars,.str s] H fun v H'=>v=.bool (hasS c.vars s) ∧ H'=H:=fun s H=>hasO_wp (fun _=>rfl) (some c.vars) hc.1 s H
 have ka:∀ s H,WpCall Try.prog (cfgN pls levH) 87 [orowA c.arrays,.str s] H fun v H'=>v=.bool (hasS c.an s) ∧ H'=H:=fun s H=>hasO_wp (fun _=>rfl) c.arrays hc.2.1 s H
 have hpf:c.p.funcs.length < 2 ^ 60:=by have h:=hc.2.2;have h2:c.p.sz=1 + arrsSz c.p.arrays + fnsSz c.p.funcs:=rfl;have:=fnsSz_len c.p.funcs;omega
 have kf:∀ s H,WpCall Try.prog (cfgN pls levH) 88 [.agg c.p.cells,.str s] H fun v H'=>v=.int .i64 (findF c.p.funcs s 0) ∧ H'=H:=fun s H=>WpCall.en (enc:=psE) (out:=fun x=>.int .i64 (findF x.1.funcs x.2 0)) psE_inj (x:=(c.p,s)) rfl hpf
 have hsz:=x.sz_eq
 have hlen:=exprsSz_len x.args
 refine WpCall.slim (M:=64) (rs:=[.tmp 4]) (hw.call _) hw.ice hw.froz Try.func89 rfl rfl code89.2 rfl ?_;dsimp only [code89,envOf,Nat.reduceAdd]
 repeat' (first
    | (apply Rx.nl ?_;clear hK K)|apply Rx.o ?_|(apply Rx.gd (fun hg hgp=>?_) (fun hg hgp=>?_) <;> try (cases hg;done))|(apply Rx.cd (fun hb hbp=>?_) (fun hb hbp=>?_) <;> try (cases hb;done))|apply Wp.seq ?_|(apply Wp.ops' fun K hK=>?_)|(apply Rx.dT 4 [(0,6),(2,6),(5,6)] fun K hK=>?_)|(apply Rx.nq ?_;try intro _)|(apply Rx.nt ?_ ?_ <;> clear hK K)|apply WpT.step ?_|apply Wp.block ?_|apply Rx.sk ?_|apply Rx.rt ?_|apply Rx.xt ?_)
 refine Wp.forI [2,3] [0,1] 5 x.args.length (fun i E H=>defEs c.vars c.an x.args=defEs c.vars c.an (x.args.drop i)) eE (by simp) ?_
 rintro i E H2 hi hcE hrH hnH hsI hJ
 (try simp only [forall_cons,forall_nil,and_true,sB,sO,Nat.reduceBEq,Nat.reduceAdd,Nat.reduceLeDiff,tyF, *] at hcE)
 (try simp only [forall_cons,forall_nil,and_true,sB,sO,Nat.reduceBEq,Nat.reduceAdd,Nat.reduceLeDiff,tyF, *] at hrH)
 (try simp only [Hp.next_alloc,Hp.next_set,H0_next,Nat.zero_add,Nat.reduceAdd] at hnH)
 have hB0:(0 == H2.next)=false:=ne_beq (by omega)
 have hC0:(H2.next == 0)=false:=ne_beq (by omega)
 have hB1:(1 == H2.next)=false:=ne_beq (by omega)
 have hC1:(H2.next == 1)=false:=ne_beq (by omega)
 have gh0:=@Sc.c0
 have gh1:=@Sc.c1
 have gh2:=@Sc.whole
 have gh3:=@Sc.part
 repeat' (first
    | (apply Rx.nl ?_;clear hK K)|apply Rx.o ?_|(apply Rx.call ?_;first|refine Rx.k (kr _ (by omega) _) ?_|refine Rx.k (kf _ _) ?_|refine Rx.k (kv _ _) ?_|refine Rx.k (ka _ _) ?_)|(apply Rx.gd (fun hg hgp=>?_) (fun hg hgp=>?_) <;> try (cases hg;done))|(apply Rx.cd (fun hb hbp=>?_) (fun hb hbp=>?_) <;> try (cases hb;done))|apply Wp.seq ?_|(apply Wp.ops' fun K hK=>?_)|(apply Rx.dT 4 [(0,6),(2,6),(5,6)] fun K hK=>?_)|(apply Rx.nq ?_;try intro _)|(apply Rx.nt ?_ ?_ <;> clear hK K)|apply WpT.step ?_|apply Wp.block ?_|apply Rx.sk ?_|apply Rx.rt ?_|apply Rx.xt ?_)
 · have hlt : i < x.args.length := by simpa using hb
   have hgx:x.args[i]?=some x.args[i]:=List.getElem?_eq_getElem hlt
   have hm:=exprsSz_mem (List.getElem_mem hlt)
   have hdr:defEs c.vars c.an (x.args.drop i)=(defE c.vars c.an x.args[i] && defEs c.vars c.an (x.args.drop (i + 1))):=by rw [List.drop_eq_getElem_cons hlt];rfl
   have gh0:=@Sc.whole
   repeat' (first
      | (apply Rx.nl ?_;clear hK K)|apply Rx.o ?_|(apply Rx.call ?_;first|refine Rx.k (kr _ (by omega) _) ?_)|(apply Rx.gd (fun hg hgp=>?_) (fun hg hgp=>?_) <;> try (cases hg;done))|(apply Rx.cd (fun hb hbp=>?_) (fun hb hbp=>?_) <;> try (cases hb;done))|apply Wp.seq ?_|(apply Wp.ops' fun K hK=>?_)|(apply Rx.dT 4 [(0,6),(2,6),(5,6)] fun K hK=>?_)|(apply Rx.nq ?_;try intro _)|(apply Rx.nt ?_ ?_ <;> clear hK K)|apply WpT.step ?_|apply Wp.block ?_|apply Rx.sk ?_|apply Rx.rt ?_|apply Rx.xt ?_)
   · exact eK
   all_goals (first|(refine ⟨eI,_,eR,?_⟩;(try simp only [oneOr]);rw [defStX,hJ,hdr];(try simp only [Bool.not_eq_true',Bool.not_eq_false'] at *);simp only [*,decide_true,decide_false,Bool.false_or,Bool.or_false,Bool.true_or,Bool.or_true,Bool.false_and,Bool.and_false,Bool.true_and,Bool.and_true,Bool.not_true,Bool.not_false,if_true,if_false,Int.reduceEq];done)|skip)
   refine ⟨by omega,eL,eL,eN,(by simp only [sB,Nat.reduceBEq, *];exact i64_succ (n:=x.args.length) (by omega) (by omega)),?_⟩
   rw [hJ,hdr];(try simp only [Bool.not_eq_true',Bool.not_eq_false'] at *);simp only [*,decide_true,decide_false,Bool.false_or,Bool.or_false,Bool.true_or,Bool.or_true,Bool.false_and,Bool.and_false,Bool.true_and,Bool.and_true,Bool.not_true,Bool.not_false,if_true,if_false,Int.reduceEq]
 all_goals
   have hie:i=x.args.length:=by omega
   rw [hie,List.drop_length] at hJ
   have hJ':defEs c.vars c.an x.args=true:=hJ
   clear hJ
   all_goals (refine ⟨eI,_,eR,?_⟩;try simp only [oneOr])
   rw [defStX,hJ',defStK];(try simp only [Bool.not_eq_true',Bool.not_eq_false'] at *);simp only [*,decide_true,decide_false,Bool.false_or,Bool.or_false,Bool.true_or,Bool.or_true,Bool.false_and,Bool.and_false,Bool.true_and,Bool.and_true,Bool.not_true,Bool.not_false,if_true,if_false,Int.reduceEq])
end Go.Proofs.Ytackdnelcpbfjaa
namespace Go.Proofs.Ytackdnelcpbfjaa
set_option maxRecDepth 20000
set_option maxRecDepth 20000
open Go Go.Ab
namespace tyR3i
def tyF:=And.intro @tq3 (And.intro @tq9 (And.intro @tq22 (And.intro @tq23 (And.intro @tq25 (And.intro @tq35 (And.intro @tq36 (And.intro @tq37 (And.intro @tq39 (And.intro @tq41 (And.intro @tq46 (And.intro @tq89 (And.intro @Sc.part (@Sc.whole)))))))))))))
end tyR3i
open tyR3i
noncomputable def code43:{ c:SC // slim 59 (Try.f43.body.getD .skip)=c }:=by
 refine ⟨?_,?_⟩
 rotate_left
 · simp only [Try.f43, Option.getD_some, slim, slimR, slimL, slimD, slimG, Nat.blt, Nat.ble]
   rfl
def parN (p:Pr) (s:List UInt8):Nat:=((p.funcs[(findF p.funcs s 0).toNat]?).map fun f=>f.params.length).getD 0
def arK (p:Pr) (x:St):Bool:=!(decide (x.kind=6) && !decide ((x.args.length:Int)=parN p x.to))
section
variable (c:Sc)
mutual
def chk1 (b:Bool):St → Bool
 | .mk k nm to n a v args th el=>(bif b then arK c.p (.mk k nm to n a v args th el) else defStX c (.mk k nm to n a v args th el)) && chkS b th && chkS b el
def chkS (b:Bool):List St → Bool
 | []=>true
 | x :: l=>chk1 b x && chkS b l
end
theorem chk1_eq (b:Bool) (x:St):chk1 c b x=((bif b then arK c.p x else defStX c x) && chkS c b x.thn && chkS c b x.els):=by cases x;rw [chk1];rfl
end
section
variable (p:Pr)
mutual
def cal1:St → Bool
 | .mk k nm to n a v args th el=>(!decide (k=6) || decide (0 ≤ findF p.funcs to 0)) && calS th && calS el
def calS:List St → Bool
 | []=>true
 | x :: l=>cal1 x && calS l
end
theorem cal1_eq (x:St):cal1 p x=((!decide (x.kind=6) || decide (0 ≤ findF p.funcs x.to 0)) && calS p x.thn && calS p x.els):=by cases x;rw [cal1];rfl
end
theorem calS_mem {p:Pr}:∀ {l:List St} {x:St},calS p l=true → x ∈ l → cal1 p x=true
 | [],_,_,h=>by simp at h
 | e :: es, x, hc, h => by
   simp only [calS,Bool.and_eq_true] at hc
   rcases List.mem_cons.1 h with rfl|h
   · exact hc.1
   · exact calS_mem hc.2 h
theorem findF_lt:∀ (l:List Fu) (s:List UInt8) (i:Nat),0 ≤ findF l s i → ∃ k,k < l.length ∧ findF l s i=((i + k:Nat):Int)
 | [],s,i,h=>by simp [findF] at h
 | f :: l, s, i, h => by
   simp only [findF] at h ⊢
   split
   · exact ⟨0,by simp,by simp⟩
   · rename_i hn
     rw [if_neg hn] at h
     obtain ⟨k,h1,h2⟩:=findF_lt l s (i + 1) (by exact h)
     exact ⟨k + 1,by simpa using h1,by rw [show ((i:Int) + 1)=((i + 1:Nat):Int) by omega,h2];omega⟩
theorem parN_at {p:Pr} {s:List UInt8} (h:0 ≤ findF p.funcs s 0):∃ g,p.funcs[(findF p.funcs s 0).toNat]?=some g ∧ parN p s=g.params.length:=by
 obtain ⟨k,h1,h2⟩:=findF_lt p.funcs s 0 h
 have e:(findF p.funcs s 0).toNat=k:=by
   have:findF p.funcs s ((0:Nat):Int)=findF p.funcs s 0:=rfl
   rw [this] at h2
   omega
 refine ⟨p.funcs[k],?_,?_⟩
 · rw [e];exact List.getElem?_eq_getElem h1
 · unfold parN;rw [e,List.getElem?_eq_getElem h1];rfl
theorem Sc.c3 (x:Sc):x.cells[3]?=some (.lst (x.p.funcs.map Fu.cells)):=rfl
noncomputable def enDefS:En:=⟨89,false,spP (fun x=>x.1.ok ∧ x.2.sz < 2 ^ 60) scS fun x=>.bool (defStX x.1 x.2)⟩
theorem enDefS_ok (ρ:Nat → Int):EnOk Try.prog ρ enDefS:=spP_ok fun x hx=>defSt_con ρ x.1 x.2 hx.1 hx.2
structure Cs where
 c:Sc
 l:List St
 b:Bool
def csE (x:Cs):List AV:=[.agg x.c.cells,.lst (x.l.map St.cells),.bool x.b]
theorem csE_inj (x y:Cs) (h:csE x=csE y):x=y:=by
 obtain ⟨a,b,c⟩:=x
 obtain ⟨a',b',c'⟩:=y
 simp only [csE,List.cons.injEq,AV.agg.injEq,AV.lst.injEq,AV.bool.injEq,and_true] at h
 rw [Sc.inj h.1,sts_inj h.2.1,h.2.2]
def Cs.ok (x:Cs):Prop:=x.c.ok ∧ stmtsSz x.l < 2 ^ 60 ∧ (x.b=true → calS x.c.p x.l=true)
noncomputable def levI:List En:=[enFind,enDefS]
theorem levI_ok (ρ:Nat → Int):EnsOk Try.prog ρ levI:=⟨enFind_ok ρ,enDefS_ok ρ,trivial⟩
def csO (x:Cs):AV:=.bool (chkS x.c x.b x.l)
set_option maxRecDepth 100000 in
theorem chk_con (ρ : Nat → Int) : ∀ x : Cs, x.ok → Con Try.prog ρ 43 (csE x) (csO x) :=
  Con.recN fit (pls:=pls) (levI_ok ρ) (fun x=>stmtsSz x.l) (ok:=Cs.ok) (enc:=csE) (out:=csO) (fun x _=>.cons (.agg x.c.pure) (.cons (sts_pure _) (.cons (.bool _) .nil))) (fun x _=>.bool _) (fun x hx=>by
  have hw:=plainR (sz:=fun x:Cs=>stmtsSz x.l) (ok:=Cs.ok) (out:=csO) csE_inj (f:=43) (l:=levI) x
  generalize hl:(⟨43,false,spP (fun y=>Cs.ok y ∧ stmtsSz y.l < stmtsSz x.l) csE csO⟩:En) :: levI=l at hw ⊢
  obtain ⟨c,x,b⟩:=x
  obtain ⟨hc,hx,hcal⟩:=hx
  simp only [] at hc hx hcal
  have kr:∀ y:List St,stmtsSz y < stmtsSz x → (b=true → calS c.p y=true) → ∀ H,WpCall Try.prog (cfgN pls l) 43 [.agg c.cells,.lst (y.map St.cells),.bool b] H fun v H'=>v=.bool (chkS c b y) ∧ H'=H:=fun y h2 h3 H=>by
    subst hl;exact WpCall.en (enc:=csE) (out:=csO) csE_inj (x:=⟨c,y,b⟩) rfl ⟨⟨hc,by simp only [];omega,h3⟩,h2⟩
  have kd:∀ y:St,y.sz < 2 ^ 60 → ∀ H,WpCall Try.prog (cfgN pls l) 89 [.agg c.cells,.agg y.cells] H fun v H'=>v=.bool (defStX c y) ∧ H'=H:=fun y h2 H=>by
    subst hl;exact WpCall.en (enc:=scS) (out:=fun x=>.bool (defStX x.1 x.2)) scS_inj (x:=(c,y)) rfl ⟨hc,h2⟩
  have hpf:c.p.funcs.length < 2 ^ 60:=by have h:=hc.2.2;have h2:c.p.sz=1 + arrsSz c.p.arrays + fnsSz c.p.funcs:=rfl;have:=fnsSz_len c.p.funcs;omega
  have kf:∀ s H,WpCall Try.prog (cfgN pls l) 88 [.agg c.p.cells,.str s] H fun v H'=>v=.int .i64 (findF c.p.funcs s 0) ∧ H'=H:=fun s H=>by
    subst hl;exact WpCall.en (enc:=psE) (out:=fun x=>.int .i64 (findF x.1.funcs x.2 0)) psE_inj (x:=(c.p,s)) rfl hpf
  have hlen:=stmtsSz_len x
  have hplan:∀ id,(cfgN pls l).plan 43 id=.text:=fun _=>by first|rfl|(simp [cfgN,planK,pls])
  change WpCall _ _ _ [.agg c.cells,.lst (x.map St.cells),.bool b] _ _
  refine WpCall.slim (M:=59) (rs:=[.tmp 6]) hw.call hw.ice hw.froz Try.func43 rfl rfl code43.2 rfl ?_;dsimp only [code43,envOf,Nat.reduceAdd]
  repeat' (first
     | (apply Rx.nl ?_;clear hK K)|apply Rx.o ?_|apply Rx.on ?_|(apply Rx.gd (fun hg hgp=>?_) (fun hg hgp=>?_) <;> try (cases hg;done))|(apply Rx.cd (fun hb hbp=>?_) (fun hb hbp=>?_) <;> try (cases hb;done))|apply Wp.seq ?_|(apply Wp.ops' fun K hK=>?_)|(apply Rx.dT 6 [(1,14),(5,14),(5,21),(6,14),(6,21),(9,14),(9,21),(11,14),(13,14),(17,21),(18,21)] fun K hK=>?_)|(apply Rx.nq ?_;try intro _)|(apply Rx.nt ?_ ?_ <;> clear hK K)|apply WpT.step ?_|apply Wp.block ?_|apply Rx.sk ?_|apply Rx.rt ?_|apply Rx.xt ?_)
  refine Wp.forI [1,2,3] [0] 7 x.length (fun i E H=>chkS c b x=chkS c b (x.drop i)) eE (by simp) ?_
  rintro i E H2 hi hcE hrH hnH hsI hJ
  (try simp only [forall_cons,forall_nil,and_true,sB,sO,Nat.reduceBEq,Nat.reduceAdd,Nat.reduceLeDiff,tyF, *] at hcE)
  (try simp only [forall_cons,forall_nil,and_true,sB,sO,Nat.reduceBEq,Nat.reduceAdd,Nat.reduceLeDiff,tyF, *] at hrH)
  (try simp only [Hp.next_alloc,Hp.next_set,H0_next,Nat.zero_add,Nat.reduceAdd] at hnH)
  have hB0:(0 == H2.next)=false:=ne_beq (by omega)
  have hC0:(H2.next == 0)=false:=ne_beq (by omega)
  repeat' (first
     | (apply Rx.nl ?_;clear hK K)|apply Rx.o ?_|apply Rx.on ?_|(apply Rx.gd (fun hg hgp=>?_) (fun hg hgp=>?_) <;> try (cases hg;done))|(apply Rx.cd (fun hb hbp=>?_) (fun hb hbp=>?_) <;> try (cases hb;done))|apply Wp.seq ?_|(apply Wp.ops' fun K hK=>?_)|(apply Rx.dT 6 [(1,14),(5,14),(5,21),(6,14),(6,21),(9,14),(9,21),(11,14),(13,14),(17,21),(18,21)] fun K hK=>?_)|(apply Rx.nq ?_;try intro _)|(apply Rx.nt ?_ ?_ <;> clear hK K)|apply WpT.step ?_|apply Wp.block ?_|apply Rx.sk ?_|apply Rx.rt ?_|apply Rx.xt ?_)
  · have hlt : i < x.length := by simpa using hb
    have hgx:x[i]?=some x[i]:=List.getElem?_eq_getElem hlt
    have hsm:=stmtsSz_mem (List.getElem_mem hlt)
    have hsz:=x[i].sz_eq
    have hcl:b=true → cal1 c.p x[i]=true:=fun h=>calS_mem (hcal h) (List.getElem_mem hlt)
    have hdr:chkS c b (x.drop i)=(chk1 c b x[i] && chkS c b (x.drop (i + 1))):=by rw [List.drop_eq_getElem_cons hlt];rfl
    rw [chk1_eq] at hdr
    cases b with
    | false =>
      rw [cond_false] at hdr
      repeat' (first
         | (apply Rx.nl ?_;clear hK K)|apply Rx.o ?_|apply Rx.on ?_|(apply Rx.call ?_;first|refine Rx.k (kd _ (by omega) _) ?_|refine Rx.k (kr _ (by omega) (fun h=>by simp at h) _) ?_)|(apply Rx.gd (fun hg hgp=>?_) (fun hg hgp=>?_) <;> try (cases hg;done))|(apply Rx.cd (fun hb hbp=>?_) (fun hb hbp=>?_) <;> try (cases hb;done))|apply Wp.seq ?_|(apply Wp.ops' fun K hK=>?_)|(apply Rx.dT 6 [(1,14),(5,14),(5,21),(6,14),(6,21),(9,14),(9,21),(11,14),(13,14),(17,21),(18,21)] fun K hK=>?_)|(apply Rx.nq ?_;try intro _)|(apply Rx.nt ?_ ?_ <;> clear hK K)|apply WpT.step ?_|apply Wp.block ?_|apply Rx.sk ?_|apply Rx.rt ?_|apply Rx.xt ?_)
      all_goals (first|(refine ⟨eI,_,eR,?_⟩;(try simp only [oneOr]);change _=AV.bool (chkS c _ x);rw [hJ,hdr];(try simp only [Bool.not_eq_true',Bool.not_eq_false'] at *);simp only [*,decide_true,decide_false,Bool.false_or,Bool.or_false,Bool.true_or,Bool.or_true,Bool.false_and,Bool.and_false,Bool.true_and,Bool.and_true,Bool.not_true,Bool.not_false,if_true,if_false,Int.reduceEq];done)|skip)
      refine ⟨by omega,eL,eL,eN,(by simp only [sB,Nat.reduceBEq, *];exact i64_succ (n:=x.length) (by omega) (by omega)),?_⟩
      rw [hJ,hdr];(try simp only [Bool.not_eq_true',Bool.not_eq_false'] at *);simp only [*,decide_true,decide_false,Bool.false_or,Bool.or_false,Bool.true_or,Bool.or_true,Bool.false_and,Bool.and_false,Bool.true_and,Bool.and_true,Bool.not_true,Bool.not_false,if_true,if_false,Int.reduceEq]
    | true =>
      rw [cond_true] at hdr
      have hcl':=hcl rfl
      rw [cal1_eq,Bool.and_eq_true,Bool.and_eq_true] at hcl'
      obtain ⟨⟨hk6,hct⟩,hce⟩:=hcl'
      by_cases h6:x[i].kind=6
      · have hf0 : 0 ≤ findF c.p.funcs x[i].to 0 := by simpa [h6] using hk6
        obtain ⟨g,hg6,hpn⟩:=parN_at hf0
        have gh0:=@Sc.c3
        repeat' (first
           | (apply Rx.nl ?_;clear hK K)|apply Ry.o ?_|apply Ry.on ?_|(apply Ry.call ?_;first|refine Rx.k (kf _ _) ?_|refine Rx.k (kr _ (by omega) (fun _=>hct) _) ?_|refine Rx.k (kr _ (by omega) (fun _=>hce) _) ?_)|(apply Ry.gd (fun hg hgp=>?_) (fun hg hgp=>?_) <;> try (cases hg;done))|(apply Ry.cd (fun hb hbp=>?_) (fun hb hbp=>?_) <;> try (cases hb;done))|apply Wp.seq ?_|(apply Wp.ops' fun K hK=>?_)|(apply Rx.dT 6 [(1,14),(5,14),(5,21),(6,14),(6,21),(9,14),(9,21),(11,14),(13,14),(17,21),(18,21)] fun K hK=>?_)|(apply Rx.nq ?_;try intro _)|(apply Rx.nt ?_ ?_ <;> clear hK K)|apply WpT.step ?_|(apply Ry.gt (fun hg hgp=>?_) (fun hg hgp=>?_) <;> try (cases hg;done))|apply Wp.block ?_|apply Rx.sk ?_|apply Rx.rt ?_|apply Rx.xt ?_)
        · exact eK
        all_goals (first|(refine ⟨eI,_,eR,?_⟩;(try simp only [oneOr]);change _=AV.bool (chkS c _ x);rw [hJ,hdr,arK,hpn];(try simp only [Bool.not_eq_true',Bool.not_eq_false'] at *);simp only [*,decide_true,decide_false,Bool.false_or,Bool.or_false,Bool.true_or,Bool.or_true,Bool.false_and,Bool.and_false,Bool.true_and,Bool.and_true,Bool.not_true,Bool.not_false,if_true,if_false,Int.reduceEq];done)|skip)
        refine ⟨by omega,eL,eL,eN,(by simp only [sB,Nat.reduceBEq, *];exact i64_succ (n:=x.length) (by omega) (by omega)),?_⟩
        rw [hJ,hdr,arK,hpn];(try simp only [Bool.not_eq_true',Bool.not_eq_false'] at *);simp only [*,decide_true,decide_false,Bool.false_or,Bool.or_false,Bool.true_or,Bool.or_true,Bool.false_and,Bool.and_false,Bool.true_and,Bool.and_true,Bool.not_true,Bool.not_false,if_true,if_false,Int.reduceEq]
      · have gh0 := @Sc.c3
        repeat' (first
           | (apply Rx.nl ?_;clear hK K)|apply Ry.o ?_|apply Ry.on ?_|(apply Ry.call ?_;first|refine Rx.k (kr _ (by omega) (fun _=>hct) _) ?_|refine Rx.k (kr _ (by omega) (fun _=>hce) _) ?_)|(apply Ry.gd (fun hg hgp=>?_) (fun hg hgp=>?_) <;> try (cases hg;done))|(apply Ry.cd (fun hb hbp=>?_) (fun hb hbp=>?_) <;> try (cases hb;done))|apply Wp.seq ?_|(apply Wp.ops' fun K hK=>?_)|(apply Rx.dT 6 [(1,14),(5,14),(5,21),(6,14),(6,21),(9,14),(9,21),(11,14),(13,14),(17,21),(18,21)] fun K hK=>?_)|(apply Rx.nq ?_;try intro _)|(apply Rx.nt ?_ ?_ <;> clear hK K)|apply WpT.step ?_|(apply Ry.gt (fun hg hgp=>?_) (fun hg hgp=>?_) <;> try (cases hg;done))|apply Wp.block ?_|apply Rx.sk ?_|apply Rx.rt ?_|apply Rx.xt ?_)
        · exact eK
        all_goals (first|(refine ⟨eI,_,eR,?_⟩;(try simp only [oneOr]);change _=AV.bool (chkS c _ x);rw [hJ,hdr,arK];(try simp only [Bool.not_eq_true',Bool.not_eq_false'] at *);simp only [*,decide_true,decide_false,Bool.false_or,Bool.or_false,Bool.true_or,Bool.or_true,Bool.false_and,Bool.and_false,Bool.true_and,Bool.and_true,Bool.not_true,Bool.not_false,if_true,if_false,Int.reduceEq];done)|skip)
        refine ⟨by omega,eL,eL,eN,(by simp only [sB,Nat.reduceBEq, *];exact i64_succ (n:=x.length) (by omega) (by omega)),?_⟩
        rw [hJ,hdr,arK];(try simp only [Bool.not_eq_true',Bool.not_eq_false'] at *);simp only [*,decide_true,decide_false,Bool.false_or,Bool.or_false,Bool.true_or,Bool.or_true,Bool.false_and,Bool.and_false,Bool.true_and,Bool.and_true,Bool.not_true,Bool.not_false,if_true,if_false,Int.reduceEq]
  · all_goals (refine ⟨eI, _, eR, ?_⟩; try simp only [oneOr])
    rw [csO,hJ,show i=x.length by simp at hb;omega];simp [chkS])
end Go.Proofs.Ytackdnelcpbfjaa
namespace Go.Proofs.Ytackdnelcpbfjaa
set_option maxRecDepth 20000
set_option maxRecDepth 20000
open Go Go.Ab
namespace tyR3j
def tyF:=And.intro @tq2 (And.intro @tq3 (And.intro @tq9 (And.intro @tq22 (And.intro @tq23 (And.intro @tq25 (And.intro @tq35 (And.intro @tq36 (And.intro @tq37 (And.intro @tq39 (And.intro @tq41 (And.intro @tq44 (And.intro @tq46 (And.intro @tq89 (And.intro @bsS0 (@bsS1)))))))))))))))
end tyR3j
open tyR3j
noncomputable def code14:{ c:SC // slim 86 (Try.f14.body.getD .skip)=c }:=by
 refine ⟨?_,?_⟩
 rotate_left
 · simp only [Try.f14, Option.getD_some, slim, slimR, slimL, slimD, slimG, Nat.blt, Nat.ble]
   rfl
theorem defStX_an {c c':Sc} (h1:c.vars=c'.vars) (h2:c.an=c'.an) (h3:c.p=c'.p) (x:St):defStX c x=defStX c' x:=by
 unfold defStX defStK
 rw [h1,h2,h3]
mutual
theorem chk1_an {c c':Sc} (h1:c.vars=c'.vars) (h2:c.an=c'.an) (h3:c.p=c'.p) (b:Bool):∀ x:St,chk1 c b x=chk1 c' b x
 | .mk k nm to n a v args th el => by
   simp only [chk1,chkS_an h1 h2 h3 b th,chkS_an h1 h2 h3 b el,defStX_an h1 h2 h3,h3]
theorem chkS_an {c c':Sc} (h1:c.vars=c'.vars) (h2:c.an=c'.an) (h3:c.p=c'.p) (b:Bool):∀ l:List St,chkS c b l=chkS c' b l
 | []=>rfl
 | x :: l=>by simp only [chkS,chk1_an h1 h2 h3 b x,chkS_an h1 h2 h3 b l]
end
def orow (v:AV) (l:List (List UInt8)):Option (List (List UInt8)):=match v with
 | .nilS=>none
 | _=>some l
theorem orow_get {H:Hp} {v:AV} {l:List (List UInt8)} {lo:Nat} (h:StrN H v l lo):(orow v l).getD []=l:=by
 rcases h with ⟨rfl,rfl⟩|⟨r,imm,rfl,_⟩ <;> rfl
theorem StrN.iceO {H:Hp} {v:AV} {l:List (List UInt8)} {lo:Nat} (h:StrN H v l lo) (n:Nat) :
   ∃ H',iceH (n + 2) v H=some (orowA (orow v l),H') ∧ StrN H' v l lo ∧ H'.next=H.next ∧ ∀ k,¬ ownS v k → H'.get k=H.get k:=by
 rcases h with ⟨rfl,rfl⟩|h
 · exact ⟨H,rfl,.inl ⟨rfl,rfl⟩,rfl,fun _ _=>rfl⟩
 · obtain ⟨H', h1, h2, h3, _, h5⟩ := h.ice n
   refine ⟨H',?_,.inr h2,h3,h5⟩
   rw [h1]
   obtain ⟨r,imm,rfl,_⟩:=h
   rfl
theorem scope_ice {H:Hp} {w a:AV} {vs an:List (List UInt8)} {lo lo':Nat} (hw:StrB H w vs lo) (ha:StrN H a an lo') (hd:∀ k,ownS a k → ¬ ownS w k) (p:Pr) (n:Nat) :
   ∃ H',iceH (n + 3) (.agg [w,a,.lst (p.arrays.map Ar.cells),.lst (p.funcs.map Fu.cells)]) H=some (.agg (Sc.cells ⟨vs,orow a an,p⟩),H') ∧ StrB H' w vs lo ∧ StrN H' a an lo' ∧ H'.next=H.next ∧ ∀ k,¬ ownS w k → ¬ ownS a k → H'.get k=H.get k:=by
 obtain ⟨H1,h1,h2,h3,_,h5⟩:=hw.ice n
 have ha1:StrN H1 a an lo':=ha.keep (by omega) fun k hk=>h5 k (hd k hk)
 obtain ⟨H2,g1,g2,g3,g5⟩:=ha1.iceO n
 refine ⟨H2,?_,h2.keep (by omega) fun k hk=>g5 k fun h=>hd k h hk,g2,by omega,fun k h h'=>by rw [g5 k h',h5 k h]⟩
 have e:iceH (n + 3) (.agg [w,a,.lst (p.arrays.map Ar.cells),.lst (p.funcs.map Fu.cells)]) H=match iceHL (iceH (n + 2)) [w,a,.lst (p.arrays.map Ar.cells),.lst (p.funcs.map Fu.cells)] H with
   | some (ds,H)=>some (.agg ds,H)
   | none=>none:=rfl
 rw [e]
 simp only [iceHL,h1,g1]
 rfl
noncomputable def enChk:En:=⟨43,true,spP Cs.ok csE csO⟩
theorem enChk_ok (ρ:Nat → Int):EnOk Try.prog ρ enChk:=spP_ok fun x hx=>chk_con ρ x hx
noncomputable def enExc:En:=⟨40,false,spP (fun p=>p.sz < 2 ^ 36) prE fun p=>.bool (exB p)⟩
theorem enExc_ok (ρ:Nat → Int):EnOk Try.prog ρ enExc:=spP_ok fun p hp=>exceeds_con ρ p (by omega)
noncomputable def enWf:En:=⟨41,false,spP (fun p=>p.sz < 2 ^ 36) prE fun p=>.bool (wfP p)⟩
theorem enWf_ok (ρ:Nat → Int):EnOk Try.prog ρ enWf:=spP_ok fun p hp=>wf_con ρ p hp
noncomputable def enDup:En:=⟨42,false,spP (fun p=>p.sz < 2 ^ 36) prE fun p=>.bool (dupP p)⟩
theorem enDup_ok (ρ:Nat → Int):EnOk Try.prog ρ enDup:=spP_ok fun p hp=>dup_con ρ p hp
noncomputable def levJ:List En:=[enExc,enWf,enDup,enChk,enDefE]
theorem levJ_ok (ρ:Nat → Int):EnsOk Try.prog ρ levJ:=⟨enExc_ok ρ,enWf_ok ρ,enDup_ok ρ,enChk_ok ρ,enDefE_ok ρ,trivial⟩
def scOf (p:Pr) (f:Fu):Sc:=⟨f.params ++ f.locals,some (arNames p),p⟩
def undFn (p:Pr) (f:Fu):Bool:=!(chkS (scOf p f) false f.body && defE (scOf p f).vars (scOf p f).an f.value)
def badFn (p:Pr) (f:Fu):Bool:=!chkS (scOf p f) true f.body
def refCheck (p:Pr):Int:=if exB p=true then 6 else if wfP p=false then 2 else if dupP p=true then 4 else if p.funcs.any (undFn p)=true then 3 else if p.funcs.any (badFn p)=true then 5 else 0
theorem chkM_wp {H:Hp} {w a:AV} {p:Pr} {f:Fu} {lo lo':Nat} (hw:StrB H w (f.params ++ f.locals) lo) (ha:StrN H a (arNames p) lo') (hd:∀ k,ownS a k → ¬ ownS w k) (hz:p.sz < 2 ^ 60) (hf:f.sz < 2 ^ 60) (b:Bool) (hb:b=true → calS p f.body=true) :
   WpCall Try.prog (cfgN pls levJ) 43 [.agg [w,a,.lst (p.arrays.map Ar.cells),.lst (p.funcs.map Fu.cells)],.lst (f.body.map St.cells),.bool b] H fun v H'=>v=.bool (chkS (scOf p f) b f.body) ∧ StrB H' w (f.params ++ f.locals) lo ∧ StrN H' a (arNames p) lo' ∧ H.next ≤ H'.next ∧ ∀ k,¬ ownS w k → ¬ ownS a k → H'.get k=H.get k:=by
 obtain ⟨H',h1,h2,h3,h4,h5⟩:=scope_ice hw ha hd p 97
 have hsz:f.sz=1 + f.name.length + strsSz f.params + strsSz f.locals + stmtsSz f.body + f.value.sz:=rfl
 have hpl:=strsSz_len f.params
 have hll:=strsSz_len f.locals
 have hpz:p.sz=1 + arrsSz p.arrays + fnsSz p.funcs:=rfl
 have hla:=arrsSz_len p.arrays
 have hal:(arNames p).length=p.arrays.length:=by simp [arNames]
 have hok:Cs.ok ⟨⟨f.params ++ f.locals,orow a (arNames p),p⟩,f.body,b⟩:=⟨⟨by simp;omega,by show ((orow a (arNames p)).getD []).length < _;rw [orow_get ha];omega,hz⟩,by simp only [];omega,hb⟩
 refine WpCall.mono ?_ (WpCall.enI (enc:=csE) (out:=csO) csE_inj (x:=⟨⟨f.params ++ f.locals,orow a (arNames p),p⟩,f.body,b⟩) (fun _=>rfl) rfl hok (H':=H') (fun y _ e=>?_) ?_)
 · rintro v _ ⟨rfl, rfl⟩
   refine ⟨?_,h2,h3,by omega,h5⟩
   show AV.bool (chkS ⟨f.params ++ f.locals,orow a (arNames p),p⟩ b f.body)=_
   rw [chkS_an (c:=⟨f.params ++ f.locals,orow a (arNames p),p⟩) (c':=scOf p f) rfl (orow_get ha) rfl]
 · obtain ⟨r, imm, rfl, _⟩ := hw
   simp [csE,Sc.cells] at e
 · show iceHL (iceH 100) [.agg [w, a, .lst (p.arrays.map Ar.cells), .lst (p.funcs.map Fu.cells)], .lst (f.body.map St.cells), .bool b] H = some (csE ⟨⟨f.params ++ f.locals, orow a (arNames p), p⟩, f.body, b⟩, H')
   simp only [iceHL,h1]
   rfl
theorem defM_wp {H:Hp} {w a:AV} {p:Pr} {f:Fu} {lo lo':Nat} (hw:StrB H w (f.params ++ f.locals) lo) (ha:StrN H a (arNames p) lo') (hd:∀ k,ownS a k → ¬ ownS w k) (hz:p.sz < 2 ^ 60) (hf:f.sz < 2 ^ 60) :
   WpCall Try.prog (cfgN pls levJ) 44 [.agg [w,a,.lst (p.arrays.map Ar.cells),.lst (p.funcs.map Fu.cells)],.agg f.value.cells] H fun v H'=>v=.bool (defE (scOf p f).vars (scOf p f).an f.value) ∧ StrB H' w (f.params ++ f.locals) lo ∧ StrN H' a (arNames p) lo' ∧ H.next ≤ H'.next ∧ ∀ k,¬ ownS w k → ¬ ownS a k → H'.get k=H.get k:=by
 obtain ⟨H',h1,h2,h3,h4,h5⟩:=scope_ice hw ha hd p 97
 have hsz:f.sz=1 + f.name.length + strsSz f.params + strsSz f.locals + stmtsSz f.body + f.value.sz:=rfl
 have hpl:=strsSz_len f.params
 have hll:=strsSz_len f.locals
 have hpz:p.sz=1 + arrsSz p.arrays + fnsSz p.funcs:=rfl
 have hla:=arrsSz_len p.arrays
 have hal:(arNames p).length=p.arrays.length:=by simp [arNames]
 have hok:Sc.ok ⟨f.params ++ f.locals,orow a (arNames p),p⟩ ∧ f.value.sz < 2 ^ 60:=⟨⟨by simp;omega,by show ((orow a (arNames p)).getD []).length < _;rw [orow_get ha];omega,hz⟩,by omega⟩
 refine WpCall.mono ?_ (WpCall.enI (enc:=scE) (ok:=fun x=>x.1.ok ∧ x.2.sz < 2 ^ 60) (out:=fun x=>.bool (defE x.1.vars x.1.an x.2)) scE_inj (x:=(⟨f.params ++ f.locals,orow a (arNames p),p⟩,f.value)) (fun _=>rfl) rfl hok (H':=H') (fun y _ e=>?_) ?_)
 · rintro v _ ⟨rfl, rfl⟩
   refine ⟨?_,h2,h3,by omega,h5⟩
   show AV.bool (defE (f.params ++ f.locals) ((orow a (arNames p)).getD []) f.value)=_
   rw [orow_get ha];rfl
 · obtain ⟨r, imm, rfl, _⟩ := hw
   simp [scE,Sc.cells] at e
 · show iceHL (iceH 100) [.agg [w, a, .lst (p.arrays.map Ar.cells), .lst (p.funcs.map Fu.cells)], .agg f.value.cells] H = some (scE (⟨f.params ++ f.locals, orow a (arNames p), p⟩, f.value), H')
   have he:iceH 100 (.agg f.value.cells) H'=some (.agg f.value.cells,H'):=by
     rw [Ex.cells_eq];rfl
   simp only [iceHL,h1,he]
   rfl
theorem bldSc (p:Pr) (r n:Nat):buildA Try.prog 89 [(0,.sl r 0 n 1),(2,.agg p.cells)]=some (.agg [.sl r 0 n 1,.nilS,.lst (p.arrays.map Ar.cells),.lst (p.funcs.map Fu.cells)]):=by kernel_rfl
theorem aggQ4 (a b c d:AV):aggA 4 [a,b,c,d]=some (.agg [a,b,c,d]):=rfl
mutual
theorem chk1_cal {c:Sc}:∀ x:St,chk1 c false x=true → cal1 c.p x=true
 | .mk k nm to n a v args th el, h => by
   rw [chk1_eq,cond_false,Bool.and_eq_true,Bool.and_eq_true] at h
   obtain ⟨⟨h1,h2⟩,h3⟩:=h
   rw [cal1_eq,chkS_cal _ h2,chkS_cal _ h3]
   simp only [defStX,Bool.and_eq_true] at h1
   have h4:=h1.2
   unfold defStK at h4
   by_cases h6:(St.mk k nm to n a v args th el).kind=6
   · rw [if_neg (by rw [h6]; decide), if_pos h6, Bool.and_eq_true] at h4
     simp only [h4.2,Bool.or_true,Bool.and_true]
   · simp only [h6,decide_false,Bool.not_false,Bool.true_or,Bool.and_true]
theorem chkS_cal {c:Sc}:∀ l:List St,chkS c false l=true → calS c.p l=true
 | [],_=>rfl
 | x :: l, h => by
   simp only [chkS,Bool.and_eq_true] at h
   simp only [calS,chk1_cal x h.1,chkS_cal l h.2,Bool.and_true]
end
set_option maxRecDepth 100000 in
theorem check_con (ρ : Nat → Int) (p : Pr) (hz : p.sz < 2 ^ 36) : Con Try.prog ρ 14 [.agg p.cells] (.int .i64 (refCheck p)) := Con.lev fit (pls := pls) (levJ_ok ρ) (.cons (.agg p.pure) .nil) (.int _ _) (by
  have hw:Plain (cfgN pls levJ) 14:=plainN (fun _=>rfl) rfl
  have hkeep:(cfgN pls levJ).keep 14=false:=rfl
  have ke:∀ H,WpCall Try.prog (cfgN pls levJ) 40 [.agg p.cells] H fun v H'=>v=.bool (exB p) ∧ H'=H:=fun H=>WpCall.en (enc:=prE) (out:=fun p=>.bool (exB p)) prE_inj (x:=p) rfl hz
  have kw:∀ H,WpCall Try.prog (cfgN pls levJ) 41 [.agg p.cells] H fun v H'=>v=.bool (wfP p) ∧ H'=H:=fun H=>WpCall.en (enc:=prE) (out:=fun p=>.bool (wfP p)) prE_inj (x:=p) rfl hz
  have kd:∀ H,WpCall Try.prog (cfgN pls levJ) 42 [.agg p.cells] H fun v H'=>v=.bool (dupP p) ∧ H'=H:=fun H=>WpCall.en (enc:=prE) (out:=fun p=>.bool (dupP p)) prE_inj (x:=p) rfl hz
  have hpz:p.sz=1 + arrsSz p.arrays + fnsSz p.funcs:=rfl
  have hla:=arrsSz_len p.arrays
  have hlf:=fnsSz_len p.funcs
  have hal:(arNames p).length=p.arrays.length:=by simp [arNames]
  refine WpCall.slim (M:=86) (rs:=[.tmp 2]) (hw.call _) hw.ice hw.froz Try.func14 rfl rfl code14.2 rfl ?_;dsimp only [code14,envOf,Nat.reduceAdd]
  repeat' (first
     | (apply Rx.nl ?_;clear hK K)|apply Rx.o ?_|apply Rx.on ?_|(apply Rx.call ?_;first|refine Rx.k (ke _) ?_|refine Rx.k (kw _) ?_|refine Rx.k (kd _) ?_)|apply Rx.gu ?_|(apply Rx.gd (fun hg hgp=>?_) (fun hg hgp=>?_) <;> try (cases hg;done))|(apply Rx.cd (fun hb hbp=>?_) (fun hb hbp=>?_) <;> try (cases hb;done))|apply Wp.seq ?_|(apply Wp.ops' fun K hK=>?_)|(apply Rx.dT 18 [(1,9),(3,9),(7,9),(8,9)] fun K hK=>?_)|(apply Rx.nq ?_;try intro _)|(apply Rx.nt ?_ ?_ <;> clear hK K)|apply WpT.step ?_|apply WpT.step0 rfl ?_|apply Wp.block ?_|apply Rx.sk ?_|apply Rx.rt ?_|apply Rx.xt ?_)
  · all_goals (refine ⟨eI, _, eR, ?_⟩; try simp only [oneOr])
    simp_all [refCheck]
  · all_goals (refine ⟨eI, _, eR, ?_⟩; try simp only [oneOr])
    simp_all [refCheck]
  · all_goals (refine ⟨eI, _, eR, ?_⟩; try simp only [oneOr])
    simp_all [refCheck]
  · refine Wp.forI [1] [0] 3 2 (fun r E H => (1 ≤ r → p.funcs.any (undFn p) = false) ∧ (2 ≤ r → p.funcs.any (badFn p) = false)) eE ⟨by omega, by omega⟩ ?_
    rintro r E H2 hr2 hcE hrH hnH hsI ⟨hJ1,hJ2⟩
    (try simp only [forall_cons,forall_nil,and_true,sB,sO,Nat.reduceBEq,Nat.reduceAdd,Nat.reduceLeDiff,tyF, *] at hcE)
    (try simp only [forall_cons,forall_nil,and_true,sB,sO,Nat.reduceBEq,Nat.reduceAdd,Nat.reduceLeDiff,tyF, *] at hrH)
    (try simp only [Hp.next_alloc,Hp.next_set,H0_next,Nat.zero_add,Nat.reduceAdd] at hnH)
    have hB0:(0 == H2.next)=false:=ne_beq (by omega)
    have hC0:(H2.next == 0)=false:=ne_beq (by omega)
    repeat' (first
       | (apply Rx.nl ?_;clear hK K)|apply Rx.o ?_|apply Rx.on ?_|apply Rx.gu ?_|(apply Rx.gd (fun hg hgp=>?_) (fun hg hgp=>?_) <;> try (cases hg;done))|(apply Rx.cd (fun hb hbp=>?_) (fun hb hbp=>?_) <;> try (cases hb;done))|apply Wp.seq ?_|(apply Wp.ops' fun K hK=>?_)|(apply Rx.dT 18 [(1,9),(3,9),(7,9),(8,9)] fun K hK=>?_)|(apply Rx.nq ?_;try intro _)|(apply Rx.nt ?_ ?_ <;> clear hK K)|apply WpT.step ?_|apply WpT.step0 rfl ?_|apply Wp.block ?_|apply Rx.sk ?_|apply Rx.rt ?_|apply Rx.xt ?_)
    · have hrlt : r < 2 := by omega
      refine Wp.forI [1,3] [0] 4 p.funcs.length (fun i E H=>(r=0 → p.funcs.any (undFn p)=(p.funcs.drop i).any (undFn p)) ∧ (r=1 → p.funcs.any (badFn p)=(p.funcs.drop i).any (badFn p))) eE ⟨by simp,by simp⟩ ?_
      rintro i E3 H3 hi hcE hrH hnH hsI ⟨hU,hB⟩
      (try simp only [forall_cons,forall_nil,and_true,sB,sO,Nat.reduceBEq,Nat.reduceAdd,Nat.reduceLeDiff,tyF, *] at hcE)
      (try simp only [forall_cons,forall_nil,and_true,sB,sO,Nat.reduceBEq,Nat.reduceAdd,Nat.reduceLeDiff,tyF, *] at hrH)
      (try simp only [Hp.next_alloc,Hp.next_set,H0_next,Nat.zero_add,Nat.reduceAdd] at hnH)
      have hB0:(0 == H3.next)=false:=ne_beq (by omega)
      have hC0:(H3.next == 0)=false:=ne_beq (by omega)
      repeat' (first
         | (apply Rx.nl ?_;clear hK K)|apply Rx.o ?_|apply Rx.on ?_|apply Rx.gu ?_|(apply Rx.gd (fun hg hgp=>?_) (fun hg hgp=>?_) <;> try (cases hg;done))|(apply Rx.cd (fun hb hbp=>?_) (fun hb hbp=>?_) <;> try (cases hb;done))|apply Wp.seq ?_|(apply Wp.ops' fun K hK=>?_)|(apply Rx.dT 18 [(1,9),(3,9),(7,9),(8,9)] fun K hK=>?_)|(apply Rx.nq ?_;try intro _)|(apply Rx.nt ?_ ?_ <;> clear hK K)|apply WpT.step ?_|apply WpT.step0 rfl ?_|apply Wp.block ?_|apply Rx.sk ?_|apply Rx.rt ?_|apply Rx.xt ?_)
      · have hlt : i < p.funcs.length := by simpa using hb
        have hgx:p.funcs[i]?=some p.funcs[i]:=List.getElem?_eq_getElem hlt
        have hsm:=fnsSz_mem (List.getElem_mem hlt)
        have hsz:p.funcs[i].sz=1 + p.funcs[i].name.length + strsSz p.funcs[i].params + strsSz p.funcs[i].locals + stmtsSz p.funcs[i].body + p.funcs[i].value.sz:=rfl
        have hpl:=strsSz_len p.funcs[i].params
        have hll:=strsSz_len p.funcs[i].locals
        repeat' (first
           | (apply Rx.nl ?_;clear hK K)|apply Rx.o ?_|apply Rx.on ?_|apply Rx.gu ?_|(apply Rx.gd (fun hg hgp=>?_) (fun hg hgp=>?_) <;> try (cases hg;done))|(apply Rx.cd (fun hb hbp=>?_) (fun hb hbp=>?_) <;> try (cases hb;done))|apply Wp.seq ?_|(apply Wp.ops' fun K hK=>?_)|(apply Rx.dT 18 [(1,9),(3,9),(7,9),(8,9)] fun K hK=>?_)|(apply Rx.nq ?_;try intro _)|(apply Rx.nt ?_ ?_ <;> clear hK K)|apply WpT.step ?_|apply WpT.step0 rfl ?_|apply Wp.block ?_|apply Rx.sk ?_|apply Rx.rt ?_|apply Rx.xt ?_)
        generalize hHb:Hp.set (Hp.alloc H3 _) H3.next _=Hb
        have nb:H3.next + 1 ≤ Hb.next:=by rw [← hHb];exact Nat.le_refl _
        have gb:Hb.get H3.next=some (.cells p.funcs[i].cells 0 true):=by rw [← hHb,Hp.get_set,if_pos rfl]
        have gb0:Hb.get 0=some (.cells p.cells 0 true):=by rw [← hHb,Hp.get_set,if_neg (by omega),Hp.get_alloc,if_neg (by omega)];exact hrH
        clear hHb
        refine Wp.drawP (id:=14) (ord:=[0,1,2,4,5,7,9,3,6,8,10]) (need:=[(0,7),(2,7),(4,7),(4,8),(5,7),(5,8),(5,10),(6,7),(6,8),(6,10)]) (by kernel_rfl) (by kernel_rfl) (by kernel_rfl) (by simp only [permD,permO,List.filterMap_cons,List.filterMap_nil,List.getElem?_cons_succ,List.getElem?_cons_zero,slimL,slimD,slimG,Nat.blt,Nat.ble];rfl) (by kernel_rfl) fun K hK=>?_
        have ebB:(H3.next == Hb.next)=false:=by simp;omega
        have eb0:(0 == Hb.next)=false:=by simp;omega
        have eb1:(0 == Hb.next + 1)=false:=by simp
        have eb2:(H3.next == Hb.next + 1)=false:=by simp;omega
        repeat' (first
           | (apply Rx.nl ?_;clear hK K)|apply Rx.o ?_|apply Rx.on ?_|apply Rx.gu ?_|(apply Rx.gd (fun hg hgp=>?_) (fun hg hgp=>?_) <;> try (cases hg;done))|(apply Rx.cd (fun hb hbp=>?_) (fun hb hbp=>?_) <;> try (cases hb;done))|apply Wp.seq ?_|(apply Wp.ops' fun K hK=>?_)|(apply Rx.dT 18 [(1,9),(3,9),(7,9),(8,9)] fun K hK=>?_)|(apply Rx.nq ?_;try intro _)|(apply Rx.nt ?_ ?_ <;> clear hK K)|apply WpT.step ?_|apply WpT.step0 rfl ?_|apply Wp.block ?_|apply Rx.sk ?_|apply Rx.rt ?_|apply Rx.xt ?_)
        generalize hHd:(Hb.alloc (.cells [] 0 true)).alloc (.cells [.nilS,.nilS,.nilS,.nilS] 0 true)=Hd
        have nd:Hb.next + 2 ≤ Hd.next:=by rw [← hHd];exact Nat.le_refl _
        have ndx:Hd.next ≤ Hb.next + 2:=by rw [← hHd];exact Nat.le_refl _
        have oldd:∀ k,k < Hb.next → Hd.get k=Hb.get k:=fun k hk=>by rw [← hHd,Hp.get_alloc,if_neg (by simp only [Hp.next_alloc];omega),Hp.get_alloc,if_neg (by omega)]
        have gd1:Hd.get Hb.next=some (.cells [] 0 true):=by rw [← hHd,Hp.get_alloc,if_neg (by simp only [Hp.next_alloc];omega),Hp.get_alloc,if_pos rfl]
        have gds:Hd.get (Hb.next + 1)=some (.cells [.nilS,.nilS,.nilS,.nilS] 0 true):=by rw [← hHd,Hp.get_alloc,if_pos (show Hb.next + 1=(Hb.alloc _).next from rfl)]
        have gdb:Hd.get H3.next=some (.cells p.funcs[i].cells 0 true):=by rw [oldd _ (by omega)];exact gb
        have gd0:Hd.get 0=some (.cells p.cells 0 true):=by rw [oldd _ (by omega)];exact gb0
        clear hHd
        have s8:StrB Hd (.sl Hb.next 0 0 1) [] Hb.next:=⟨Hb.next,0,rfl,gd1,by simp,Nat.le_refl _,by omega⟩
        have ow8:∀ k,ownS (.sl Hb.next 0 0 1) k → k=Hb.next:=fun k ⟨n,e⟩=>by simp only [AV.sl.injEq] at e;exact e.1.symm
        obtain ⟨w9,H9,a9,s9,n9,f9,o9⟩:=app_lst p.funcs[i].params s8 (by omega) (by simp;omega)
        have ow9:∀ k,ownS w9 k → k=Hb.next ∨ Hb.next + 2 ≤ k:=fun k hk=>(o9.2 k hk).elim (fun h=>.inl (ow8 k h)) (fun h=>.inr (by omega))
        have g9s:H9.get (Hb.next + 1)=some (.cells [.nilS,.nilS,.nilS,.nilS] 0 true):=by rw [o9.1 _ (by omega) (fun h=>by have:=ow8 _ h;omega)];exact gds
        have g9b:H9.get H3.next=some (.cells p.funcs[i].cells 0 true):=by rw [o9.1 _ (by omega) (fun h=>by have:=ow8 _ h;omega)];exact gdb
        have g90:H9.get 0=some (.cells p.cells 0 true):=by rw [o9.1 _ (by omega) (fun h=>by have:=ow8 _ h;omega)];exact gd0
        refine WpL.append eV eV (by rw [hkeep];exact a9) ?_
        repeat' (first
           | (apply Rx.nl ?_;clear hK K)|apply Rx.o ?_|apply Rx.on ?_|apply Rx.gu ?_|(apply Rx.gd (fun hg hgp=>?_) (fun hg hgp=>?_) <;> try (cases hg;done))|(apply Rx.cd (fun hb hbp=>?_) (fun hb hbp=>?_) <;> try (cases hb;done))|apply Wp.seq ?_|(apply Wp.ops' fun K hK=>?_)|(apply Rx.dT 18 [(1,9),(3,9),(7,9),(8,9)] fun K hK=>?_)|(apply Rx.nq ?_;try intro _)|(apply Rx.nt ?_ ?_ <;> clear hK K)|apply WpT.step ?_|apply WpT.step0 rfl ?_|apply Wp.block ?_|apply Rx.sk ?_|apply Rx.rt ?_|apply Rx.xt ?_)
        obtain ⟨w11,H11,a11,s11,n11,f11,o11⟩:=app_lst p.funcs[i].locals s9 (by omega) (by simp;omega)
        have ow11:∀ k,ownS w11 k → k=Hb.next ∨ Hb.next + 2 ≤ k:=fun k hk=>(o11.2 k hk).elim (fun h=>ow9 k h) (fun h=>.inr (by omega))
        have g11s:H11.get (Hb.next + 1)=some (.cells [.nilS,.nilS,.nilS,.nilS] 0 true):=by rw [o11.1 _ (by omega) (fun h=>by have:=ow9 _ h;omega)];exact g9s
        have g11b:H11.get H3.next=some (.cells p.funcs[i].cells 0 true):=by rw [o11.1 _ (by omega) (fun h=>by have:=ow9 _ h;omega)];exact g9b
        have g110:H11.get 0=some (.cells p.cells 0 true):=by rw [o11.1 _ (by omega) (fun h=>by have:=ow9 _ h;omega)];exact g90
        refine WpL.append eV eV (by rw [hkeep];exact a11) ?_
        have hbs:buildA Try.prog 89 [(0,w11),(2,.agg p.cells)]=some (.agg [w11,.nilS,.lst (p.arrays.map Ar.cells),.lst (p.funcs.map Fu.cells)]):=by
          obtain ⟨q,imm,hq,_⟩:=s11
          rw [hq];exact bldSc p _ _
        have hone:=s11.one
        have h1o:=hone.1
        repeat' (first
           | (apply Rx.nl ?_;clear hK K)|apply Rx.o ?_|apply Rx.on ?_|apply Rx.gu ?_|(apply Rx.gd (fun hg hgp=>?_) (fun hg hgp=>?_) <;> try (cases hg;done))|(apply Rx.cd (fun hb hbp=>?_) (fun hb hbp=>?_) <;> try (cases hb;done))|apply Wp.seq ?_|(apply Wp.ops' fun K hK=>?_)|(apply Rx.dT 18 [(1,9),(3,9),(7,9),(8,9)] fun K hK=>?_)|(apply Rx.nq ?_;try intro _)|(apply Rx.nt ?_ ?_ <;> clear hK K)|apply WpT.step ?_|apply WpT.step0 rfl ?_|apply Wp.block ?_|apply Rx.sk ?_|apply Rx.rt ?_|apply Rx.xt ?_)
        · exact eK
        generalize hH12:Hp.set H11 (Hb.next + 1) _=H12
        have n12:H11.next ≤ H12.next:=by rw [← hH12];exact Nat.le_refl _
        have old12:∀ k,k ≠ Hb.next + 1 → H12.get k=H11.get k:=fun k hk=>by rw [← hH12,Hp.get_set,if_neg hk]
        have g12s:H12.get (Hb.next + 1)=some (.cells [w11,.nilS,.lst (p.arrays.map Ar.cells),.lst (p.funcs.map Fu.cells)] 0 true):=by rw [← hH12,Hp.get_set,if_pos rfl]
        have g12b:H12.get H3.next=some (.cells p.funcs[i].cells 0 true):=by rw [old12 _ (by omega)];exact g11b
        have g120:H12.get 0=some (.cells p.cells 0 true):=by rw [old12 _ (by omega)];exact g110
        have s12:StrB H12 w11 (p.funcs[i].params ++ p.funcs[i].locals) Hb.next:=s11.keep n12 fun k hk=>old12 k fun e=>by have:=ow11 k hk;omega
        have cw:∀ k,ownS w11 k → k < H12.next:=fun k hk=>(s12.lt hk).2
        have m12:Hb.next + 2 ≤ H12.next:=by omega
        have hfl:(p.funcs[i].params ++ p.funcs[i].locals).length < 2 ^ 38:=by simp;omega
        clear hH12 old12 s11 a11 o11 f11 a9 o9 f9 s9 s8 gds gdb gd1 gd0 g9s g9b g90 g11s g11b g110 hbs n9 n11 oldd ow9 ow8 gb gb0 hone
        have hnoS:∀ k,ownS w11 k → k ≠ Hb.next + 1 ∧ H3.next < k:=fun k hk=>by have:=ow11 k hk;omega
        clear ow11
        refine Wp.forI [1,3,4,5,6] [0,H3.next] 7 p.arrays.length (fun j E H=>∃ a seen,H.get (Hb.next + 1)=some (.cells [w11,a,.lst (p.arrays.map Ar.cells),.lst (p.funcs.map Fu.cells)] 0 true) ∧ StrN H a seen H12.next ∧ StrB H w11 (p.funcs[i].params ++ p.funcs[i].locals) Hb.next ∧ SplitAt (arNames p) seen j ∧ AV.one a=true) eE ⟨.nilS,[],g12s,.inl ⟨rfl,rfl⟩,s12,by simp [SplitAt],rfl⟩ ?_
        rintro j E4 H4 hj hcE hrH hnH hsI ⟨a,seen,g4s,s4,t4,hsn,hoa⟩
        (try simp only [forall_cons,forall_nil,and_true,sB,sO,Nat.reduceBEq,Nat.reduceAdd,Nat.reduceLeDiff,tyF,g120,g12b, *] at hcE)
        (try simp only [forall_cons,forall_nil,and_true,sB,sO,Nat.reduceBEq,Nat.reduceAdd,Nat.reduceLeDiff,tyF,g120,g12b, *] at hrH)
        (try simp only [Hp.next_alloc,Hp.next_set,H0_next,Nat.zero_add,Nat.reduceAdd] at hnH)
        have hB0:(0 == H4.next)=false:=ne_beq (by omega)
        have hC0:(H4.next == 0)=false:=ne_beq (by omega)
        have hB1:(H3.next == H4.next)=false:=ne_beq (by omega)
        have hC1:(H4.next == H3.next)=false:=ne_beq (by omega)
        have hsl:seen.length ≤ p.arrays.length:=by have:arNames p=seen ++ (arNames p).drop j:=hsn;have:=congrArg List.length this;rw [List.length_append] at this;omega
        have hdU:(p.funcs.drop i).any (undFn p)=(undFn p p.funcs[i] || (p.funcs.drop (i + 1)).any (undFn p)):=by rw [List.drop_eq_getElem_cons hlt,List.any_cons]
        have hdB:(p.funcs.drop i).any (badFn p)=(badFn p p.funcs[i] || (p.funcs.drop (i + 1)).any (badFn p)):=by rw [List.drop_eq_getElem_cons hlt,List.any_cons]
        have hend:j=(arNames p).length → StrN H4 a (arNames p) H12.next:=fun hje=>by
          unfold SplitAt at hsn
          rw [hje,List.drop_length,List.append_nil] at hsn
          rw [← hsn] at s4;exact s4
        have hd:∀ k,ownS a k → ¬ ownS w11 k:=fun k h1 h2=>by have:=(s4.lt h1).1;have:=cw k h2;omega
        have hz60:p.sz < 2 ^ 60:=by omega
        have hf60:p.funcs[i].sz < 2 ^ 60:=by omega
        have nw:∀ k,k ≤ H3.next ∨ k=Hb.next + 1 → ¬ ownS w11 k:=fun k hk h=>by have:=hnoS k h;omega
        have na:∀ k,k ≤ H3.next ∨ k=Hb.next + 1 → ¬ ownS a k:=fun k hk h=>by have:=(s4.lt h).1;omega
        have g4b:H4.get H3.next=some (.cells p.funcs[i].cells 0 true):=hrH.2
        have g40:H4.get 0=some (.cells p.cells 0 true):=hrH.1
        have gh0:=@aggQ4
        repeat' (first
           | (apply Rx.nl ?_;clear hK K)|apply Rx.o ?_|apply Rx.on ?_|apply Rx.gu ?_|(apply Rx.gd (fun hg hgp=>?_) (fun hg hgp=>?_) <;> try (cases hg;done))|(apply Rx.cd (fun hb hbp=>?_) (fun hb hbp=>?_) <;> try (cases hb;done))|apply Wp.seq ?_|(apply Wp.ops' fun K hK=>?_)|(apply Rx.dT 18 [(1,9),(3,9),(7,9),(8,9)] fun K hK=>?_)|(apply Rx.nq ?_;try intro _)|(apply Rx.nt ?_ ?_ <;> clear hK K)|apply WpT.step ?_|apply WpT.step0 rfl ?_|apply Wp.block ?_|apply Rx.sk ?_|apply Rx.rt ?_|apply Rx.xt ?_)
        · have hlt2 : j < p.arrays.length := by simpa using hb
          have hgx2:p.arrays[j]?=some p.arrays[j]:=List.getElem?_eq_getElem hlt2
          have hgn:(arNames p)[j]'(by omega)=p.arrays[j].name:=by simp [arNames]
          have hsn2:=drop_split (by omega) hsn
          rw [hgn] at hsn2
          repeat' (first
             | (apply Rx.nl ?_;clear hK K)|apply Rx.o ?_|apply Rx.on ?_|apply Rx.gu ?_|(apply Rx.gd (fun hg hgp=>?_) (fun hg hgp=>?_) <;> try (cases hg;done))|(apply Rx.cd (fun hb hbp=>?_) (fun hb hbp=>?_) <;> try (cases hb;done))|apply Wp.seq ?_|(apply Wp.ops' fun K hK=>?_)|(apply Rx.dT 18 [(1,9),(3,9),(7,9),(8,9)] fun K hK=>?_)|(apply Rx.nq ?_;try intro _)|(apply Rx.nt ?_ ?_ <;> clear hK K)|apply WpT.step ?_|apply WpT.step0 rfl ?_|apply Wp.block ?_|apply Rx.sk ?_|apply Rx.rt ?_|apply Rx.xt ?_)
          have old4:∀ k,k < H4.next → (H4.alloc (.cells [.str p.arrays[j].name] 0 true)).get k=H4.get k:=fun k hk=>by rw [Hp.get_alloc,if_neg (by omega)]
          have g4e:(H4.alloc (.cells [.str p.arrays[j].name] 0 true)).get (Hb.next + 1)=some (.cells [w11,a,.lst (p.arrays.map Ar.cells),.lst (p.funcs.map Fu.cells)] 0 true):=by rw [old4 _ (by omega)];exact g4s
          have g40e:(H4.alloc (.cells [.str p.arrays[j].name] 0 true)).get 0=some (.cells p.cells 0 true):=by rw [old4 _ (by omega)];exact hrH.1
          have g4n:(H4.alloc (.cells [.str p.arrays[j].name] 0 true)).get H4.next=some (.cells [.str p.arrays[j].name] 0 true):=by rw [Hp.get_alloc,if_pos rfl]
          have s4b:StrN (H4.alloc (.cells [.str p.arrays[j].name] 0 true)) a seen H12.next:=s4.keep (Nat.le_succ _) fun k hk=>old4 k (s4.lt hk).2
          obtain ⟨a5,H5,q5,s5,n5,f5,o5⟩:=app_one (r:=H4.next) (imm:=0) p.arrays[j].name s4b (by simp only [Hp.next_alloc];omega) g4n (by omega)
          simp only [Hp.next_alloc] at n5
          have m5:H4.next + 2 ≤ H5.next:=by omega
          clear n5
          have g5s:H5.get (Hb.next + 1)=some (.cells [w11,a,.lst (p.arrays.map Ar.cells),.lst (p.funcs.map Fu.cells)] 0 true):=by rw [f5 _ (by omega)];exact g4e
          have g5b:H5.get H3.next=some (.cells p.funcs[i].cells 0 true):=by rw [f5 _ (by omega),old4 _ (by omega)];exact g4b
          have g50:H5.get 0=some (.cells p.cells 0 true):=by rw [f5 _ (by omega)];exact g40e
          have t5:StrB H5 w11 (p.funcs[i].params ++ p.funcs[i].locals) Hb.next:=t4.keep (by omega) fun k hk=>by rw [f5 k (cw k hk),old4 k (t4.lt hk).2]
          have h5:=s5.one
          have h5o:=h5.1
          have h5c:=h5.2
          refine WpL.append eV eV (by rw [hkeep];exact q5) ?_
          repeat' (first
             | (apply Rx.nl ?_;clear hK K)|apply Rx.o ?_|apply Rx.on ?_|apply Rx.gu ?_|(apply Rx.gd (fun hg hgp=>?_) (fun hg hgp=>?_) <;> try (cases hg;done))|(apply Rx.cd (fun hb hbp=>?_) (fun hb hbp=>?_) <;> try (cases hb;done))|apply Wp.seq ?_|(apply Wp.ops' fun K hK=>?_)|(apply Rx.dT 18 [(1,9),(3,9),(7,9),(8,9)] fun K hK=>?_)|(apply Rx.nq ?_;try intro _)|(apply Rx.nt ?_ ?_ <;> clear hK K)|apply WpT.step ?_|apply WpT.step0 rfl ?_|apply Wp.block ?_|apply Rx.sk ?_|apply Rx.rt ?_|apply Rx.xt ?_)
          · exact eK
          generalize hH6:Hp.set H5 (Hb.next + 1) _=H6
          have n6:H5.next ≤ H6.next:=by rw [← hH6];exact Nat.le_refl _
          have old6:∀ k,k ≠ Hb.next + 1 → H6.get k=H5.get k:=fun k hk=>by rw [← hH6,Hp.get_set,if_neg hk]
          have g6s:H6.get (Hb.next + 1)=some (.cells [w11,a5,.lst (p.arrays.map Ar.cells),.lst (p.funcs.map Fu.cells)] 0 true):=by rw [← hH6,Hp.get_set,if_pos rfl]
          have g60:H6.get 0=some (.cells p.cells 0 true):=by rw [old6 _ (by omega)];exact g50
          have g6b:H6.get H3.next=some (.cells p.funcs[i].cells 0 true):=by rw [old6 _ (by omega)];exact g5b
          clear hH6
          refine ⟨by omega,eL,eL,eN,(by simp only [sB,Nat.reduceBEq, *];exact i64_succ (n:=p.arrays.length) (by omega) (by omega)),?_⟩
          exact ⟨a5,seen ++ [p.arrays[j].name],g6s,.inr (s5.keep n6 fun k hk=>old6 k (by have:=(s5.lt hk).1;omega)),t5.keep n6 (fun k hk=>old6 k (hnoS k hk).1),hsn2,h5o⟩
        · have hr0 : r = 0 := by omega
          have s4':=hend (by omega)
          refine WpL.call rfl eVk eAk ?_;simp only [List.cons_append,List.nil_append,List.append_nil]
          refine WpCall.mono ?_ (chkM_wp t4 s4' hd hz60 hf60 false (by simp))
          rintro v0 H5 ⟨rfl,t5,s5,m5,o5⟩
          dsimp only [setO]
          have g5s:H5.get (Hb.next + 1)=some (.cells [w11,a,.lst (p.arrays.map Ar.cells),.lst (p.funcs.map Fu.cells)] 0 true):=by rw [o5 _ (nw _ (by omega)) (na _ (by omega))];exact g4s
          have g5b:H5.get H3.next=some (.cells p.funcs[i].cells 0 true):=by rw [o5 _ (nw _ (by omega)) (na _ (by omega))];exact g4b
          have g50:H5.get 0=some (.cells p.cells 0 true):=by rw [o5 _ (nw _ (by omega)) (na _ (by omega))];exact g40
          have hd5:∀ k,ownS a k → ¬ ownS w11 k:=hd
          have gh0:=@aggQ4
          repeat' (first
             | (apply Rx.nl ?_;clear hK K)|apply Rx.o ?_|apply Rx.on ?_|apply Rx.gu ?_|(apply Rx.gd (fun hg hgp=>?_) (fun hg hgp=>?_) <;> try (cases hg;done))|(apply Rx.cd (fun hb hbp=>?_) (fun hb hbp=>?_) <;> try (cases hb;done))|apply Wp.seq ?_|(apply Wp.ops' fun K hK=>?_)|(apply Rx.dT 18 [(1,9),(3,9),(7,9),(8,9)] fun K hK=>?_)|(apply Rx.nq ?_;try intro _)|(apply Rx.nt ?_ ?_ <;> clear hK K)|apply WpT.step ?_|apply WpT.step0 rfl ?_|apply Wp.block ?_|apply Rx.sk ?_|apply Rx.rt ?_|apply Rx.xt ?_)
          · refine WpL.call rfl eVk eAk ?_; simp only [List.cons_append, List.nil_append, List.append_nil]
            refine WpCall.mono ?_ (defM_wp t5 s5 hd5 hz60 hf60)
            rintro v0 H6 ⟨rfl,t6,s6,m6,o6⟩
            dsimp only [setO]
            have g6s:H6.get (Hb.next + 1)=some (.cells [w11,a,.lst (p.arrays.map Ar.cells),.lst (p.funcs.map Fu.cells)] 0 true):=by rw [o6 _ (nw _ (by omega)) (na _ (by omega))];exact g5s
            have g6b:H6.get H3.next=some (.cells p.funcs[i].cells 0 true):=by rw [o6 _ (nw _ (by omega)) (na _ (by omega))];exact g5b
            have g60:H6.get 0=some (.cells p.cells 0 true):=by rw [o6 _ (nw _ (by omega)) (na _ (by omega))];exact g50
            have gh0:=@aggQ4
            repeat' (first
               | (apply Rx.nl ?_;clear hK K)|apply Rx.o ?_|apply Rx.on ?_|apply Rx.gu ?_|(apply Rx.gd (fun hg hgp=>?_) (fun hg hgp=>?_) <;> try (cases hg;done))|(apply Rx.cd (fun hb hbp=>?_) (fun hb hbp=>?_) <;> try (cases hb;done))|apply Wp.seq ?_|(apply Wp.ops' fun K hK=>?_)|(apply Rx.dT 18 [(1,9),(3,9),(7,9),(8,9)] fun K hK=>?_)|(apply Rx.nq ?_;try intro _)|(apply Rx.nt ?_ ?_ <;> clear hK K)|apply WpT.step ?_|apply WpT.step0 rfl ?_|apply Wp.block ?_|apply Rx.sk ?_|apply Rx.rt ?_|apply Rx.xt ?_)
            · all_goals (refine ⟨eI, _, eR, ?_⟩; try simp only [oneOr])
              have hu:p.funcs.any (undFn p)=true:=by rw [hU hr0,hdU,undFn];(try simp only [Bool.not_eq_true',Bool.not_eq_false'] at *);simp only [*,decide_true,decide_false,Bool.false_or,Bool.or_false,Bool.true_or,Bool.or_true,Bool.false_and,Bool.and_false,Bool.true_and,Bool.and_true,Bool.not_true,Bool.not_false,if_true,if_false,Int.reduceEq]
              rw [refCheck,hu];(try simp only [Bool.not_eq_true',Bool.not_eq_false'] at *);simp only [reduceCtorEq,eq_self, *,decide_true,decide_false,Bool.false_or,Bool.or_false,Bool.true_or,Bool.or_true,Bool.false_and,Bool.and_false,Bool.true_and,Bool.and_true,Bool.not_true,Bool.not_false,if_true,if_false,Int.reduceEq]
            · refine ⟨by omega, eL, eL, eN, (by simp only [sB, Nat.reduceBEq, *]; exact i64_succ (n := p.funcs.length) (by omega) (by omega)), ?_⟩
              refine ⟨fun _=>?_,fun h=>by omega⟩
              rw [hU hr0,hdU,undFn];(try simp only [Bool.not_eq_true',Bool.not_eq_false'] at *);simp only [*,decide_true,decide_false,Bool.false_or,Bool.or_false,Bool.true_or,Bool.or_true,Bool.false_and,Bool.and_false,Bool.true_and,Bool.and_true,Bool.not_true,Bool.not_false,if_true,if_false,Int.reduceEq]
          · all_goals (refine ⟨eI, _, eR, ?_⟩; try simp only [oneOr])
            have hu:p.funcs.any (undFn p)=true:=by rw [hU hr0,hdU,undFn];(try simp only [Bool.not_eq_true',Bool.not_eq_false'] at *);simp only [*,decide_true,decide_false,Bool.false_or,Bool.or_false,Bool.true_or,Bool.or_true,Bool.false_and,Bool.and_false,Bool.true_and,Bool.and_true,Bool.not_true,Bool.not_false,if_true,if_false,Int.reduceEq]
            rw [refCheck,hu];(try simp only [Bool.not_eq_true',Bool.not_eq_false'] at *);simp only [reduceCtorEq,eq_self, *,decide_true,decide_false,Bool.false_or,Bool.or_false,Bool.true_or,Bool.or_true,Bool.false_and,Bool.and_false,Bool.true_and,Bool.and_true,Bool.not_true,Bool.not_false,if_true,if_false,Int.reduceEq]
        · have hr1 : r = 1 := by omega
          have s4':=hend (by omega)
          have hJ1':=hJ1 (by omega)
          have hcal:calS p p.funcs[i].body=true:=by
            have hu:undFn p p.funcs[i]=false:=by
              have:=List.any_eq_false.1 hJ1' _ (List.getElem_mem hlt)
              simpa using this
            unfold undFn at hu
            rw [Bool.not_eq_false',Bool.and_eq_true] at hu
            exact chkS_cal _ hu.1
          refine WpL.call rfl eVk eAk ?_;simp only [List.cons_append,List.nil_append,List.append_nil]
          refine WpCall.mono ?_ (chkM_wp t4 s4' hd hz60 hf60 true (fun _=>hcal))
          rintro v0 H5 ⟨rfl,t5,s5,m5,o5⟩
          dsimp only [setO]
          have g5s:H5.get (Hb.next + 1)=some (.cells [w11,a,.lst (p.arrays.map Ar.cells),.lst (p.funcs.map Fu.cells)] 0 true):=by rw [o5 _ (nw _ (by omega)) (na _ (by omega))];exact g4s
          have g5b:H5.get H3.next=some (.cells p.funcs[i].cells 0 true):=by rw [o5 _ (nw _ (by omega)) (na _ (by omega))];exact g4b
          have g50:H5.get 0=some (.cells p.cells 0 true):=by rw [o5 _ (nw _ (by omega)) (na _ (by omega))];exact g40
          have gh0:=@aggQ4
          repeat' (first
             | (apply Rx.nl ?_;clear hK K)|apply Rx.o ?_|apply Rx.on ?_|apply Rx.gu ?_|(apply Rx.gd (fun hg hgp=>?_) (fun hg hgp=>?_) <;> try (cases hg;done))|(apply Rx.cd (fun hb hbp=>?_) (fun hb hbp=>?_) <;> try (cases hb;done))|apply Wp.seq ?_|(apply Wp.ops' fun K hK=>?_)|(apply Rx.dT 18 [(1,9),(3,9),(7,9),(8,9)] fun K hK=>?_)|(apply Rx.nq ?_;try intro _)|(apply Rx.nt ?_ ?_ <;> clear hK K)|apply WpT.step ?_|apply WpT.step0 rfl ?_|apply Wp.block ?_|apply Rx.sk ?_|apply Rx.rt ?_|apply Rx.xt ?_)
          · all_goals (refine ⟨eI, _, eR, ?_⟩; try simp only [oneOr])
            have hu:p.funcs.any (badFn p)=true:=by rw [hB hr1,hdB,badFn];(try simp only [Bool.not_eq_true',Bool.not_eq_false'] at *);simp only [*,decide_true,decide_false,Bool.false_or,Bool.or_false,Bool.true_or,Bool.or_true,Bool.false_and,Bool.and_false,Bool.true_and,Bool.and_true,Bool.not_true,Bool.not_false,if_true,if_false,Int.reduceEq]
            rw [refCheck,hJ1',hu];(try simp only [Bool.not_eq_true',Bool.not_eq_false'] at *);simp only [reduceCtorEq,eq_self, *,decide_true,decide_false,Bool.false_or,Bool.or_false,Bool.true_or,Bool.or_true,Bool.false_and,Bool.and_false,Bool.true_and,Bool.and_true,Bool.not_true,Bool.not_false,if_true,if_false,Int.reduceEq]
          · refine ⟨by omega, eL, eL, eN, (by simp only [sB, Nat.reduceBEq, *]; exact i64_succ (n := p.funcs.length) (by omega) (by omega)), ?_⟩
            refine ⟨fun h=>by omega,fun _=>?_⟩
            rw [hB hr1,hdB,badFn];(try simp only [Bool.not_eq_true',Bool.not_eq_false'] at *);simp only [*,decide_true,decide_false,Bool.false_or,Bool.or_false,Bool.true_or,Bool.or_true,Bool.false_and,Bool.and_false,Bool.true_and,Bool.and_true,Bool.not_true,Bool.not_false,if_true,if_false,Int.reduceEq]
        · omega
      · have hie : i = p.funcs.length := by simp at hb; omega
        rw [hie,List.drop_length] at hU hB
        refine ⟨by omega,eL,eL,eN,(by simp only [sB,Nat.reduceBEq, *];exact i64_succ (n:=2) (by omega) (by omega)),?_⟩
        refine ⟨fun h=>?_,fun h=>?_⟩
        · by_cases h0 : r = 0
          · rw [hU h0];rfl
          · exact hJ1 (by omega)
        · rw [hB (by omega)];rfl
    · all_goals (refine ⟨eI, _, eR, ?_⟩; try simp only [oneOr])
      have hr:r=2:=by omega
      subst hr
      have h1:=hJ1 (by omega)
      have h2:=hJ2 (by omega)
      rw [refCheck];(try simp only [Bool.not_eq_true',Bool.not_eq_false'] at *);simp only [reduceCtorEq,eq_self, *,decide_true,decide_false,Bool.false_or,Bool.or_false,Bool.true_or,Bool.or_true,Bool.false_and,Bool.and_false,Bool.true_and,Bool.and_true,Bool.not_true,Bool.not_false,if_true,if_false,Int.reduceEq])
end Go.Proofs.Ytackdnelcpbfjaa
namespace Go.Ab
set_option maxRecDepth 20000
open Go
def wkN : Nat → AV → AV
 | 0,v=>v
 | n + 1, v => match v with
   | .nilS=>.lst []
   | .lst xs=>.lst (xs.map fun row=>row.map (wkN n))
   | .agg cs=>.agg (cs.map (wkN n))
   | .tup cs=>.tup (cs.map (wkN n))
   | v=>v
theorem VR.wk {G : Gh} : ∀ (n : Nat) {v : AV} {x : Value}, VR G v x → VR G (wkN n v) x
  | 0,_,_,h=>h
  | n + 1, v, x, h => by
    cases h with
    | nilS=>exact .lst0 _ _
    | lst vs hz hF hv hc =>
      rename_i xs b o cap z
      have:=VR.lst (G:=G) (xs:=xs.map fun row=>row.map (wkN n)) (b:=b) (o:=o) (cap:=cap) (z:=z) vs ?_ ?_ ?_ ?_
      · rw [List.length_map] at this;exact this
      · intro i row hr
        rw [List.getElem?_map] at hr
        cases hx:xs[i]? with
        | none=>rw [hx] at hr;simp at hr
        | some r0=>rw [hx] at hr;simp only [Option.map_some,Option.some.injEq] at hr;rw [← hr,List.length_map];exact hz i r0 hx
      · intro i j hi hj;rw [List.length_map] at hi;exact hF i j hi hj
      · intro i j row c hr hc2
        rw [List.getElem?_map] at hr
        cases hx:xs[i]? with
        | none=>rw [hx] at hr;simp at hr
        | some r0 =>
          rw [hx] at hr;simp only [Option.map_some,Option.some.injEq] at hr
          rw [← hr,List.getElem?_map] at hc2
          cases hy:r0[j]? with
          | none=>rw [hy] at hc2;simp at hc2
          | some c0=>rw [hy] at hc2;simp only [Option.map_some,Option.some.injEq] at hc2;rw [← hc2];exact VR.wk n (hv i j r0 c0 hx hy)
      · rw [List.length_map];exact hc
    | lst0 a cap=>exact .lst0 a cap
    | agg hl hv =>
      refine .agg (by rw [List.length_map];exact hl) fun i c v hc hv2=>?_
      rw [List.getElem?_map] at hc
      rename_i cs vs
      cases hy:cs[i]? with
      | none=>rw [hy] at hc;simp at hc
      | some c0=>rw [hy] at hc;simp only [Option.map_some,Option.some.injEq] at hc;rw [← hc];exact VR.wk n (hv i c0 v hy hv2)
    | tup hl hv =>
      refine .tup (by rw [List.length_map];exact hl) fun i c v hc hv2=>?_
      rw [List.getElem?_map] at hc
      rename_i cs vs
      cases hy:cs[i]? with
      | none=>rw [hy] at hc;simp at hc
      | some c0=>rw [hy] at hc;simp only [Option.map_some,Option.some.injEq] at hc;rw [← hc];exact VR.wk n (hv i c0 v hy hv2)
    | int k m=>exact .int k m
    | sx k e=>exact .sx k e
    | bool b=>exact .bool b
    | str s l h=>exact .str s l h
    | nilP=>exact .nilP
    | nilM=>exact .nilM
    | nilF=>exact .nilF
    | ptr h=>exact .ptr h
    | iptr vs hF hv=>exact .iptr vs hF hv
    | sl h hl hc=>exact .sl h hl hc
    | map h=>exact .map h
    | clo hl hv=>exact .clo hl hv
theorem Con.wk {P:Program} {ρ:Nat → Int} {f:FuncId} {args:List AV} {r:AV} (n:Nat) (h:Con P ρ f args r):Con P ρ f args (wkN n r):=
 ⟨h.1,fun G w vs h1 h2 h3=>(h.2 G w vs h1 h2 h3).mono fun _ _ ⟨v,F1,h4,h5,h6⟩=>⟨v,F1,h4,h5.wk n,h6⟩⟩
theorem Con.wk' {P:Program} {ρ:Nat → Int} {f:FuncId} {args:List AV} {r r':AV} (n:Nat) (h:Con P ρ f args r) (e:wkN n r=r'):Con P ρ f args r':=e ▸ h.wk n
end Go.Ab
namespace Go.Ab
set_option maxRecDepth 20000
open Go
variable {P:Program} {cfg:Cfg} {f N:Nat}
theorem Wp.fresh {c:SC} {E:Env} {H:Hp} {Q:AX → Env → Hp → Prop} (cs:List Nat) (h:∀ E':Env,(∀ k ∈ cs,E'.at k=E.at k) → Wp P cfg f N c E' H Q):Wp P cfg f N c E H Q:=h E fun _ _=>rfl
end Go.Ab
namespace Go.Ab
set_option maxRecDepth 20000
open Go
def All2 {α β:Type} (p:α → β → Prop):List α → List β → Prop
 | [],[]=>True
 | a :: l,b :: m=>p a b ∧ All2 p l m
 | _,_=>False
theorem All2.len {α β:Type} {p:α → β → Prop}:∀ {l:List α} {m:List β},All2 p l m → l.length=m.length
 | [],[],_=>rfl
 | _ :: _,_ :: _,h=>by simp only [List.length_cons,All2.len h.2]
theorem All2.mono {α β:Type} {p q:α → β → Prop} (h:∀ a b,p a b → q a b):∀ {l:List α} {m:List β},All2 p l m → All2 q l m
 | [],[],_=>trivial
 | _ :: _,_ :: _,k=>⟨h _ _ k.1,All2.mono h k.2⟩
theorem All2.append {α β:Type} {p:α → β → Prop}:∀ {l:List α} {m:List β} {l':List α} {m':List β},All2 p l m → All2 p l' m' → All2 p (l ++ l') (m ++ m')
 | [],[],_,_,_,h=>h
 | _ :: _,_ :: _,_,_,h,k=>⟨h.1,All2.append h.2 k⟩
theorem All2.refl {α:Type} {p:α → α → Prop}:∀ {l:List α},(∀ a ∈ l,p a a) → All2 p l l
 | [],_=>trivial
 | a :: l,h=>⟨h a List.mem_cons_self,All2.refl fun b hb=>h b (List.mem_cons_of_mem _ hb)⟩
theorem All2.get {α β:Type} {p:α → β → Prop}:∀ {l:List α} {m:List β},All2 p l m → ∀ {i:Nat} {a:α} {b:β},l[i]?=some a → m[i]?=some b → p a b
 | [],[],_,i,_,_,h,_=>by simp at h
 | a :: l, b :: m, h, 0, _, _, h1, h2 => by
   simp only [List.getElem?_cons_zero,Option.some.injEq] at h1 h2
   subst h1;subst h2;exact h.1
 | a :: l,b :: m,h,i + 1,_,_,h1,h2=>All2.get h.2 (by simpa using h1) (by simpa using h2)
theorem All2.set {α β:Type} {p:α → β → Prop}:∀ {l:List α} {m:List β},All2 p l m → ∀ {i:Nat} {a:α} {b:β},p a b → All2 p (l.set i a) (m.set i b)
 | [],[],_,i,_,_,_=>by simp [All2]
 | _ :: _,_ :: _,h,0,_,_,k=>⟨k,h.2⟩
 | _ :: _,_ :: _,h,i + 1,_,_,k=>⟨h.1,All2.set h.2 k⟩
def flatA (v:AV):Prop:=PureA v ∧ match v with
 | .sl _ _ _ _|.agg _=>False
 | _=>True
def Ic (S : Nat → Prop) : Nat → Hp → AV → AV → Prop
 | 0,_,_,_=>False
 | n + 1, H, v, u => match v with
   | .sl r off len z=>S r ∧ r < H.next ∧ ∃ cs imm tip l,H.get r=some (.cells cs imm tip) ∧ imm ≤ cs.length ∧ off + len * z ≤ cs.length ∧ All2 (Ic S n H) ((cs.drop off).take (len * z)) l ∧ u=.lst (chunk z len l)
   | .agg cs=>∃ ds,All2 (Ic S n H) cs ds ∧ u=.agg ds
   | v=>PureA v ∧ u=v
theorem Ic.flat {S:Nat → Prop} {n:Nat} {H:Hp} {v:AV} (h:flatA v):Ic S (n + 1) H v v:=by
 cases v <;> first|exact h.2.elim|exact ⟨h.1,rfl⟩
theorem Ic.up {S:Nat → Prop} {H:Hp}:∀ {n m:Nat} {v u:AV},Ic S n H v u → n ≤ m → Ic S m H v u
 | 0,_,_,_,h,_=>h.elim
 | n + 1,0,_,_,_,hm=>by omega
 | n + 1, m + 1, v, u, h, hm => by
   cases v with
   | sl r off len z =>
     obtain ⟨h1,h0,cs,imm,tip,l,h2,h3,h4,h5,h6⟩:=h
     exact ⟨h1,h0,cs,imm,tip,l,h2,h3,h4,h5.mono fun a b k=>Ic.up k (by omega),h6⟩
   | agg cs =>
     obtain ⟨ds,h1,h2⟩:=h
     exact ⟨ds,h1.mono fun a b k=>Ic.up k (by omega),h2⟩
   | _=>exact h
def SameB (a b:Option HB):Prop:=a=b ∨ ∃ cs i j tip,a=some (.cells cs i tip) ∧ b=some (.cells cs j tip) ∧ (i ≤ cs.length → j ≤ cs.length)
theorem SameB.trans {a b c:Option HB} (h:SameB a b) (k:SameB b c):SameB a c:=by
 rcases h with rfl|⟨cs,i,j,tip,rfl,rfl,h⟩
 · exact k
 · rcases k with rfl | ⟨cs', i', j', tip', e, rfl, k⟩
   · exact .inr ⟨cs,i,j,tip,rfl,rfl,h⟩
   · simp only [Option.some.injEq, HB.cells.injEq] at e
     obtain ⟨rfl,rfl,rfl⟩:=e
     exact .inr ⟨cs,i,j',tip,rfl,rfl,fun q=>k (h q)⟩
theorem Ic.frame2 {S S' : Nat → Prop} {H H' : Hp} (hS : ∀ k, k < H.next → S k → S' k) (hn : H.next ≤ H'.next) (hf : ∀ k, S k → k < H.next → SameB (H.get k) (H'.get k)) : ∀ {n : Nat} {v u : AV}, Ic S n H v u → Ic S' n H' v u
  | 0,_,_,h=>h.elim
  | n + 1, v, u, h => by
    cases v with
    | sl r off len z =>
      obtain ⟨h1,h0,cs,imm,tip,l,h2,h3,h4,h5,h6⟩:=h
      have h5':=h5.mono fun a b k=>Ic.frame2 hS hn hf k
      rcases hf r h1 h0 with e|⟨cs',i,j,tip',e1,e2,e3⟩
      · exact ⟨hS r h0 h1,by omega,cs,imm,tip,l,by rw [← e];exact h2,h3,h4,h5',h6⟩
      · rw [h2] at e1
        simp only [Option.some.injEq,HB.cells.injEq] at e1
        obtain ⟨rfl,rfl,rfl⟩:=e1
        exact ⟨hS r h0 h1,by omega,cs,j,tip,l,e2,e3 h3,h4,h5',h6⟩
    | agg cs =>
      obtain ⟨ds,h1,h2⟩:=h
      exact ⟨ds,h1.mono fun a b k=>Ic.frame2 hS hn hf k,h2⟩
    | _=>exact h
theorem Ic.frame {S S':Nat → Prop} (hS:∀ k,S k → S' k) {H H':Hp} (hn:H.next ≤ H'.next) (hf:∀ k,S k → k < H.next → SameB (H.get k) (H'.get k)) {n:Nat} {v u:AV} (h:Ic S n H v u):Ic S' n H' v u:=h.frame2 (fun k _ q=>hS k q) hn hf
structure Icy (S:Nat → Prop) (H H':Hp):Prop where
 next:H'.next=H.next
 out:∀ k,¬ S k → H'.get k=H.get k
 same:∀ k,SameB (H.get k) (H'.get k)
theorem Icy.refl (S:Nat → Prop) (H:Hp):Icy S H H:=⟨rfl,fun _ _=>rfl,fun _=>.inl rfl⟩
theorem Icy.trans {S:Nat → Prop} {a b c:Hp} (h:Icy S a b) (k:Icy S b c):Icy S a c:=⟨k.next.trans h.next,fun r hr=>(k.out r hr).trans (h.out r hr),fun r=>(h.same r).trans (k.same r)⟩
theorem Icy.ic {S S':Nat → Prop} {H H':Hp} (h:Icy S H H') {n:Nat} {v u:AV} (k:Ic S' n H v u):Ic S' n H' v u:=k.frame (fun _ q=>q) (Nat.le_of_eq h.next.symm) fun r _ _=>h.same r
theorem iceHL_all {S:Nat → Prop} {n:Nat} (ih:∀ {v u:AV} {H:Hp},Ic S n H v u → ∃ H',iceH n v H=some (u,H') ∧ Icy S H H'):∀ {l m:List AV} {H:Hp},All2 (Ic S n H) l m → ∃ H',iceHL (iceH n) l H=some (m,H') ∧ Icy S H H'
 | [],[],H,_=>⟨H,rfl,Icy.refl S H⟩
 | a :: l, b :: m, H, h => by
   obtain ⟨H1,h1,h2⟩:=ih h.1
   obtain ⟨H2,h3,h4⟩:=iceHL_all ih (l:=l) (m:=m) (H:=H1) (h.2.mono fun a b k=>h2.ic k)
   exact ⟨H2,by simp only [iceHL,h1,h3],h2.trans h4⟩
theorem Ic.ice {S : Nat → Prop} : ∀ {n : Nat} {v u : AV} {H : Hp}, Ic S n H v u → ∃ H', iceH n v H = some (u, H') ∧ Icy S H H'
  | 0,_,_,_,h=>h.elim
  | n + 1, v, u, H, h => by
    cases v with
    | sl r off len z =>
      obtain ⟨h1,h0,cs,imm,tip,l,h2,h3,h4,h5,rfl⟩:=h
      have hset:Icy S H (H.set r (.cells cs (max imm (off + len * z)) tip)):=by
        refine ⟨rfl,fun k hk=>by rw [Hp.get_set,if_neg (fun e=>hk (by rw [e];exact h1))],fun k=>?_⟩
        rw [Hp.get_set]
        split
        · rename_i e;subst e;exact .inr ⟨cs,imm,max imm (off + len * z),tip,h2,rfl,fun _=>by omega⟩
        · exact .inl rfl
      obtain ⟨H',h6,h7⟩:=iceHL_all (fun k=>Ic.ice k) (h5.mono fun a b k=>hset.ic k)
      refine ⟨H',?_,hset.trans h7⟩
      have e:iceH (n + 1) (.sl r off len z) H=match H.get r with
        | some (.cells cs imm tip) => match Nat.ble (off + len * z) cs.length && Nat.ble imm cs.length with
          | true => match iceHL (iceH n) ((cs.drop off).take (len * z)) (H.set r (.cells cs (max imm (off + len * z)) tip)) with
            | some (l',H)=>some (.lst (chunk z len l'),H)
            | none=>none
          | false=>none
        | _=>none:=rfl
      rw [e,h2]
      have e1:Nat.ble (off + len * z) cs.length=true:=by rw [Nat.ble_eq];exact h4
      have e2:Nat.ble imm cs.length=true:=by rw [Nat.ble_eq];exact h3
      simp only [e1,e2,Bool.and_self,h6]
    | agg cs =>
      obtain ⟨ds,h1,rfl⟩:=h
      obtain ⟨H',h2,h3⟩:=iceHL_all (fun k=>Ic.ice k) h1
      refine ⟨H',?_,h3⟩
      have e:iceH (n + 1) (.agg cs) H=match iceHL (iceH n) cs H with
        | some (ds,H)=>some (.agg ds,H)
        | none=>none:=rfl
      rw [e,h2]
    | ptr r o =>
      obtain ⟨k,hk⟩:=h.1
      exact absurd (hk (k + 1) (by omega) H) (by simp [iceV])
    | map r =>
      obtain ⟨k,hk⟩:=h.1
      exact absurd (hk (k + 1) (by omega) H) (by simp [iceV])
    | _=>exact ⟨H,by rw [show u=_ from h.2];rfl,Icy.refl S H⟩
theorem Ic.iceL {S:Nat → Prop} {n:Nat} {l m:List AV} {H:Hp} (h:All2 (Ic S n H) l m):∃ H',iceHL (iceH n) l H=some (m,H') ∧ Icy S H H':=iceHL_all (fun k=>Ic.ice k) h
theorem iceL_all {S:Nat → Prop} {n:Nat} {H:Hp} (ih:∀ {v u:AV},Ic S n H v u → ∃ m0,∀ m,m0 ≤ m → iceV H m v=some u):∀ {l k:List AV},All2 (Ic S n H) l k → ∃ m0,∀ m,m0 ≤ m → iceL (iceV H m) l=some k
 | [],[],_=>⟨0,fun _ _=>rfl⟩
 | a :: l, b :: k, h => by
   obtain ⟨m1,h1⟩:=ih h.1
   obtain ⟨m2,h2⟩:=iceL_all ih (l:=l) (k:=k) h.2
   exact ⟨max m1 m2,fun m hm=>by simp only [iceL,h1 m (by omega),h2 m (by omega)]⟩
theorem Ic.iceV {S : Nat → Prop} {H : Hp} : ∀ {n : Nat} {v u : AV}, Ic S n H v u → ∃ m0, ∀ m, m0 ≤ m → iceV H m v = some u
  | 0,_,_,h=>h.elim
  | n + 1, v, u, h => by
    cases v with
    | sl r off len z =>
      obtain ⟨h1,h0,cs,imm,tip,l,h2,h3,h4,h5,rfl⟩:=h
      obtain ⟨m0,hm0⟩:=iceL_all (fun k=>Ic.iceV k) h5
      refine ⟨m0 + 1,fun m hm=>?_⟩
      obtain ⟨m,rfl⟩:∃ k,m=k + 1:=⟨m - 1,by omega⟩
      have e:Ab.iceV H (m + 1) (.sl r off len z)=match H.get r with
        | some (.cells cs _ _) => match Ab.iceL (Ab.iceV H m) ((cs.drop off).take (len * z)) with
          | some l'=>if l'.length=len * z then some (.lst (chunk z len l')) else none
          | none=>none
        | _=>none:=rfl
      have hl:l.length=len * z:=by rw [← h5.len,List.length_take,List.length_drop];omega
      rw [e,h2]
      simp only [hm0 m (by omega),hl,if_true]
    | agg cs =>
      obtain ⟨ds,h1,rfl⟩:=h
      obtain ⟨m0,hm0⟩:=iceL_all (fun k=>Ic.iceV k) h1
      refine ⟨m0 + 1,fun m hm=>?_⟩
      obtain ⟨m,rfl⟩:∃ k,m=k + 1:=⟨m - 1,by omega⟩
      have e:Ab.iceV H (m + 1) (.agg cs)=match Ab.iceL (Ab.iceV H m) cs with
        | some ds=>some (.agg ds)
        | none=>none:=rfl
      rw [e,hm0 m (by omega)]
    | _ =>
      obtain ⟨k,hk⟩:=h.1
      exact ⟨k,fun m hm=>by rw [hk m hm H,h.2]⟩
theorem chunk_rows (z:Nat):∀ (rows:List (List AV)),(∀ r ∈ rows,r.length=z) → chunk z rows.length rows.flatten=rows
 | [],_=>rfl
 | r :: rows, h => by
   have h1:=h r List.mem_cons_self
   rw [List.flatten_cons,List.length_cons]
   show (r ++ rows.flatten).take z :: chunk z rows.length ((r ++ rows.flatten).drop z)=_
   rw [List.take_append_of_le_length (by omega),List.take_of_length_le (by omega),List.drop_append_of_le_length (by omega),List.drop_of_length_le (by omega),List.nil_append,chunk_rows z rows fun q hq=>h q (List.mem_cons_of_mem _ hq)]
theorem rows_len {z:Nat}:∀ {rows:List (List AV)},(∀ r ∈ rows,r.length=z) → rows.flatten.length=rows.length * z
 | [],_=>by simp
 | r :: rows, h => by
   rw [List.flatten_cons,List.length_append,h r List.mem_cons_self,rows_len fun q hq=>h q (List.mem_cons_of_mem _ hq),List.length_cons,Nat.succ_mul];omega
theorem All2.flat {p:AV → AV → Prop}:∀ {a b:List (List AV)},All2 (All2 p) a b → All2 p a.flatten b.flatten
 | [],[],_=>trivial
 | _ :: _,_ :: _,h=>by rw [List.flatten_cons,List.flatten_cons];exact h.1.append (All2.flat h.2)
theorem All2.rowlen {p:AV → AV → Prop} {z:Nat}:∀ {a b:List (List AV)},All2 (All2 p) a b → (∀ r ∈ a,r.length=z) → ∀ r ∈ b,r.length=z
 | [],[],_,_,r,hr=>by simp at hr
 | x :: a, y :: b, h, hz, r, hr => by
   rcases List.mem_cons.1 hr with rfl|hr
   · rw [← h.1.len];exact hz x List.mem_cons_self
   · exact All2.rowlen h.2 (fun q hq=>hz q (List.mem_cons_of_mem _ hq)) r hr
theorem Ic.rows {S:Nat → Prop} {n:Nat} {H:Hp} {r z imm:Nat} {tip:Bool} {a b:List (List AV)} (hS:S r) (hr:r < H.next) (hg:H.get r=some (.cells a.flatten imm tip)) (hi:imm ≤ a.flatten.length) (hz:∀ x ∈ a,x.length=z) (h:All2 (All2 (Ic S n H)) a b):Ic S (n + 1) H (.sl r 0 a.length z) (.lst b):=by
 have hl:=rows_len hz
 refine ⟨hS,hr,a.flatten,imm,tip,b.flatten,hg,hi,by omega,?_,?_⟩
 · rw [List.drop_zero,List.take_of_length_le (by omega)];exact h.flat
 · rw [h.len,chunk_rows z b (h.rowlen hz)]
theorem VRs.wk {G:Gh} (n:Nat):∀ {args:List AV} {vs:List Value},VRs G args vs → VRs G (args.map (wkN n)) vs
 | [],vs,h=>h
 | a :: l,[],h=>by have:=h.1;simp at this
 | a :: l, v :: vs, h => by
   obtain ⟨h1,h2⟩:=h.of_cons
   exact VRs.cons (h1.wk n) (VRs.wk n h2)
theorem Con.wkA {P:Program} {ρ:Nat → Int} {f:FuncId} {args:List AV} {r:AV} (n:Nat) (h:Con P ρ f (args.map (wkN n)) r):Con P ρ f args r:=⟨h.1,fun G w vs h1 h2 h3=>h.2 G w vs h1 h2 (h3.wk n)⟩
def enW (e:En):En:=⟨e.f,e.ice,fun args=>e.sp (args.map (wkN 60))⟩
theorem enW_ok {P:Program} {ρ:Nat → Int} {e:En} (h:EnOk P ρ e):EnOk P ρ (enW e):=fun args r hr=>(h _ r hr).wkA 60
end Go.Ab
