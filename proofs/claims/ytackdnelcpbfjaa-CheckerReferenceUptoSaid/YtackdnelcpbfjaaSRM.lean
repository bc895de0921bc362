/- Parts: W4a, W4b, W4c, W4d, P4f, P4g, W4e, W4f, W4g, W4h. -/
import Derived.Test.YtackdnelcpbfjaaSRL
set_option linter.unusedSimpArgs false
set_option linter.unusedVariables false
set_option linter.unusedSectionVars false
set_option linter.defProp false
set_option maxHeartbeats 32000000
namespace Go.Proofs.Ytackdnelcpbfjaa
set_option maxRecDepth 20000
set_option maxRecDepth 20000
open Go Go.Ab
namespace tyW4a
def tyF:=And.intro @tq3 (And.intro @tq9 (And.intro @tq36 (And.intro @tq37 (And.intro @tq39 (And.intro @tq46 (@tq2))))))
end tyW4a
open tyW4a
noncomputable def code73:{ c:SC // slim 28 (Try.f73.body.getD .skip)=c }:=by
 refine ⟨?_,?_⟩
 rotate_left
 · simp only [Try.f73, Option.getD_some, slim, slimR, slimL, slimD, slimG, Nat.blt, Nat.ble]
   rfl
noncomputable def code67:{ c:SC // slim 39 (Try.f67.body.getD .skip)=c }:=by
 refine ⟨?_,?_⟩
 rotate_left
 · simp only [Try.f67, Option.getD_some, slim, slimR, slimL, slimD, slimG, Nat.blt, Nat.ble]
   rfl
def VisitE (cfg:Cfg) (base:Nat) (I:Hp → Prop) (g:FuncId) (cap:List AV) (q:Ex → Int → Bool):Prop:=
 ∀ (x:Ex) (d:Int) (H:Hp),x.sz < 2 ^ 60 → base ≤ H.next → I H → WpCall Try.prog cfg g (.agg x.cells :: .int .i64 d :: cap) H fun v H'=>v=.bool (q x d) ∧ FrB base H H' ∧ I H'
def OfLow (base:Nat) (I:Hp → Prop):Prop:=∀ H H',I H → Low base H H' → I H'
theorem walkExpr_wp {cfg : Cfg} (hw : Plain cfg 73) {base : Nat} {I : Hp → Prop} (hI : OfLow base I) {g : FuncId} {cap : List AV} {q : Ex → Int → Bool} (hq : VisitE cfg base I g cap q) :
    ∀ (n:Nat) (x:Ex),x.sz < n → ∀ (d:Int) (H:Hp),x.sz < 2 ^ 60 → base ≤ H.next → I H → WpCall Try.prog cfg 73 [.agg x.cells,.int .i64 d,.clo g cap] H fun v H'=>v=.bool (walkE q x d) ∧ FrB base H H' ∧ I H'
  | 0,x,hx,_,_,_,_,_=>by omega
  | n + 1, x, hx, d, H, hz, hbase, hi => by
    refine WpCall.slim (M:=28) (rs:=[.tmp 6]) (hw.call _) hw.ice hw.froz Try.func73 rfl rfl code73.2 rfl ?_;dsimp only [code73,envOf,Nat.reduceAdd]
    repeat' (first
       | (apply Rx.nl ?_;clear hK K)|apply Rx.o ?_|apply Rx.on ?_|(apply Rx.cd (fun hb hbp=>?_) (fun hb hbp=>?_) <;> try (cases hb;done))|apply Wp.seq ?_|(apply Wp.ops' fun K hK=>?_)|apply Wp.block ?_|apply Rx.sk ?_|apply Rx.rt ?_|apply Rx.xt ?_)
    refine WpL.call rfl eVk eAk ?_;simp only [List.cons_append,List.nil_append,List.append_nil]
    have hH1:FrB base H (H.alloc (.cells x.cells 0 true)):=(FrB.refl _ _).alloc _
    refine WpCall.mono ?_ (hq x d (H.alloc (.cells x.cells 0 true)) hz (by simp only [Hp.next_alloc];omega) (hI _ _ hi ((Low.refl _ _).alloc hbase _)))
    rintro v H1 ⟨rfl,hf1,hi1⟩
    have hg1:H1.get H.next=some (.cells x.cells 0 true):=by
      rw [hf1.get _ hbase (by simp [Hp.next_alloc]),Hp.get_alloc,if_pos rfl]
    have hn1:H.next < H1.next:=by have:=hf1.next;simp only [Hp.next_alloc] at this;omega
    dsimp only [setO]
    repeat' (first
       | (apply Rx.nl ?_;clear hK K)|apply Rx.o ?_|apply Rx.on ?_|(apply Rx.cd (fun hb hbp=>?_) (fun hb hbp=>?_) <;> try (cases hb;done))|apply Wp.seq ?_|(apply Wp.ops' fun K hK=>?_)|apply Wp.block ?_|apply Rx.sk ?_|apply Rx.rt ?_|apply Rx.xt ?_)
    · all_goals (refine ⟨eI, _, eR, ?_⟩; try simp only [oneOr])
      refine ⟨?_,hH1.trans hf1,hi1⟩
      rw [walkE_eq]
      simp_all
    have hl:x.kids.length < 2 ^ 60:=by have:=exprsSz_len x.kids;have:=x.sz_eq;omega
    refine Wp.loopN (fun i E H2=>walkEs q x.kids (w64 (d + 1))=walkEs q (x.kids.drop i) (w64 (d + 1)) ∧ E.at 1=.int .i64 d ∧ E.at 2=.clo g cap ∧ E.at 15=.lst (x.kids.map Ex.cells) ∧ E.at 16=.int .i64 x.kids.length ∧ E.at 17=.int .i64 i ∧ FrB base H H2 ∧ I H2) x.kids.length ?_ ?_
    · rintro i E H2 hi2 ⟨hc, h1, h2, h15, h16, h17, hf2, hI2⟩
      repeat' (first
         | (apply Rx.nl ?_;clear hK K)|apply Rx.o ?_|apply Rx.on ?_|(apply Rx.cd (fun hb hbp=>?_) (fun hb hbp=>?_) <;> try (cases hb;done))|apply Wp.seq ?_|(apply Wp.ops' fun K hK=>?_)|apply Wp.block ?_|apply Rx.sk ?_|apply Rx.rt ?_|apply Rx.xt ?_)
      · have hlt : i < x.kids.length := by simpa using hb
        have hgx:x.kids[i]?=some x.kids[i]:=List.getElem?_eq_getElem hlt
        repeat' (first
           | (apply Rx.nl ?_;clear hK K)|apply Rx.o ?_|apply Rx.on ?_|(apply Rx.cd (fun hb hbp=>?_) (fun hb hbp=>?_) <;> try (cases hb;done))|apply Wp.seq ?_|(apply Wp.ops' fun K hK=>?_)|apply Wp.block ?_|apply Rx.sk ?_|apply Rx.rt ?_|apply Rx.xt ?_)
        have hxm:x.kids[i] ∈ x.kids:=List.getElem_mem hlt
        have hsm:=exprsSz_mem hxm
        have hsx:=x.sz_eq
        have hf3:FrB base H2 ((H2.alloc (.cells [.int .i64 0,.int .i64 0,.str [],.int .i64 0,.nilS] 0 true)).set H2.next (.cells x.kids[i].cells 0 true)):=((FrB.refl _ _).alloc _).set (.inl (Nat.le_refl _)) _
        have hb2:base ≤ H2.next:=Nat.le_trans hbase (hf2.next)
        have hlow:Low base H2 ((H2.alloc (.cells [.int .i64 0,.int .i64 0,.str [],.int .i64 0,.nilS] 0 true)).set H2.next (.cells x.kids[i].cells 0 true)):=((Low.refl _ _).alloc hb2 _).set hb2 _
        refine WpL.call rfl eVk eAk ?_;simp only [List.cons_append,List.nil_append,List.append_nil]
        refine WpCall.mono ?_ (walkExpr_wp hw hI hq n x.kids[i] (by omega) _ _ (by omega) (by simp only [Hp.next_alloc,Hp.next_set];omega) (hI _ _ hI2 hlow))
        rintro v H3 ⟨rfl,hf4,hI3⟩
        dsimp only [setO]
        repeat' (first
           | (apply Rx.nl ?_;clear hK K)|apply Rx.o ?_|apply Rx.on ?_|(apply Rx.cd (fun hb hbp=>?_) (fun hb hbp=>?_) <;> try (cases hb;done))|apply Wp.seq ?_|(apply Wp.ops' fun K hK=>?_)|apply Wp.block ?_|apply Rx.sk ?_|apply Rx.rt ?_|apply Rx.xt ?_)
        · all_goals (refine ⟨eI, _, eR, ?_⟩; try simp only [oneOr])
          refine ⟨?_,(hf2.trans hf3).trans hf4,hI3⟩
          rw [walkE_eq,hc,walkEs_drop q hlt]
          simp_all
        · refine ⟨hlt, ?_, eE, eE, eE, eE, ?_, (hf2.trans hf3).trans hf4, hI3⟩
          · rw [hc,walkEs_drop q hlt];simp_all
          · simp only [at_set,Nat.reduceBEq,cond_true,wrap_succ (show i < 2 ^ 62 by omega)]
      · have hi3 : i = x.kids.length := by simp at hb; omega
        all_goals (refine ⟨eI,_,eR,?_⟩;try simp only [oneOr])
        refine ⟨?_,hf2,hI2⟩
        rw [walkE_eq,hc,hi3]
        simp_all [walkEs]
    · exact ⟨rfl,eE,eE,eE,eE,eE,hH1.trans hf1,hi1⟩
end Go.Proofs.Ytackdnelcpbfjaa
namespace Go.Proofs.Ytackdnelcpbfjaa
set_option maxRecDepth 20000
set_option maxRecDepth 20000
open Go Go.Ab
namespace tyW4b
def tyF:=And.intro @tq3 (And.intro @tq9 (And.intro @tq36 (And.intro @tq37 (And.intro @tq39 (@tq46)))))
end tyW4b
open tyW4b
def VisitS {σ:Type} (cfg:Cfg) (base:Nat) (I:σ → Hp → Prop) (g:FuncId) (cap:List AV) (q:St → Int → σ → Bool × σ):Prop:=
 ∀ (x:St) (d:Int) (s:σ) (H:Hp),x.sz < 2 ^ 60 → base ≤ H.next → I s H → WpCall Try.prog cfg g (.agg x.cells :: .int .i64 d :: cap) H fun v H'=>v=.bool (q x d s).1 ∧ FrB base H H' ∧ I (q x d s).2 H'
theorem walkStmts_wp {cfg : Cfg} (hw : Plain cfg 67) {σ : Type} {base : Nat} {I : σ → Hp → Prop} (hI : ∀ s, OfLow base (I s)) {g : FuncId} {cap : List AV} {q : St → Int → σ → Bool × σ} (hq : VisitS cfg base I g cap q) :
    ∀ (n:Nat) (l:List St),stmtsSz l < n → ∀ (d:Int) (s:σ) (H:Hp),stmtsSz l < 2 ^ 60 → base ≤ H.next → I s H → WpCall Try.prog cfg 67 [.lst (l.map St.cells),.int .i64 d,.clo g cap] H fun v H'=>v=.bool (walkS q l d s).1 ∧ FrB base H H' ∧ I (walkS q l d s).2 H'
  | 0,l,hx,_,_,_,_,_,_=>by omega
  | n + 1, l, hx, d, s, H, hz, hbase, hi => by
    refine WpCall.slim (M:=39) (rs:=[.tmp 6]) (hw.call _) hw.ice hw.froz Try.func67 rfl rfl code67.2 rfl ?_;dsimp only [code67,envOf,Nat.reduceAdd]
    repeat' (first
       | (apply Rx.nl ?_;clear hK K)|apply Rx.o ?_|apply Rx.on ?_|(apply Rx.gd (fun hg hgp=>?_) (fun hg hgp=>?_) <;> try (cases hg;done))|(apply Rx.cd (fun hb hbp=>?_) (fun hb hbp=>?_) <;> try (cases hb;done))|apply Wp.seq ?_|(apply Wp.ops' fun K hK=>?_)|apply Wp.block ?_|apply Rx.sk ?_|apply Rx.rt ?_|apply Rx.xt ?_)
    have hl:l.length < 2 ^ 60:=by have:=stmtsSz_len l;omega
    refine Wp.loopN (fun i E H2=>∃ s2,walkS q l d s=walkS q (l.drop i) d s2 ∧ E.at 1=.int .i64 d ∧ E.at 2=.clo g cap ∧ E.at 9=.lst (l.map St.cells) ∧ E.at 10=.int .i64 l.length ∧ E.at 11=.int .i64 i ∧ FrB base H H2 ∧ I s2 H2) l.length ?_ ?_
    · rintro i E H2 hi2 ⟨s2, hc, h1, h2, h9, h10, h11, hf2, hI2⟩
      repeat' (first
         | (apply Rx.nl ?_;clear hK K)|apply Rx.o ?_|apply Rx.on ?_|(apply Rx.gd (fun hg hgp=>?_) (fun hg hgp=>?_) <;> try (cases hg;done))|(apply Rx.cd (fun hb hbp=>?_) (fun hb hbp=>?_) <;> try (cases hb;done))|apply Wp.seq ?_|(apply Wp.ops' fun K hK=>?_)|apply Wp.block ?_|apply Rx.sk ?_|apply Rx.rt ?_|apply Rx.xt ?_)
      · have hlt : i < l.length := by simpa using hb
        have hgx:l[i]?=some l[i]:=List.getElem?_eq_getElem hlt
        repeat' (first
           | (apply Rx.nl ?_;clear hK K)|apply Rx.o ?_|apply Rx.on ?_|(apply Rx.gd (fun hg hgp=>?_) (fun hg hgp=>?_) <;> try (cases hg;done))|(apply Rx.cd (fun hb hbp=>?_) (fun hb hbp=>?_) <;> try (cases hb;done))|apply Wp.seq ?_|(apply Wp.ops' fun K hK=>?_)|apply Wp.block ?_|apply Rx.sk ?_|apply Rx.rt ?_|apply Rx.xt ?_)
        have hxm:l[i] ∈ l:=List.getElem_mem hlt
        have hsm:=stmtsSz_mem hxm
        have hsx:=l[i].sz_eq
        generalize hx0:l[i]=x at *
        have hb2:base ≤ H2.next:=Nat.le_trans hbase hf2.next
        generalize hH3:(H2.alloc _).set H2.next _=H3
        have hf3:FrB base H2 H3:=by rw [← hH3];exact ((FrB.refl _ _).alloc _).set (.inl (Nat.le_refl _)) _
        have hlow:Low base H2 H3:=by rw [← hH3];exact ((Low.refl _ _).alloc hb2 _).set hb2 _
        have hn3:H2.next < H3.next:=by rw [← hH3];simp only [Hp.next_alloc,Hp.next_set];omega
        have hg3:H3.get H2.next=some (.cells x.cells 0 true):=by rw [← hH3,Hp.get_set,if_pos rfl]
        have hI3:=hI _ _ _ hI2 hlow
        have hwd:=walkS_drop q hlt d s2
        rw [hx0,walk1_eq] at hwd
        rw [hwd] at hc
        refine WpL.call rfl eVk eAk ?_;simp only [List.cons_append,List.nil_append,List.append_nil]
        refine WpCall.mono ?_ (hq x d s2 H3 (by omega) (by omega) hI3)
        rintro v H4 ⟨rfl,hf4,hI4⟩
        generalize hq1:q x d s2=r1 at *
        obtain ⟨ok1,s3⟩:=r1
        have hg4:H4.get H2.next=some (.cells x.cells 0 true):=by rw [hf4.get _ hb2 hn3];exact hg3
        have hn4:H2.next < H4.next:=Nat.lt_of_lt_of_le hn3 hf4.next
        dsimp only [setO]
        cases ok1 with
        | false =>
          repeat' (first
             | (apply Rx.nl ?_;clear hK K)|apply Rx.o ?_|apply Rx.on ?_|(apply Rx.gd (fun hg hgp=>?_) (fun hg hgp=>?_) <;> try (cases hg;done))|(apply Rx.cd (fun hb hbp=>?_) (fun hb hbp=>?_) <;> try (cases hb;done))|apply Wp.seq ?_|(apply Wp.ops' fun K hK=>?_)|apply Wp.block ?_|apply Rx.sk ?_|apply Rx.rt ?_|apply Rx.xt ?_)
          all_goals (refine ⟨eI,_,eR,?_⟩;try simp only [oneOr])
          dsimp only at hc
          rw [hc]
          exact ⟨rfl,(hf2.trans hf3).trans hf4,hI4⟩
        | true =>
          repeat' (first
             | (apply Rx.nl ?_;clear hK K)|apply Rx.o ?_|apply Rx.on ?_|(apply Rx.gd (fun hg hgp=>?_) (fun hg hgp=>?_) <;> try (cases hg;done))|(apply Rx.cd (fun hb hbp=>?_) (fun hb hbp=>?_) <;> try (cases hb;done))|apply Wp.seq ?_|(apply Wp.ops' fun K hK=>?_)|apply Wp.block ?_|apply Rx.sk ?_|apply Rx.rt ?_|apply Rx.xt ?_)
          refine WpL.call rfl eVk eAk ?_;simp only [List.cons_append,List.nil_append,List.append_nil]
          have hrec:=walkStmts_wp hw hI hq n x.thn (by omega) (w64 (d + 1)) s3 H4 (by omega) (by omega) hI4
          refine WpCall.mono ?_ hrec
          rintro v H5 ⟨rfl,hf5,hI5⟩
          generalize hq2:walkS q x.thn (w64 (d + 1)) s3=r2 at *
          obtain ⟨ok2,s4⟩:=r2
          have hg5:H5.get H2.next=some (.cells x.cells 0 true):=by rw [hf5.get _ hb2 hn4];exact hg4
          have hn5:H2.next < H5.next:=Nat.lt_of_lt_of_le hn4 hf5.next
          dsimp only [setO]
          cases ok2 with
          | false =>
            repeat' (first
               | (apply Rx.nl ?_;clear hK K)|apply Rx.o ?_|apply Rx.on ?_|(apply Rx.gd (fun hg hgp=>?_) (fun hg hgp=>?_) <;> try (cases hg;done))|(apply Rx.cd (fun hb hbp=>?_) (fun hb hbp=>?_) <;> try (cases hb;done))|apply Wp.seq ?_|(apply Wp.ops' fun K hK=>?_)|apply Wp.block ?_|apply Rx.sk ?_|apply Rx.rt ?_|apply Rx.xt ?_)
            all_goals (refine ⟨eI,_,eR,?_⟩;try simp only [oneOr])
            simp only [hq2] at hc
            rw [hc]
            exact ⟨rfl,((hf2.trans hf3).trans hf4).trans hf5,hI5⟩
          | true =>
            repeat' (first
               | (apply Rx.nl ?_;clear hK K)|apply Rx.o ?_|apply Rx.on ?_|(apply Rx.gd (fun hg hgp=>?_) (fun hg hgp=>?_) <;> try (cases hg;done))|(apply Rx.cd (fun hb hbp=>?_) (fun hb hbp=>?_) <;> try (cases hb;done))|apply Wp.seq ?_|(apply Wp.ops' fun K hK=>?_)|apply Wp.block ?_|apply Rx.sk ?_|apply Rx.rt ?_|apply Rx.xt ?_)
            refine WpL.call rfl eVk eAk ?_;simp only [List.cons_append,List.nil_append,List.append_nil]
            have hrec2:=walkStmts_wp hw hI hq n x.els (by omega) (w64 (d + 1)) s4 H5 (by omega) (by omega) hI5
            refine WpCall.mono ?_ hrec2
            rintro v H6 ⟨rfl,hf6,hI6⟩
            generalize hq3:walkS q x.els (w64 (d + 1)) s4=r3 at *
            obtain ⟨ok3,s5⟩:=r3
            dsimp only [setO]
            have hf7:FrB base H H6:=(((hf2.trans hf3).trans hf4).trans hf5).trans hf6
            cases ok3 with
            | false =>
              repeat' (first
                 | (apply Rx.nl ?_;clear hK K)|apply Rx.o ?_|apply Rx.on ?_|(apply Rx.gd (fun hg hgp=>?_) (fun hg hgp=>?_) <;> try (cases hg;done))|(apply Rx.cd (fun hb hbp=>?_) (fun hb hbp=>?_) <;> try (cases hb;done))|apply Wp.seq ?_|(apply Wp.ops' fun K hK=>?_)|apply Wp.block ?_|apply Rx.sk ?_|apply Rx.rt ?_|apply Rx.xt ?_)
              all_goals (refine ⟨eI,_,eR,?_⟩;try simp only [oneOr])
              simp only [hq2,hq3] at hc
              rw [hc]
              exact ⟨rfl,hf7,hI6⟩
            | true =>
              repeat' (first
                 | (apply Rx.nl ?_;clear hK K)|apply Rx.o ?_|apply Rx.on ?_|(apply Rx.gd (fun hg hgp=>?_) (fun hg hgp=>?_) <;> try (cases hg;done))|(apply Rx.cd (fun hb hbp=>?_) (fun hb hbp=>?_) <;> try (cases hb;done))|apply Wp.seq ?_|(apply Wp.ops' fun K hK=>?_)|apply Wp.block ?_|apply Rx.sk ?_|apply Rx.rt ?_|apply Rx.xt ?_)
              refine ⟨hlt,s5,?_,eE,eE,eE,eE,?_,hf7,hI6⟩
              · simp only [hq2,hq3] at hc;exact hc
              · simp only [at_set,Nat.reduceBEq,cond_true,wrap_succ (show i < 2 ^ 62 by omega)]
      · have hi3 : i = l.length := by simp at hb; omega
        all_goals (refine ⟨eI,_,eR,?_⟩;try simp only [oneOr])
        rw [hc,hi3]
        simp only [List.drop_length,walkS]
        exact ⟨trivial,hf2,hI2⟩
    · exact ⟨s,rfl,eE,eE,eE,eE,eE,FrB.refl _ _,hi⟩
end Go.Proofs.Ytackdnelcpbfjaa
namespace Go.Proofs.Ytackdnelcpbfjaa
set_option maxRecDepth 20000
set_option maxRecDepth 20000
open Go Go.Ab
namespace tyW4c
def tyF:=And.intro @tq3 (And.intro @tq9 (And.intro @tq36 (And.intro @tq37 (And.intro @tq39 (And.intro @tq46 (And.intro @tq2 (And.intro @tq35 (And.intro @tq41 (@tq125)))))))))
end tyW4c
open tyW4c
noncomputable def code68:{ c:SC // slim 24 (Try.f68.body.getD .skip)=c }:=by
 refine ⟨?_,?_⟩
 rotate_left
 · simp only [Try.f68, Option.getD_some, slim, slimR, slimL, slimD, slimG, Nat.blt, Nat.ble]
   rfl
noncomputable def code70:{ c:SC // slim 7 (Try.f70.body.getD .skip)=c }:=by
 refine ⟨?_,?_⟩
 rotate_left
 · simp only [Try.f70, Option.getD_some, slim, slimR, slimL, slimD, slimG, Nat.blt, Nat.ble]
   rfl
noncomputable def code112:{ c:SC // slim 32 (Try.f112.body.getD .skip)=c }:=by
 refine ⟨?_,?_⟩
 rotate_left
 · simp only [Try.f112, Option.getD_some, slim, slimR, slimL, slimD, slimG, Nat.blt, Nat.ble]
   rfl
noncomputable def code69:{ c:SC // slim 15 (Try.f69.body.getD .skip)=c }:=by
 refine ⟨?_,?_⟩
 rotate_left
 · simp only [Try.f69, Option.getD_some, slim, slimR, slimL, slimD, slimG, Nat.blt, Nat.ble]
   rfl
theorem lim1_wp {cfg:Cfg} (hw:Plain cfg 68) {base rn rl:Nat} (hn:rn < base) (hl:rl < base) (hne:rn ≠ rl) (Hb:Hp) :
   VisitS cfg base (fun (s:Int × Int) H=>H.get rn=some (.cells [.int .i64 s.1] 0 true) ∧ H.get rl=some (.cells [.int .i64 s.2] 0 true) ∧ ∀ r,r < base → r ≠ rn → r ≠ rl → H.get r=Hb.get r) 68 [.ptr rn 0,.ptr rl 0] limS:=by
 intro x d s H hz hbase ⟨hi1,hi2,hi3⟩
 have e1:(rn == H.next)=false:=by simp;omega
 have e2:(rl == H.next)=false:=by simp;omega
 have e3:(rl == rn)=false:=by simp;omega
 have e4:(rn == rl)=false:=by simp;omega
 have e5:(H.next == rn)=false:=by simp;omega
 have e6:(H.next == rl)=false:=by simp;omega
 refine WpCall.slim (M:=24) (rs:=[.tmp 6]) (hw.call _) hw.ice hw.froz Try.func68 rfl rfl code68.2 rfl ?_;dsimp only [code68,envOf,Nat.reduceAdd]
 repeat' (first
    | (apply Rx.nl ?_;clear hK K)|apply Rx.o ?_|apply Rx.on ?_|(apply Rx.gd (fun hg hgp=>?_) (fun hg hgp=>?_) <;> try (cases hg;done))|(apply Rx.cd (fun hb hbp=>?_) (fun hb hbp=>?_) <;> try (cases hb;done))|apply Wp.seq ?_|(apply Wp.ops' fun K hK=>?_)|apply Rx.sk ?_|apply Rx.rt ?_)
 all_goals (refine ⟨eI,_,eR,?_⟩;try simp only [oneOr])
 all_goals (refine ⟨?_,?_,?_,?_,?_⟩)
 all_goals first
   | (intro r q1 q2 q3;simp only [Hp.get_set,Hp.get_alloc,q2,q3,show ¬ r=H.next by omega,if_false];exact hi3 r q1 q2 q3)
   | exact (((FrB.refl _ _).alloc _).set (.inr hn) _).set (.inr hl) _
   | exact ((FrB.refl _ _).alloc _).set (.inr hn) _
   | (simp only [get_set,get_alloc,limS, *,cond_true,cond_false,beq_self_eq_true,Bool.false_and,Bool.and_false,Bool.true_and,Bool.and_true,if_true,if_false];done)
   | (simp_all [limS,get_set,get_alloc];done)
   | skip
theorem lim2_wp {cfg:Cfg} (hw:Plain cfg 70) {base:Nat} {I:Hp → Prop} (hI:OfLow base I):VisitE cfg base I 70 [] limE:=by
 intro x d H hz hbase hi
 refine WpCall.slim (M:=7) (rs:=[.tmp 4]) (hw.call _) hw.ice hw.froz Try.func70 rfl rfl code70.2 rfl ?_;dsimp only [code70,envOf,Nat.reduceAdd]
 repeat' (first
    | (apply Rx.nl ?_;clear hK K)|apply Rx.o ?_|apply Wp.seq ?_|(apply Wp.ops' fun K hK=>?_)|apply Rx.rt ?_)
 all_goals (refine ⟨eI,_,eR,?_⟩;try simp only [oneOr])
 exact ⟨rfl,(FrB.refl _ _).alloc _,hI _ _ hi ((Low.refl _ _).alloc hbase _)⟩
theorem inSt_wp {cfg : Cfg} (hw : Plain cfg 112) (hwe : Plain cfg 73) {base base' : Nat} (hbb : base ≤ base') {I : Hp → Prop} (hI : OfLow base I) {g : FuncId} {cap : List AV} {q : Ex → Int → Bool} (hq : VisitE cfg base I g cap q)
    {r3:Nat} (hr1:base ≤ r3) (hr2:r3 < base') (H1:Hp) :
    VisitS cfg base' (fun (_:Unit) H=>I H ∧ H.get r3=some (.cells [.clo g cap] 0 true) ∧ ∀ r,base ≤ r → r < base' → H.get r=H1.get r) 112 [.ptr r3 0] (inSt q):=by
  intro x d s H hz hbase ⟨hi,hi3,hi1⟩
  have hsz:=x.sz_eq
  have e1:(r3 == H.next)=false:=by simp;omega
  have e2:(H.next == r3)=false:=by simp;omega
  refine WpCall.slim (M:=32) (rs:=[.tmp 5]) (hw.call _) hw.ice hw.froz Try.func112 rfl rfl code112.2 rfl ?_;dsimp only [code112,envOf,Nat.reduceAdd]
  repeat' (first
     | (apply Rx.nl ?_;clear hK K)|apply Rx.o ?_|apply Rx.on ?_|(apply Rx.gd (fun hg hgp=>?_) (fun hg hgp=>?_) <;> try (cases hg;done))|(apply Rx.cd (fun hb hbp=>?_) (fun hb hbp=>?_) <;> try (cases hb;done))|apply Wp.seq ?_|(apply Wp.ops' fun K hK=>?_)|apply Wp.block ?_|apply Rx.sk ?_|apply Rx.rt ?_|apply Rx.xt ?_)
  have hIa:=hI _ _ hi ((Low.refl base H).alloc (Nat.le_trans hbb hbase) (.cells x.cells 0 true))
  refine WpL.call rfl eVk eAk ?_;simp only [List.cons_append,List.nil_append,List.append_nil]
  refine WpCall.mono ?_ (walkExpr_wp hwe hI hq (x.at_.sz + 1) x.at_ (by omega) 0 _ (by omega) (by simp only [Hp.next_alloc];omega) hIa)
  rintro v H2 ⟨rfl,hf2,hi2⟩
  have hn2:H.next < H2.next:=by have:=hf2.next;simp only [Hp.next_alloc] at this;omega
  have hg2:H2.get H.next=some (.cells x.cells 0 true):=by rw [hf2.get _ (by omega) (by simp [Hp.next_alloc]),Hp.get_alloc,if_pos rfl]
  have hr3:H2.get r3=some (.cells [.clo g cap] 0 true):=by rw [hf2.get _ hr1 (by simp only [Hp.next_alloc];omega),Hp.get_alloc,if_neg (by omega)];exact hi3
  have hF2:FrB base H H2:=((FrB.refl _ _).alloc _).trans hf2
  have hold2:∀ r,base ≤ r → r < base' → H2.get r=H1.get r:=fun r h1 h2=>by rw [hF2.get r h1 (by omega)];exact hi1 r h1 h2
  dsimp only [setO]
  repeat' (first
     | (apply Rx.nl ?_;clear hK K)|apply Rx.o ?_|apply Rx.on ?_|(apply Rx.gd (fun hg hgp=>?_) (fun hg hgp=>?_) <;> try (cases hg;done))|(apply Rx.cd (fun hb hbp=>?_) (fun hb hbp=>?_) <;> try (cases hb;done))|apply Wp.seq ?_|(apply Wp.ops' fun K hK=>?_)|apply Wp.block ?_|apply Rx.sk ?_|apply Rx.rt ?_|apply Rx.xt ?_)
  · refine WpL.call rfl eVk eAk ?_; simp only [List.cons_append, List.nil_append, List.append_nil]
    refine WpCall.mono ?_ (walkExpr_wp hwe hI hq (x.value.sz + 1) x.value (by omega) 0 _ (by omega) (by omega) hi2)
    rintro v H3 ⟨rfl,hf3,hi3'⟩
    have hn3:H.next < H3.next:=Nat.lt_of_lt_of_le hn2 hf3.next
    have hg3:H3.get H.next=some (.cells x.cells 0 true):=by rw [hf3.get _ (by omega) hn2];exact hg2
    have hr3b:H3.get r3=some (.cells [.clo g cap] 0 true):=by rw [hf3.get _ hr1 (by omega)];exact hr3
    have hF3:FrB base H H3:=hF2.trans hf3
    have hold3:∀ r,base ≤ r → r < base' → H3.get r=H1.get r:=fun r h1 h2=>by rw [hf3.get r h1 (by omega)];exact hold2 r h1 h2
    dsimp only [setO]
    repeat' (first
       | (apply Rx.nl ?_;clear hK K)|apply Rx.o ?_|apply Rx.on ?_|(apply Rx.gd (fun hg hgp=>?_) (fun hg hgp=>?_) <;> try (cases hg;done))|(apply Rx.cd (fun hb hbp=>?_) (fun hb hbp=>?_) <;> try (cases hb;done))|apply Wp.seq ?_|(apply Wp.ops' fun K hK=>?_)|apply Wp.block ?_|apply Rx.sk ?_|apply Rx.rt ?_|apply Rx.xt ?_)
    · all_goals (refine ⟨eI, _, eR, ?_⟩; try simp only [oneOr])
      exact ⟨by simp_all [inSt],hF3.weak hbb,hi3',hr3b,hold3⟩
    have hl:x.args.length < 2 ^ 60:=by have:=exprsSz_len x.args;omega
    refine Wp.loopN (fun i E H2=>walkEs q x.args 0=walkEs q (x.args.drop i) 0 ∧ E.at 2=.ptr r3 0 ∧ E.at 21=.lst (x.args.map Ex.cells) ∧ E.at 22=.int .i64 x.args.length ∧ E.at 23=.int .i64 i ∧ FrB base H H2 ∧ I H2 ∧ H2.get r3=some (.cells [.clo g cap] 0 true) ∧ (∀ r,base ≤ r → r < base' → H2.get r=H1.get r)) x.args.length ?_ ?_
    · rintro i E H4 hi2 ⟨hc, h2, h21, h22, h23, hf4, hI4, hr4, hold4⟩
      have hn4:=hf4.next
      have e3:(r3 == H4.next)=false:=by simp;omega
      repeat' (first
         | (apply Rx.nl ?_;clear hK K)|apply Rx.o ?_|apply Rx.on ?_|(apply Rx.gd (fun hg hgp=>?_) (fun hg hgp=>?_) <;> try (cases hg;done))|(apply Rx.cd (fun hb hbp=>?_) (fun hb hbp=>?_) <;> try (cases hb;done))|apply Wp.seq ?_|(apply Wp.ops' fun K hK=>?_)|apply Wp.block ?_|apply Rx.sk ?_|apply Rx.rt ?_|apply Rx.xt ?_)
      · have hlt : i < x.args.length := by simpa using hb
        have hgx:x.args[i]?=some x.args[i]:=List.getElem?_eq_getElem hlt
        repeat' (first
           | (apply Rx.nl ?_;clear hK K)|apply Rx.o ?_|apply Rx.on ?_|(apply Rx.gd (fun hg hgp=>?_) (fun hg hgp=>?_) <;> try (cases hg;done))|(apply Rx.cd (fun hb hbp=>?_) (fun hb hbp=>?_) <;> try (cases hb;done))|apply Wp.seq ?_|(apply Wp.ops' fun K hK=>?_)|apply Wp.block ?_|apply Rx.sk ?_|apply Rx.rt ?_|apply Rx.xt ?_)
        have hxm:x.args[i] ∈ x.args:=List.getElem_mem hlt
        have hsm:=exprsSz_mem hxm
        have hb4:base ≤ H4.next:=by omega
        generalize hH5:(H4.alloc _).set H4.next _=H5
        have hf5:FrB base H4 H5:=by rw [← hH5];exact ((FrB.refl _ _).alloc _).set (.inl (Nat.le_refl _)) _
        have hlow5:Low base H4 H5:=by rw [← hH5];exact ((Low.refl _ _).alloc hb4 _).set hb4 _
        have hn5:H4.next < H5.next:=by rw [← hH5];simp only [Hp.next_alloc,Hp.next_set];omega
        refine WpL.call rfl eVk eAk ?_;simp only [List.cons_append,List.nil_append,List.append_nil]
        refine WpCall.mono ?_ (walkExpr_wp hwe hI hq (x.args[i].sz + 1) x.args[i] (by omega) 0 _ (by omega) (by omega) (hI _ _ hI4 hlow5))
        rintro v H6 ⟨rfl,hf6,hi6⟩
        have hF6:FrB base H4 H6:=hf5.trans hf6
        have hr6:H6.get r3=some (.cells [.clo g cap] 0 true):=by rw [hF6.get _ hr1 (by omega)];exact hr4
        have hold6:∀ r,base ≤ r → r < base' → H6.get r=H1.get r:=fun r h1 h2=>by rw [hF6.get r h1 (by omega)];exact hold4 r h1 h2
        dsimp only [setO]
        repeat' (first
           | (apply Rx.nl ?_;clear hK K)|apply Rx.o ?_|apply Rx.on ?_|(apply Rx.gd (fun hg hgp=>?_) (fun hg hgp=>?_) <;> try (cases hg;done))|(apply Rx.cd (fun hb hbp=>?_) (fun hb hbp=>?_) <;> try (cases hb;done))|apply Wp.seq ?_|(apply Wp.ops' fun K hK=>?_)|apply Wp.block ?_|apply Rx.sk ?_|apply Rx.rt ?_|apply Rx.xt ?_)
        · all_goals (refine ⟨eI, _, eR, ?_⟩; try simp only [oneOr])
          refine ⟨?_,(hf4.trans hF6).weak hbb,hi6,hr6,hold6⟩
          have:=walkEs_drop q hlt 0
          simp_all [inSt]
        · refine ⟨hlt, ?_, eE, eE, eE, ?_, hf4.trans hF6, hi6, hr6, hold6⟩
          · rw [hc,walkEs_drop q hlt];simp_all
          · simp only [at_set,Nat.reduceBEq,cond_true,wrap_succ (show i < 2 ^ 62 by omega)]
      · have hi3 : i = x.args.length := by simp at hb; omega
        all_goals (refine ⟨eI,_,eR,?_⟩;try simp only [oneOr])
        refine ⟨?_,hf4.weak hbb,hI4,hr4,hold4⟩
        rw [hi3] at hc
        simp_all [inSt,walkEs]
    · exact ⟨rfl,eE,eE,eE,eE,hF3,hi3',hr3b,hold3⟩
  · all_goals (refine ⟨eI, _, eR, ?_⟩; try simp only [oneOr])
    exact ⟨by simp_all [inSt],hF2.weak hbb,hi2,hr3,hold2⟩
end Go.Proofs.Ytackdnelcpbfjaa
namespace Go.Proofs.Ytackdnelcpbfjaa
set_option maxRecDepth 20000
set_option maxRecDepth 20000
open Go Go.Ab
namespace tyW4d
def tyF:=And.intro @tq2 (And.intro @tq3 (And.intro @tq9 (And.intro @tq35 (And.intro @tq36 (And.intro @tq37 (And.intro @tq39 (And.intro @tq41 (And.intro @tq46 (@tq125)))))))))
end tyW4d
open tyW4d
structure Plains (cfg:Cfg):Prop where
 we:Plain cfg 73
 ws:Plain cfg 67
 wx:Plain cfg 69
 wx1:Plain cfg 112
theorem walkExprs_wp {cfg : Cfg} (hp : Plains cfg) {base : Nat} {I : Hp → Prop} (hI : OfLow base I) {g : FuncId} {cap : List AV} {q : Ex → Int → Bool} (hq : VisitE cfg base I g cap q) (x : Fu) (H : Hp) (hz : x.sz < 2 ^ 60) (hbase : base ≤ H.next) (hi : I H) :
    WpCall Try.prog cfg 69 [.agg x.cells,.clo g cap] H fun v H'=>v=.bool (walkFn q x) ∧ FrB base H H' ∧ I H':=by
  have hw:=hp.wx
  have hsz:x.sz=1 + x.name.length + strsSz x.params + strsSz x.locals + stmtsSz x.body + x.value.sz:=rfl
  refine WpCall.slim (M:=15) (rs:=[.tmp 4]) (hw.call _) hw.ice hw.froz Try.func69 rfl rfl code69.2 rfl ?_;dsimp only [code69,envOf,Nat.reduceAdd]
  repeat' (first
     | (apply Rx.nl ?_;clear hK K)|apply Rx.o ?_|(apply Rx.gd (fun hg hgp=>?_) (fun hg hgp=>?_) <;> try (cases hg;done))|apply Wp.seq ?_|(apply Wp.ops' fun K hK=>?_)|apply Rx.rt ?_)
  generalize hH1:(H.alloc (.cells x.cells 0 true)).alloc (.cells [.clo g cap] 0 true)=H1
  have hf1:FrB base H H1:=by rw [← hH1];exact ((FrB.refl _ _).alloc _).alloc _
  have hl1:Low base H H1:=by rw [← hH1];exact ((Low.refl _ _).alloc hbase _).alloc (by simp only [Hp.next_alloc];omega) _
  have hn1:H1.next=H.next + 2:=by rw [← hH1];rfl
  have hga:H1.get H.next=some (.cells x.cells 0 true):=by rw [← hH1,Hp.get_alloc,if_neg (by simp [Hp.next_alloc]),Hp.get_alloc,if_pos rfl]
  have hgb:H1.get (H.next + 1)=some (.cells [.clo g cap] 0 true):=by rw [← hH1,Hp.get_alloc,if_pos (by simp [Hp.next_alloc])]
  refine WpL.call rfl eVk eAk ?_;simp only [List.cons_append,List.nil_append,List.append_nil]
  refine WpCall.mono ?_ (walkExpr_wp hp.we hI hq (x.value.sz + 1) x.value (by omega) 0 H1 (by omega) (by omega) (hI _ _ hi hl1))
  rintro v H2 ⟨rfl,hf2,hi2⟩
  have hn2:=hf2.next
  have hga2:H2.get H.next=some (.cells x.cells 0 true):=by rw [hf2.get _ hbase (by omega)];exact hga
  have hgb2:H2.get (H.next + 1)=some (.cells [.clo g cap] 0 true):=by rw [hf2.get _ (by omega) (by omega)];exact hgb
  dsimp only [setO]
  repeat' (first
     | (apply Rx.nl ?_;clear hK K)|apply Rx.o ?_|(apply Rx.gd (fun hg hgp=>?_) (fun hg hgp=>?_) <;> try (cases hg;done))|apply Wp.seq ?_|(apply Wp.ops' fun K hK=>?_)|apply Rx.rt ?_)
  · refine WpL.call rfl eVk eAk ?_; simp only [List.cons_append, List.nil_append, List.append_nil]
    refine WpCall.mono ?_ (walkStmts_wp hp.ws (base:=H.next + 2) (I:=fun (_:Unit) H'=>I H' ∧ H'.get (H.next + 1)=some (.cells [.clo g cap] 0 true) ∧ ∀ r,base ≤ r → r < H.next + 2 → H'.get r=H2.get r) ?_ (inSt_wp hp.wx1 hp.we (by omega) hI hq (by omega) (by omega) H2) (stmtsSz x.body + 1) x.body (by omega) 0 () H2 (by omega) (by omega) ⟨hi2,hgb2,fun _ _ _=>rfl⟩)
    · rintro v H3 ⟨rfl, hf3, hi3, hg3, hold⟩
      have hF3:FrB base H2 H3:=⟨hf3.next,fun r h1 h2=>by
        by_cases hr:r < H.next + 2
        · exact hold r h1 hr
        · exact hf3.get r (by omega) h2⟩
      dsimp only [setO]
      repeat' (first
         | (apply Rx.nl ?_;clear hK K)|apply Rx.o ?_|(apply Rx.gd (fun hg hgp=>?_) (fun hg hgp=>?_) <;> try (cases hg;done))|apply Wp.seq ?_|(apply Wp.ops' fun K hK=>?_)|apply Rx.rt ?_)
      all_goals (refine ⟨eI,_,eR,?_⟩;try simp only [oneOr])
      exact ⟨by simp_all [walkFn],(hf1.trans hf2).trans hF3,hi3⟩
    · intro _ Ha Hb ⟨h1, h2, h3⟩ hlow
      exact ⟨hI _ _ h1 (hlow.weak (by omega)),by rw [hlow _ (by omega)];exact h2,fun r q1 q2=>by rw [hlow _ q2];exact h3 r q1 q2⟩
  · all_goals (refine ⟨eI, _, eR, ?_⟩; try simp only [oneOr])
    exact ⟨by simp_all [walkFn],hf1.trans hf2,hi2⟩
end Go.Proofs.Ytackdnelcpbfjaa
namespace Go.Proofs.Ytackdnelcpbfjaa
set_option maxRecDepth 20000
set_option maxRecDepth 20000
open Go Go.Ab
namespace tyP4f
def tyF:=And.intro @tq3 (And.intro @tq9 (And.intro @tq35 (And.intro @tq132 (And.intro @tq176 (And.intro @tq2 (And.intro @tq37 (And.intro @tq39 (And.intro @tq30 (And.intro @tq36 (And.intro @tq46 (@tq104)))))))))))
end tyP4f
open tyP4f
noncomputable def code78:{ c:SC // slim 26 (Try.f78.body.getD .skip)=c }:=by
 refine ⟨?_,?_⟩
 rotate_left
 · simp only [Try.f78, Option.getD_some, slim, slimR, slimL, slimD, slimG, Nat.blt, Nat.ble]
   rfl
noncomputable def code79:{ c:SC // slim 27 (Try.f79.body.getD .skip)=c }:=by
 refine ⟨?_,?_⟩
 rotate_left
 · simp only [Try.f79, Option.getD_some, slim, slimR, slimL, slimD, slimG, Nat.blt, Nat.ble]
   rfl
noncomputable def code80:{ c:SC // slim 49 (Try.f80.body.getD .skip)=c }:=by
 refine ⟨?_,?_⟩
 rotate_left
 · simp only [Try.f80, Option.getD_some, slim, slimR, slimL, slimD, slimG, Nat.blt, Nat.ble]
   rfl
theorem hasS_addS (l:List (List UInt8)) (a s:List UInt8):hasS (addS l a) s=(hasS l s || hasS [a] s):=by
 unfold addS
 split
 · rename_i h
   rw [hasS_one]
   by_cases e:s=a
   · rw [e,h];rfl
   · rw [decide_eq_false e,Bool.or_false]
 · rw [hasS_append]
theorem set_wp {cfg:Cfg} (hw:Plain cfg 78) {H:Hp} {r imm:Nat} {x:List (List (List UInt8))} (hg:H.get r=some (.cells (x.map lstS) imm true)) (hr:r < H.next) (hx:rwOk x) :
   WpCall Try.prog cfg 78 [.sl r 0 x.length 1] H fun v H'=>v=.map H.next ∧ (∃ l,H'.get H.next=some (.map (bEs l)) ∧ ∀ s,hasS l s=hasS x.flatten s) ∧ (∀ k,k < H.next → H'.get k=H.get k) ∧ H.next < H'.next:=by
 obtain ⟨hx1,hx2⟩:=hx
 have hnm:=aeval_nm
 refine WpCall.slim (M:=26) (rs:=[.tmp 2]) (hw.call _) hw.ice hw.froz Try.func78 rfl rfl code78.2 rfl ?_;dsimp only [code78,envOf,Nat.reduceAdd]
 repeat' (first
    | (apply Rx.nl ?_;clear hK K)|apply Rx.o ?_|apply Rx.on ?_|(apply Rx.cd (fun hb hbp=>?_) (fun hb hbp=>?_) <;> try (cases hb;done))|apply Wp.seq ?_|(apply Wp.ops' fun K hK=>?_)|apply Wp.block ?_|apply Rx.sk ?_|apply Rx.rt ?_|apply Rx.xt ?_)
 refine Wp.forI [2,3,9,10] [] 11 x.length (fun i E H2=>(∃ l,H2.get H.next=some (.map (bEs l)) ∧ ∀ s,hasS l s=hasS (x.take i).flatten s) ∧ ∀ k,k < H.next → H2.get k=H.get k) eE ⟨⟨[],by rw [Hp.get_alloc,if_pos (by rfl)];rfl,fun s=>rfl⟩,fun k hk=>by rw [Hp.get_alloc,if_neg (by omega)]⟩ ?_
 rintro i E H2 hi hcE hrH hnH hsI ⟨⟨l,hm,hl⟩,hold⟩
 (try simp only [forall_cons,forall_nil,and_true,sB,sO,Nat.reduceBEq,Nat.reduceAdd,Nat.reduceLeDiff,tyF, *] at hcE)
 (try simp only [forall_cons,forall_nil,and_true,sB,sO,Nat.reduceBEq,Nat.reduceAdd,Nat.reduceLeDiff,tyF, *] at hrH)
 (try simp only [Hp.next_alloc,Hp.next_set,H0_next,Nat.zero_add,Nat.reduceAdd] at hnH)
 repeat' (first
    | (apply Rx.nl ?_;clear hK K)|apply Rx.o ?_|apply Rx.on ?_|(apply Rx.cd (fun hb hbp=>?_) (fun hb hbp=>?_) <;> try (cases hb;done))|apply Wp.seq ?_|(apply Wp.ops' fun K hK=>?_)|apply Wp.block ?_|apply Rx.sk ?_|apply Rx.rt ?_|apply Rx.xt ?_)
 · have hlt : i < x.length := by simpa using hb
   have hgx:x[i]?=some x[i]:=List.getElem?_eq_getElem hlt
   have hsm:=hx2 _ (List.getElem_mem hlt)
   have hg2:H2.get r=some (.cells (x.map lstS) imm true):=by rw [hold r hr];exact hg
   have htk:(x.take (i + 1)).flatten=(x.take i).flatten ++ x[i]:=by rw [List.take_add_one,hgx,List.flatten_append];simp
   generalize x[i]=row at *
   repeat' (first
      | (apply Rx.nl ?_;clear hK K)|apply Ry.o ?_|apply Wp.seq ?_|(apply Wp.ops' fun K hK=>?_)|apply Wp.block ?_|apply Rx.sk ?_|apply Rx.rt ?_|apply Rx.xt ?_)
   refine Wp.forI [2,3,9,10,11,15,16] [] 17 row.length (fun j E H3=>(∃ l,H3.get H.next=some (.map (bEs l)) ∧ ∀ s,hasS l s=hasS ((x.take i).flatten ++ row.take j) s) ∧ ∀ k,k < H.next → H3.get k=H.get k) eE ⟨⟨l,hm,fun s=>by rw [hl,List.take_zero,List.append_nil]⟩,hold⟩ ?_
   clear hm hl l hold hg2
   rintro j E3 H3 hj hcE hrH hnH hsI ⟨⟨l,hm,hl⟩,hold⟩
   (try simp only [forall_cons,forall_nil,and_true,sB,sO,Nat.reduceBEq,Nat.reduceAdd,Nat.reduceLeDiff,tyF, *] at hcE)
   (try simp only [forall_cons,forall_nil,and_true,sB,sO,Nat.reduceBEq,Nat.reduceAdd,Nat.reduceLeDiff,tyF, *] at hrH)
   (try simp only [Hp.next_alloc,Hp.next_set,H0_next,Nat.zero_add,Nat.reduceAdd] at hnH)
   repeat' (first
      | (apply Rx.nl ?_;clear hK K)|apply Rx.o ?_|apply Rx.on ?_|(apply Rx.cd (fun hb hbp=>?_) (fun hb hbp=>?_) <;> try (cases hb;done))|apply Wp.seq ?_|(apply Wp.ops' fun K hK=>?_)|apply Wp.block ?_|apply Rx.sk ?_|apply Rx.rt ?_|apply Rx.xt ?_)
   · have hlt2 : j < row.length := by simpa using hb
     have hgx2:row[j]?=some row[j]:=List.getElem?_eq_getElem hlt2
     have hup:=upd_bEs hm row[j]
     have htk2:row.take (j + 1)=row.take j ++ [row[j]]:=by rw [List.take_add_one,hgx2];rfl
     repeat' (first
        | (apply Rx.nl ?_;clear hK K)|apply Rx.o ?_|apply Rx.on ?_|(apply Rx.cd (fun hb hbp=>?_) (fun hb hbp=>?_) <;> try (cases hb;done))|apply Wp.seq ?_|(apply Wp.ops' fun K hK=>?_)|apply Wp.block ?_|apply Rx.sk ?_|apply Rx.rt ?_|apply Rx.xt ?_)
     refine ⟨by omega,eL,eL,eN,(by simp only [sB,Nat.reduceBEq, *];exact i64_succ (n:=row.length) (by omega) (by omega)),?_⟩
     refine ⟨⟨addS l row[j],by rw [Hp.get_set,if_pos (by rfl)],fun s=>?_⟩,fun k hk=>by rw [Hp.get_set,if_neg (by omega)];exact hold k hk⟩
     rw [hasS_addS,hl,htk2,← List.append_assoc,hasS_append ((x.take i).flatten ++ row.take j)]
   · have hje : j = row.length := by simp at hb; omega
     repeat' (first
        | (apply Rx.nl ?_;clear hK K)|apply Rx.o ?_|apply Rx.on ?_|(apply Rx.cd (fun hb hbp=>?_) (fun hb hbp=>?_) <;> try (cases hb;done))|apply Wp.seq ?_|(apply Wp.ops' fun K hK=>?_)|apply Wp.block ?_|apply Rx.sk ?_|apply Rx.rt ?_|apply Rx.xt ?_)
     refine ⟨by omega,eL,eL,eN,(by simp only [sB,Nat.reduceBEq, *];exact i64_succ (n:=x.length) (by omega) (by omega)),?_⟩
     exact ⟨⟨l,hm,fun s=>by rw [hl,htk,hje,List.take_length]⟩,hold⟩
 · repeat' (first
      | (apply Rx.nl ?_;clear hK K)|apply Rx.o ?_|apply Rx.on ?_|(apply Rx.cd (fun hb hbp=>?_) (fun hb hbp=>?_) <;> try (cases hb;done))|apply Wp.seq ?_|(apply Wp.ops' fun K hK=>?_)|apply Wp.block ?_|apply Rx.sk ?_|apply Rx.rt ?_|apply Rx.xt ?_)
   all_goals (refine ⟨eI,_,eR,?_⟩;try simp only [oneOr])
   have hie:i=x.length:=by simp at hb;omega
   refine ⟨trivial,⟨l,hm,fun s=>by rw [hl,hie,List.take_length]⟩,hold,by omega⟩
structure Rs where
 r12:Nat
 mv:Nat
 r5:Nat
 ma:Nat
 r6:Nat
 mf:Nat
 r9:Nat
structure RsOk (X:Rs) (vs an:List (List UInt8)) (fm:List (Nm × Int)) (H:Hp):Prop where
 b12:H.get X.r12=some (.cells [.map X.mv] 0 true)
 bv:∃ l,H.get X.mv=some (.map (bEs l)) ∧ ∀ s,hasS l s=hasS vs s
 b5:H.get X.r5=some (.cells [.map X.ma] 0 true)
 ba:∃ l,H.get X.ma=some (.map (bEs l)) ∧ ∀ s,hasS l s=hasS an s
 b6:H.get X.r6=some (.cells [.map X.mf] 0 true)
 bf:H.get X.mf=some (.map (vEs fm))
structure RsLt (X:Rs) (n:Nat):Prop where
 l12:X.r12 < n
 lv:X.mv < n
 l5:X.r5 < n
 la:X.ma < n
 l6:X.r6 < n
 lf:X.mf < n
structure RsNe (X:Rs):Prop where
 l12:X.r12 ≠ X.r9
 lv:X.mv ≠ X.r9
 l5:X.r5 ≠ X.r9
 la:X.ma ≠ X.r9
 l6:X.r6 ≠ X.r9
 lf:X.mf ≠ X.r9
theorem RsOk.keep {X:Rs} {vs an:List (List UInt8)} {fm:List (Nm × Int)} {H H':Hp} (h:RsOk X vs an fm H) (h12:H'.get X.r12=H.get X.r12) (hv:H'.get X.mv=H.get X.mv) (h5:H'.get X.r5=H.get X.r5) (ha:H'.get X.ma=H.get X.ma) (h6:H'.get X.r6=H.get X.r6) (hf:H'.get X.mf=H.get X.mf):RsOk X vs an fm H' where
 b12:=by rw [h12];exact h.b12
 bv:=by rw [hv];exact h.bv
 b5:=by rw [h5];exact h.b5
 ba:=by rw [ha];exact h.ba
 b6:=by rw [h6];exact h.b6
 bf:=by rw [hf];exact h.bf
theorem RsOk.low {X:Rs} {vs an:List (List UInt8)} {fm:List (Nm × Int)} {H H':Hp} {n:Nat} (h:RsOk X vs an fm H) (hl:RsLt X n) (k:Low n H H'):RsOk X vs an fm H':=
 h.keep (k _ hl.l12) (k _ hl.lv) (k _ hl.l5) (k _ hl.la) (k _ hl.l6) (k _ hl.lf)
theorem res1_wp {cfg:Cfg} (hw:Plain cfg 79) {X:Rs} {vs an:List (List UInt8)} {fm:List (Nm × Int)} {base:Nat} (hl:RsLt X base) {I:Hp → Prop} (hI:OfLow base I) (hR:∀ H,I H → RsOk X vs an fm H) :
   VisitE cfg base I 79 [.ptr X.r12 0,.ptr X.r5 0] fun x _=>defX vs an x:=by
 intro x d H hz hbase hi
 obtain ⟨h12,⟨lv,hv1,hv2⟩,h5,⟨la,ha1,ha2⟩,h6,hf⟩:=hR H hi
 have l12:=hl.l12
 have llv:=hl.lv
 have l5:=hl.l5
 have lla:=hl.la
 have g12:(H.alloc (.cells x.cells 0 true)).get X.r12=some (.cells [.map X.mv] 0 true):=by rw [Hp.get_alloc,if_neg (by omega)];exact h12
 have g5:(H.alloc (.cells x.cells 0 true)).get X.r5=some (.cells [.map X.ma] 0 true):=by rw [Hp.get_alloc,if_neg (by omega)];exact h5
 have gv:(H.alloc (.cells x.cells 0 true)).get X.mv=some (.map (bEs lv)):=by rw [Hp.get_alloc,if_neg (by omega)];exact hv1
 have ga:(H.alloc (.cells x.cells 0 true)).get X.ma=some (.map (bEs la)):=by rw [Hp.get_alloc,if_neg (by omega)];exact ha1
 have kv:=look_bEs gv x.name
 have ka:=look_bEs ga x.name
 rw [hv2] at kv
 rw [ha2] at ka
 clear h12 h5 hv1 ha1 gv ga hv2 ha2 hf h6
 have e12:(X.r12 == H.next)=false:=ne_beq (by omega)
 have e5:(X.r5 == H.next)=false:=ne_beq (by omega)
 simp only [List.append_nil,List.cons_append,List.nil_append]
 refine WpCall.slim (M:=27) (rs:=[.tmp 6]) (hw.call _) hw.ice hw.froz Try.func79 rfl rfl code79.2 rfl ?_;dsimp only [code79,envOf,Nat.reduceAdd]
 repeat' (first
    | (apply Rx.nl ?_;clear hK K)|apply Rx.o ?_|apply Rx.gu ?_|(apply Rx.gd (fun hg hgp=>?_) (fun hg hgp=>?_) <;> try (cases hg;done))|apply Wp.seq ?_|(apply Wp.ops' fun K hK=>?_)|apply Rx.rt ?_)
 all_goals
   all_goals (refine ⟨eI,_,eR,?_⟩;try simp only [oneOr])
   refine ⟨?_,(FrB.refl _ _).alloc _,hI _ _ hi ((Low.refl _ _).alloc hbase _)⟩
   rw [defX]
   (try simp only [Bool.not_eq_true',Bool.not_eq_false'] at *);simp only [*,decide_true,decide_false,Bool.false_or,Bool.or_false,Bool.true_or,Bool.or_true,Bool.false_and,Bool.and_false,Bool.true_and,Bool.and_true,Bool.not_true,Bool.not_false,if_true,if_false,Int.reduceEq]
theorem keyS4:keyKind Try.prog 9=some .string:=by kernel_rfl
def wI (w:Bool):Int:=if w=true then 5 else 0
theorem res2_wp {cfg:Cfg} (hw:Plain cfg 80) {X:Rs} {vs an:List (List UInt8)} {fm:List (Nm × Int)} {base:Nat} (hl:RsLt X base) (h9:X.r9 < base) (hne:RsNe X) :
   VisitS cfg base (fun (w:Bool) H=>RsOk X vs an fm H ∧ H.get X.r9=some (.cells [.int .i64 (wI w)] 0 true)) 80 [.ptr X.r12 0,.ptr X.r5 0,.ptr X.r6 0,.ptr X.r9 0] (rsS fm vs an):=by
 intro x d w H hz hbase hi
 obtain ⟨hok,hw9⟩:=hi
 have hok':=hok
 obtain ⟨h12,⟨lv,hv1,hv2⟩,h5,⟨la,ha1,ha2⟩,h6,hf⟩:=hok
 have l12:=hl.l12
 have llv:=hl.lv
 have l5:=hl.l5
 have lla:=hl.la
 have l6:=hl.l6
 have llf:=hl.lf
 have hlow:Low base H (H.alloc (.cells x.cells 0 true)):=(Low.refl _ _).alloc hbase _
 have g12:(H.alloc (.cells x.cells 0 true)).get X.r12=some (.cells [.map X.mv] 0 true):=by rw [hlow _ l12];exact h12
 have g5:(H.alloc (.cells x.cells 0 true)).get X.r5=some (.cells [.map X.ma] 0 true):=by rw [hlow _ l5];exact h5
 have g6:(H.alloc (.cells x.cells 0 true)).get X.r6=some (.cells [.map X.mf] 0 true):=by rw [hlow _ l6];exact h6
 have g9:(H.alloc (.cells x.cells 0 true)).get X.r9=some (.cells [.int .i64 (wI w)] 0 true):=by rw [hlow _ h9];exact hw9
 have gv:(H.alloc (.cells x.cells 0 true)).get X.mv=some (.map (bEs lv)):=by rw [hlow _ llv];exact hv1
 have ga:(H.alloc (.cells x.cells 0 true)).get X.ma=some (.map (bEs la)):=by rw [hlow _ lla];exact ha1
 have gf:(H.alloc (.cells x.cells 0 true)).get X.mf=some (.map (vEs fm)):=by rw [hlow _ llf];exact hf
 have gb:(H.alloc (.cells x.cells 0 true)).get H.next=some (.cells x.cells 0 true):=by rw [Hp.get_alloc,if_pos (by rfl)]
 have kv:=look_bEs gv x.name
 have ka:=look_bEs ga x.name
 have kf:=look_ok (P:=Try.prog) (t:=104) Try.underlying104 keyS4 (by kernel_rfl) gf x.to
 rw [hv2] at kv
 rw [ha2] at ka
 have hlen:=exprsSz_len x.args
 have hsz:=x.sz_eq
 have hok1:RsOk X vs an fm (H.alloc (.cells x.cells 0 true)):=hok'.low hl hlow
 have hx0:∀ a b,Ab.extract (.tup [a,b]) 0=some a:=fun _ _=>rfl
 have hx1:∀ a b,Ab.extract (.tup [a,b]) 1=some b:=fun _ _=>rfl
 have hfr:FrB base H (H.alloc (.cells x.cells 0 true)):=(FrB.refl _ _).alloc _
 have hfr2:FrB base H ((H.alloc (.cells x.cells 0 true)).set X.r9 (.cells [.int .i64 5] 0 true)):=hfr.set (.inr h9) _
 have hok2:RsOk X vs an fm ((H.alloc (.cells x.cells 0 true)).set X.r9 (.cells [.int .i64 5] 0 true)):=hok1.keep (by rw [Hp.get_set,if_neg hne.l12]) (by rw [Hp.get_set,if_neg hne.lv]) (by rw [Hp.get_set,if_neg hne.l5]) (by rw [Hp.get_set,if_neg hne.la]) (by rw [Hp.get_set,if_neg hne.l6]) (by rw [Hp.get_set,if_neg hne.lf])
 have hw2:((H.alloc (.cells x.cells 0 true)).set X.r9 (.cells [.int .i64 5] 0 true)).get X.r9=some (.cells [.int .i64 (wI true)] 0 true):=by rw [Hp.get_set,if_pos rfl];rfl
 have s12:((H.alloc (.cells x.cells 0 true)).set X.r9 (.cells [.int .i64 5] 0 true)).get X.r12=some (.cells [.map X.mv] 0 true):=hok2.b12
 have sb:((H.alloc (.cells x.cells 0 true)).set X.r9 (.cells [.int .i64 5] 0 true)).get H.next=some (.cells x.cells 0 true):=by rw [Hp.get_set,if_neg (by omega)];exact gb
 have sv:lookupA Try.prog ((H.alloc (.cells x.cells 0 true)).set X.r9 (.cells [.int .i64 5] 0 true)) 132 (.map X.mv) (.str x.name) false=some (.bool (hasS vs x.name)):=by
   obtain ⟨l,q1,q2⟩:=hok2.bv
   rw [look_bEs q1,q2]
 clear h12 hv1 hv2 h5 ha1 ha2 h6 hf gv ga gf hok' hw9 hlow
 have e12:(X.r12 == H.next)=false:=ne_beq (by omega)
 have e5:(X.r5 == H.next)=false:=ne_beq (by omega)
 have e6:(X.r6 == H.next)=false:=ne_beq (by omega)
 have e9:(X.r9 == H.next)=false:=ne_beq (by omega)
 have d12:(X.r12 == X.r9)=false:=ne_beq hne.l12
 have dn:(H.next == X.r9)=false:=ne_beq (by omega)
 simp only [List.append_nil,List.cons_append,List.nil_append]
 refine WpCall.slim (M:=49) (rs:=[.tmp 8]) (hw.call _) hw.ice hw.froz Try.func80 rfl rfl code80.2 rfl ?_;dsimp only [code80,envOf,Nat.reduceAdd]
 repeat' (first
    | (apply Rx.nl ?_;clear hK K)|apply Rx.o ?_|apply Rx.on ?_|(apply Rx.gd (fun hg hgp=>?_) (fun hg hgp=>?_) <;> try (cases hg;done))|(apply Rx.cd (fun hb hbp=>?_) (fun hb hbp=>?_) <;> try (cases hb;done))|apply Wp.seq ?_|(apply Wp.ops' fun K hK=>?_)|apply Wp.block ?_|apply Rx.sk ?_|apply Rx.rt ?_)
 all_goals
   all_goals (refine ⟨eI,_,eR,?_⟩;try simp only [oneOr])
   first
   | refine ⟨?_,hfr,hok1,?_⟩
   | refine ⟨?_,hfr2,hok2,?_⟩
   all_goals
     (try rw [g9])
     (try rw [hw2])
     clear g12 g5 g6 g9 kv ka kf hx0 hx1 gb s12 sb sv hok1 hok2 hfr hfr2 hw2 e12 e5 e6 e9 d12 dn hl hne hlen hsz
     simp_all [rsS,wI]
end Go.Proofs.Ytackdnelcpbfjaa
namespace Go.Proofs.Ytackdnelcpbfjaa
set_option maxRecDepth 20000
set_option maxRecDepth 20000
open Go Go.Ab
namespace tyP4g
def tyF:=And.intro @tq3 (And.intro @tq9 (And.intro @tq22 (And.intro @tq23 (And.intro @tq25 (And.intro @tq30 (And.intro @tq35 (And.intro @tq36 (And.intro @tq39 (And.intro @tq41 (And.intro @tq46 (And.intro @tq104 (And.intro @tq132 (And.intro @tq176 (And.intro @bsR1 (@bsR2)))))))))))))))
end tyP4g
open tyP4g
noncomputable def code39:{ c:SC // slim 67 (Try.f39.body.getD .skip)=c }:=by
 refine ⟨?_,?_⟩
 rotate_left
 · simp only [Try.f39, Option.getD_some, slim, slimR, slimL, slimD, slimG, Nat.blt, Nat.ble]
   rfl
noncomputable def levRes:List En:=[enDecl]
theorem levRes_ok (ρ:Nat → Int):EnsOk Try.prog ρ levRes:=⟨enDecl_ok ρ,trivial⟩
set_option maxRecDepth 100000 in
theorem resolve_con (ρ : Nat → Int) (p : Pr) (hz : p.sz < 2 ^ 36) : Con Try.prog ρ 39 (prE p) (.int .i64 (resP p)) := Con.lev fit (pls := pls) (levRes_ok ρ) (.cons (.agg p.pure) .nil) (.int _ _) (by
  have hw:Plain (cfgN pls levRes) 39:=plainN (fun _=>rfl) rfl
  have kd:∀ H,WpCall Try.prog (cfgN pls levRes) 76 [.agg p.cells] H fun v H'=>v=.tup [lstS (arNames p),lstS (fnNms p)] ∧ H'=H:=fun H=>WpCall.en (enc:=prE) (out:=fun p=>.tup [lstS (arNames p),lstS (fnNms p)]) prE_inj (x:=p) rfl hz
  have hps:Plains (cfgN pls levRes):=⟨plainN (fun _=>rfl) rfl,plainN (fun _=>rfl) rfl,plainN (fun _=>rfl) rfl,plainN (fun _=>rfl) rfl⟩
  have hpz:p.sz=1 + arrsSz p.arrays + fnsSz p.funcs:=rfl
  have hla:=arrsSz_len p.arrays
  have hlf:=fnsSz_len p.funcs
  have hal:(arNames p).length=p.arrays.length:=by simp [arNames]
  have hfl:(fnNms p).length=p.funcs.length:=by simp [fnNms]
  have hx0:∀ a b,Ab.extract (.tup [a,b]) 0=some a:=fun _ _=>rfl
  have hx1:∀ a b,Ab.extract (.tup [a,b]) 1=some b:=fun _ _=>rfl
  have hnm:=aeval_nm
  rw [prE]
  refine WpCall.slim (M:=67) (rs:=[.tmp 2]) (hw.call _) hw.ice hw.froz Try.func39 rfl rfl code39.2 rfl ?_;dsimp only [code39,envOf,Nat.reduceAdd]
  repeat' (first
     | (apply Rx.nl ?_;clear hK K)|apply Rx.o ?_|apply Rx.on ?_|(apply Rx.call ?_;first|refine Rx.k (kd _) ?_)|(apply Rx.gd (fun hg hgp=>?_) (fun hg hgp=>?_) <;> try (cases hg;done))|(apply Rx.cd (fun hb hbp=>?_) (fun hb hbp=>?_) <;> try (cases hb;done))|apply Wp.seq ?_|(apply Wp.ops' fun K hK=>?_)|(apply Rx.dr 6 fun K hK=>?_)|apply Wp.block ?_|apply Rx.sk ?_|apply Rx.rt ?_|apply Rx.xt ?_)
  refine WpL.call rfl eVk eAk ?_;simp only [List.cons_append,List.nil_append,List.append_nil]
  refine WpCall.mono ?_ (set_wp (x:=[arNames p]) (imm:=0) (plainN (fun _=>rfl) rfl) (by rw [Hp.get_alloc,if_pos (by rfl)];rfl) (Nat.lt_succ_self _) ⟨by simp,by simp;omega⟩)
  rintro v H2 ⟨rfl,⟨la,hma,hla2⟩,hold,hlt2⟩
  simp only [Hp.next_alloc,H0_next] at hma hold hlt2
  rw [show ([arNames p]:List (List (List UInt8))).flatten=arNames p by simp] at hla2
  have g20:H2.get 0=some (.cells p.cells 0 true):=by rw [hold 0 (by omega),Hp.get_alloc,if_neg (by simp),Hp.get_alloc,if_pos (by rfl)]
  clear hold
  dsimp only [setO]
  repeat' (first
     | (apply Rx.nl ?_;clear hK K)|apply Rx.o ?_|apply Rx.on ?_|(apply Rx.gd (fun hg hgp=>?_) (fun hg hgp=>?_) <;> try (cases hg;done))|(apply Rx.cd (fun hb hbp=>?_) (fun hb hbp=>?_) <;> try (cases hb;done))|apply Wp.seq ?_|(apply Wp.ops' fun K hK=>?_)|(apply Rx.dr 6 fun K hK=>?_)|apply Wp.block ?_|apply Rx.sk ?_|apply Rx.rt ?_|apply Rx.xt ?_)
  generalize hHs:Hp.set (Hp.set _ _ _) _ _=Hs
  have ns:H2.next + 3 ≤ Hs.next:=by rw [← hHs];exact Nat.le_refl _
  have gs0:Hs.get 0=some (.cells p.cells 0 true):=by rw [← hHs,Hp.get_set,if_neg (by omega),Hp.get_set,if_neg (by omega),Hp.get_alloc,if_neg (by simp only [Hp.next_alloc];omega),Hp.get_alloc,if_neg (by simp only [Hp.next_alloc];omega),Hp.get_alloc,if_neg (by omega)];exact g20
  have gsa:Hs.get 2=some (.map (bEs la)):=by rw [← hHs,Hp.get_set,if_neg (by omega),Hp.get_set,if_neg (by omega),Hp.get_alloc,if_neg (by simp only [Hp.next_alloc];omega),Hp.get_alloc,if_neg (by simp only [Hp.next_alloc];omega),Hp.get_alloc,if_neg (by omega)];exact hma
  have gs5:Hs.get (H2.next + 1)=some (.cells [.map 2] 0 true):=by rw [← hHs,Hp.get_set,if_neg (by omega),Hp.get_set,if_pos (by rfl)]
  have gs6:Hs.get (H2.next + 2)=some (.cells [.map H2.next] 0 true):=by rw [← hHs,Hp.get_set,if_pos (by rfl)]
  have gsf:Hs.get H2.next=some (.map (vEs [])):=by rw [← hHs,Hp.get_set,if_neg (by omega),Hp.get_set,if_neg (by omega),Hp.get_alloc,if_neg (by simp only [Hp.next_alloc];omega),Hp.get_alloc,if_neg (by simp only [Hp.next_alloc];omega),Hp.get_alloc,if_pos (by rfl)];rfl
  clear hHs hma
  have hlt2':3 ≤ H2.next:=by omega
  clear hlt2
  have hE0:(0 == H2.next)=false:=ne_beq (by omega)
  have hE2:(2 == H2.next)=false:=ne_beq (by omega)
  refine Wp.forI [1,2,5,6,23,24] [0,2,H2.next + 1,H2.next + 2] 25 p.funcs.length (fun i E H=>∃ m,fnPar (p.funcs.drop i) m=fnPar p.funcs [] ∧ H.get H2.next=some (.map (vEs m))) eE ⟨[],by simp,gsf⟩ ?_
  rintro i E H3 hi hcE hrH hnH hsI ⟨m,hJ,hm⟩
  (try simp only [forall_cons,forall_nil,and_true,sB,sO,Nat.reduceBEq,Nat.reduceAdd,Nat.reduceLeDiff,tyF,gs0,gsa,gs5,gs6, *] at hcE)
  (try simp only [forall_cons,forall_nil,and_true,sB,sO,Nat.reduceBEq,Nat.reduceAdd,Nat.reduceLeDiff,tyF,gs0,gsa,gs5,gs6, *] at hrH)
  (try simp only [Hp.next_alloc,Hp.next_set,H0_next,Nat.zero_add,Nat.reduceAdd] at hnH)
  have hB0:(0 == H3.next)=false:=ne_beq (by omega)
  have hC0:(H3.next == 0)=false:=ne_beq (by omega)
  have hB1:(2 == H3.next)=false:=ne_beq (by omega)
  have hC1:(H3.next == 2)=false:=ne_beq (by omega)
  have hB2:(H2.next + 1 == H3.next)=false:=ne_beq (by omega)
  have hC2:(H3.next == H2.next + 1)=false:=ne_beq (by omega)
  have hB3:(H2.next + 2 == H3.next)=false:=ne_beq (by omega)
  have hC3:(H3.next == H2.next + 2)=false:=ne_beq (by omega)
  obtain ⟨h30,h3a,h35,h36⟩:=hrH
  repeat' (first
     | (apply Rx.nl ?_;clear hK K)|apply Rx.o ?_|apply Rx.on ?_|(apply Rx.gd (fun hg hgp=>?_) (fun hg hgp=>?_) <;> try (cases hg;done))|(apply Rx.cd (fun hb hbp=>?_) (fun hb hbp=>?_) <;> try (cases hb;done))|apply Wp.seq ?_|(apply Wp.ops' fun K hK=>?_)|(apply Rx.dr 6 fun K hK=>?_)|apply Wp.block ?_|apply Rx.sk ?_|apply Rx.rt ?_|apply Rx.xt ?_)
  · have hlt : i < p.funcs.length := by simpa using hb
    have hgx:p.funcs[i]?=some p.funcs[i]:=List.getElem?_eq_getElem hlt
    have hgn:(fnNms p)[i]?=some p.funcs[i].name:=by rw [fnNms,List.getElem?_map,hgx];rfl
    have hu:=upd_vEs (P:=Try.prog) (t:=104) Try.underlying104 keyS4 hm p.funcs[i].name p.funcs[i].params.length
    rw [List.drop_eq_getElem_cons hlt,fnPar] at hJ
    repeat' (first
       | (apply Rx.nl ?_;clear hK K)|apply Rx.o ?_|apply Rx.on ?_|(apply Rx.gd (fun hg hgp=>?_) (fun hg hgp=>?_) <;> try (cases hg;done))|(apply Rx.cd (fun hb hbp=>?_) (fun hb hbp=>?_) <;> try (cases hb;done))|apply Wp.seq ?_|(apply Wp.ops' fun K hK=>?_)|(apply Rx.dr 6 fun K hK=>?_)|apply Wp.block ?_|apply Rx.sk ?_|apply Rx.rt ?_|apply Rx.xt ?_)
    refine ⟨by omega,eL,eL,eN,(by simp only [sB,Nat.reduceBEq, *];exact i64_succ (n:=p.funcs.length) (by omega) (by omega)),?_⟩
    exact ⟨_,hJ,by rw [Hp.get_set,if_pos rfl]⟩
  · have hie : i = p.funcs.length := by simp at hb; omega
    rw [hie,List.drop_length,fnPar] at hJ
    subst hJ
    clear hie hsI hi hb hbp
    repeat' (first
       | (apply Rx.nl ?_;clear hK K)|apply Rx.o ?_|apply Rx.on ?_|(apply Rx.gd (fun hg hgp=>?_) (fun hg hgp=>?_) <;> try (cases hg;done))|(apply Rx.cd (fun hb hbp=>?_) (fun hb hbp=>?_) <;> try (cases hb;done))|apply Wp.seq ?_|(apply Wp.ops' fun K hK=>?_)|(apply Rx.dr 6 fun K hK=>?_)|apply Wp.block ?_|apply Rx.sk ?_|apply Rx.rt ?_|apply Rx.xt ?_)
    generalize hHq:Hp.set (Hp.alloc H3 _) _ _=Hq
    have nq:H3.next + 1 ≤ Hq.next:=by rw [← hHq];exact Nat.le_refl _
    have oldq:∀ k,k < H3.next → Hq.get k=H3.get k:=fun k hk=>by rw [← hHq,Hp.get_set,if_neg (by omega),Hp.get_alloc,if_neg (by omega)]
    have q9:Hq.get H3.next=some (.cells [.int .i64 (wI false)] 0 true):=by rw [← hHq,Hp.get_set,if_pos rfl];rfl
    clear hHq
    refine Wp.forI [5,6,9,41,42] [] 43 p.funcs.length (fun i E H=>∃ w,H.get H3.next=some (.cells [.int .i64 (wI w)] 0 true) ∧ resP p=resFns (fnPar p.funcs []) (arNames p) (p.funcs.drop i) w ∧ H.get (H2.next + 1)=some (.cells [.map 2] 0 true) ∧ (∃ l,H.get 2=some (.map (bEs l)) ∧ ∀ s,hasS l s=hasS (arNames p) s) ∧ H.get (H2.next + 2)=some (.cells [.map H2.next] 0 true) ∧ H.get H2.next=some (.map (vEs (fnPar p.funcs [])))) eE ⟨false,q9,rfl,by rw [oldq _ (by omega)];exact h35,⟨la,by rw [oldq _ (by omega)];exact h3a,hla2⟩,by rw [oldq _ (by omega)];exact h36,by rw [oldq _ (by omega)];exact hm⟩ ?_
    clear hm hla2 la h30 h3a h35 h36 gs0 gsa gs5 gs6 gsf q9 oldq
    rintro i E H4 hi hcE hrH hnH hsI ⟨w,g9,hJ,g5,⟨la,ga,hla⟩,g6,gf⟩
    (try simp only [forall_cons,forall_nil,and_true,sB,sO,Nat.reduceBEq,Nat.reduceAdd,Nat.reduceLeDiff,tyF, *] at hcE)
    (try simp only [forall_cons,forall_nil,and_true,sB,sO,Nat.reduceBEq,Nat.reduceAdd,Nat.reduceLeDiff,tyF, *] at hrH)
    (try simp only [Hp.next_alloc,Hp.next_set,H0_next,Nat.zero_add,Nat.reduceAdd] at hnH)
    repeat' (first
       | (apply Rx.nl ?_;clear hK K)|apply Rx.o ?_|apply Rx.on ?_|(apply Rx.gd (fun hg hgp=>?_) (fun hg hgp=>?_) <;> try (cases hg;done))|(apply Rx.cd (fun hb hbp=>?_) (fun hb hbp=>?_) <;> try (cases hb;done))|apply Wp.seq ?_|(apply Wp.ops' fun K hK=>?_)|(apply Rx.dr 6 fun K hK=>?_)|apply Wp.block ?_|apply Rx.sk ?_|apply Rx.rt ?_|apply Rx.xt ?_)
    · have hlt : i < p.funcs.length := by simpa using hb
      have hgx:p.funcs[i]?=some p.funcs[i]:=List.getElem?_eq_getElem hlt
      have hsm:=fnsSz_mem (List.getElem_mem hlt)
      have hsz:p.funcs[i].sz=1 + p.funcs[i].name.length + strsSz p.funcs[i].params + strsSz p.funcs[i].locals + stmtsSz p.funcs[i].body + p.funcs[i].value.sz:=rfl
      have hpl:=strsSz_len p.funcs[i].params
      have hll:=strsSz_len p.funcs[i].locals
      have hdr:resFns (fnPar p.funcs []) (arNames p) (p.funcs.drop i) w=if walkFn (fun x _=>defX (p.funcs[i].params ++ p.funcs[i].locals) (arNames p) x) p.funcs[i]=true ∧ (walkS (rsS (fnPar p.funcs []) (p.funcs[i].params ++ p.funcs[i].locals) (arNames p)) p.funcs[i].body 0 w).1=true then resFns (fnPar p.funcs []) (arNames p) (p.funcs.drop (i + 1)) (walkS (rsS (fnPar p.funcs []) (p.funcs[i].params ++ p.funcs[i].locals) (arNames p)) p.funcs[i].body 0 w).2 else 3:=by rw [List.drop_eq_getElem_cons hlt];rfl
      rw [hdr] at hJ
      clear hdr
      have hfz:p.funcs[i].sz < 2 ^ 60:=by omega
      generalize p.funcs[i]=g at *
      repeat' (first
         | (apply Rx.nl ?_;clear hK K)|apply Rx.o ?_|apply Rx.on ?_|(apply Rx.gd (fun hg hgp=>?_) (fun hg hgp=>?_) <;> try (cases hg;done))|(apply Rx.cd (fun hb hbp=>?_) (fun hb hbp=>?_) <;> try (cases hb;done))|apply Wp.seq ?_|(apply Wp.ops' fun K hK=>?_)|(apply Rx.dr 6 fun K hK=>?_)|apply Wp.block ?_|apply Rx.sk ?_|apply Rx.rt ?_|apply Rx.xt ?_)
      generalize hHb:Hp.alloc (Hp.set _ _ _) _=Hb
      have nb:Hb.next=H4.next + 2:=by rw [← hHb];rfl
      have oldb:∀ k,k < H4.next → Hb.get k=H4.get k:=fun k hk=>by rw [← hHb,Hp.get_alloc,if_neg (by simp only [Hp.next_set,Hp.next_alloc];omega),Hp.get_set,if_neg (by omega),Hp.get_alloc,if_neg (by omega)]
      have gbr:Hb.get (H4.next + 1)=some (.cells [lstS g.params,lstS g.locals] 0 true):=by rw [← hHb,Hp.get_alloc,if_pos (by rfl)]
      have gb11:Hb.get H4.next=some (.cells g.cells 0 true):=by rw [← hHb,Hp.get_alloc,if_neg (by simp only [Hp.next_set,Hp.next_alloc];omega),Hp.get_set,if_pos rfl]
      clear hHb
      refine WpL.call rfl eVk eAk ?_;simp only [List.cons_append,List.nil_append,List.append_nil]
      refine WpCall.mono ?_ (set_wp (x:=[g.params,g.locals]) (imm:=0) (plainN (fun _=>rfl) rfl) gbr (by omega) ⟨by simp,by simp;omega⟩)
      rintro v H5 ⟨rfl,⟨lv,hmv,hlv⟩,old5,n5⟩
      rw [show ([g.params,g.locals]:List (List (List UInt8))).flatten=g.params ++ g.locals by simp] at hlv
      have o5:∀ k,k < H4.next → H5.get k=H4.get k:=fun k hk=>by rw [old5 k (by omega),oldb k hk]
      have g511:H5.get H4.next=some (.cells g.cells 0 true):=by rw [old5 _ (by omega)];exact gb11
      have g59:H5.get H3.next=some (.cells [.int .i64 (wI w)] 0 true):=by rw [o5 _ (by omega)];exact g9
      have g55:H5.get (H2.next + 1)=some (.cells [.map 2] 0 true):=by rw [o5 _ (by omega)];exact g5
      have g5a:H5.get 2=some (.map (bEs la)):=by rw [o5 _ (by omega)];exact ga
      have g56:H5.get (H2.next + 2)=some (.cells [.map H2.next] 0 true):=by rw [o5 _ (by omega)];exact g6
      have g5f:H5.get H2.next=some (.map (vEs (fnPar p.funcs []))):=by rw [o5 _ (by omega)];exact gf
      clear o5 old5 gbr gb11 oldb g9 g5 ga g6 gf
      have e1:(H4.next == H5.next)=false:=ne_beq (by omega)
      dsimp only [setO]
      repeat' (first
         | (apply Rx.nl ?_;clear hK K)|apply Rx.o ?_|apply Rx.on ?_|(apply Rx.gd (fun hg hgp=>?_) (fun hg hgp=>?_) <;> try (cases hg;done))|(apply Rx.cd (fun hb hbp=>?_) (fun hb hbp=>?_) <;> try (cases hb;done))|apply Wp.seq ?_|(apply Wp.ops' fun K hK=>?_)|(apply Rx.dr 6 fun K hK=>?_)|apply Wp.block ?_|apply Rx.sk ?_|apply Rx.rt ?_|apply Rx.xt ?_)
      generalize hHd:Hp.set (Hp.alloc H5 _) _ _=Hd
      have nd:Hd.next=H5.next + 1:=by rw [← hHd];rfl
      have oldd:∀ k,k < H5.next → Hd.get k=H5.get k:=fun k hk=>by rw [← hHd,Hp.get_set,if_neg (by omega),Hp.get_alloc,if_neg (by omega)]
      have d12:Hd.get H5.next=some (.cells [.map Hb.next] 0 true):=by rw [← hHd,Hp.get_set,if_pos rfl,nb]
      clear hHd
      have hok:RsOk ⟨H5.next,Hb.next,H2.next + 1,2,H2.next + 2,H2.next,H3.next⟩ (g.params ++ g.locals) (arNames p) (fnPar p.funcs []) Hd:={
        b12:=d12
        bv:=⟨lv,by show Hd.get Hb.next=_;rw [oldd _ n5];exact hmv,hlv⟩
        b5:=by show Hd.get (H2.next + 1)=_;rw [oldd _ (by omega)];exact g55
        ba:=⟨la,by show Hd.get 2=_;rw [oldd _ (by omega)];exact g5a,hla⟩
        b6:=by show Hd.get (H2.next + 2)=_;rw [oldd _ (by omega)];exact g56
        bf:=by show Hd.get H2.next=_;rw [oldd _ (by omega)];exact g5f }
      have hd9:Hd.get H3.next=some (.cells [.int .i64 (wI w)] 0 true):=by rw [oldd _ (by omega)];exact g59
      have hd11:Hd.get H4.next=some (.cells g.cells 0 true):=by rw [oldd _ (by omega)];exact g511
      have hlX:∀ n,Hd.next ≤ n → RsLt ⟨H5.next,Hb.next,H2.next + 1,2,H2.next + 2,H2.next,H3.next⟩ n:=fun n hn=>⟨by show H5.next < n;omega,by show Hb.next < n;omega,by show H2.next + 1 < n;omega,by show 2 < n;omega,by show H2.next + 2 < n;omega,by show H2.next < n;omega⟩
      have hnX:RsNe ⟨H5.next,Hb.next,H2.next + 1,2,H2.next + 2,H2.next,H3.next⟩:=⟨by show H5.next ≠ H3.next;omega,by show Hb.next ≠ H3.next;omega,by show H2.next + 1 ≠ H3.next;omega,by show 2 ≠ H3.next;omega,by show H2.next + 2 ≠ H3.next;omega,by show H2.next ≠ H3.next;omega⟩
      clear g59 g55 g5a g56 g5f d12 oldd hmv hlv hla g511
      refine WpL.call rfl eVk eAk ?_;simp only [List.cons_append,List.nil_append,List.append_nil]
      refine WpCall.mono ?_ (walkExprs_wp hps (I:=fun H'=>Low Hd.next Hd H') (fun a b h1 h2=>h1.trans h2) (res1_wp (plainN (fun _=>rfl) rfl) (hlX _ (Nat.le_refl _)) (fun a b h1 h2=>h1.trans h2) fun H' h=>hok.low (hlX _ (Nat.le_refl _)) h) g Hd hfz (Nat.le_refl _) (Low.refl _ _))
      rintro v H6 ⟨rfl,hf6,hlow6⟩
      have n6:=hf6.next
      have hok6:=hok.low (hlX _ (Nat.le_refl _)) hlow6
      have h69:H6.get H3.next=some (.cells [.int .i64 (wI w)] 0 true):=by rw [hlow6 _ (by omega)];exact hd9
      have h611:H6.get H4.next=some (.cells g.cells 0 true):=by rw [hlow6 _ (by omega)];exact hd11
      clear hlow6 hf6 hok hd9 hd11
      dsimp only [setO]
      cases hwf:walkFn (fun x _=>defX (g.params ++ g.locals) (arNames p) x) g with
      | false =>
        repeat' (first
           | (apply Rx.nl ?_;clear hK K)|apply Rx.o ?_|apply Rx.on ?_|(apply Rx.gd (fun hg hgp=>?_) (fun hg hgp=>?_) <;> try (cases hg;done))|(apply Rx.cd (fun hb hbp=>?_) (fun hb hbp=>?_) <;> try (cases hb;done))|apply Wp.seq ?_|(apply Wp.ops' fun K hK=>?_)|(apply Rx.dr 6 fun K hK=>?_)|apply Wp.block ?_|apply Rx.sk ?_|apply Rx.rt ?_|apply Rx.xt ?_)
        all_goals (refine ⟨eI,_,eR,?_⟩;try simp only [oneOr])
        rw [hJ,hwf];simp
      | true =>
        rw [hwf] at hJ
        repeat' (first
           | (apply Rx.nl ?_;clear hK K)|apply Rx.o ?_|apply Rx.on ?_|(apply Rx.gd (fun hg hgp=>?_) (fun hg hgp=>?_) <;> try (cases hg;done))|(apply Rx.cd (fun hb hbp=>?_) (fun hb hbp=>?_) <;> try (cases hb;done))|apply Wp.seq ?_|(apply Wp.ops' fun K hK=>?_)|(apply Rx.dr 6 fun K hK=>?_)|apply Wp.block ?_|apply Rx.sk ?_|apply Rx.rt ?_|apply Rx.xt ?_)
        refine WpL.call rfl eVk eAk ?_;simp only [List.cons_append,List.nil_append,List.append_nil]
        refine WpCall.mono ?_ (walkStmts_wp (plainN (fun _=>rfl) rfl) (base:=H6.next) (I:=fun (w:Bool) H=>RsOk ⟨H5.next,Hb.next,H2.next + 1,2,H2.next + 2,H2.next,H3.next⟩ (g.params ++ g.locals) (arNames p) (fnPar p.funcs []) H ∧ H.get H3.next=some (.cells [.int .i64 (wI w)] 0 true)) (fun s a b h1 h2=>⟨h1.1.low (hlX _ n6) h2,by rw [h2 _ (by omega)];exact h1.2⟩) (res2_wp (plainN (fun _=>rfl) rfl) (hlX _ n6) (by show H3.next < _;omega) hnX) (stmtsSz g.body + 1) g.body (by omega) 0 w H6 (by omega) (Nat.le_refl _) ⟨hok6,h69⟩)
        rintro v H7 ⟨rfl,hf7,hok7,h79⟩
        have n7:=hf7.next
        dsimp only [setO]
        repeat' (first
           | (apply Rx.nl ?_;clear hK K)|apply Rx.o ?_|apply Rx.on ?_|(apply Rx.gd (fun hg hgp=>?_) (fun hg hgp=>?_) <;> try (cases hg;done))|(apply Rx.cd (fun hb hbp=>?_) (fun hb hbp=>?_) <;> try (cases hb;done))|apply Wp.seq ?_|(apply Wp.ops' fun K hK=>?_)|(apply Rx.dr 6 fun K hK=>?_)|apply Wp.block ?_|apply Rx.sk ?_|apply Rx.rt ?_|apply Rx.xt ?_)
        · all_goals (refine ⟨eI, _, eR, ?_⟩; try simp only [oneOr])
          rw [hJ];simp_all
        · refine ⟨by omega, eL, eL, eN, (by simp only [sB, Nat.reduceBEq, *]; exact i64_succ (n := p.funcs.length) (by omega) (by omega)), ?_⟩
          refine ⟨_,h79,?_,hok7.b5,hok7.ba,hok7.b6,hok7.bf⟩
          rw [hJ,if_pos ⟨rfl,by simp_all⟩]
    · repeat' (first
         | (apply Rx.nl ?_;clear hK K)|apply Rx.o ?_|apply Rx.on ?_|(apply Rx.gd (fun hg hgp=>?_) (fun hg hgp=>?_) <;> try (cases hg;done))|(apply Rx.cd (fun hb hbp=>?_) (fun hb hbp=>?_) <;> try (cases hb;done))|apply Wp.seq ?_|(apply Wp.ops' fun K hK=>?_)|(apply Rx.dr 6 fun K hK=>?_)|apply Wp.block ?_|apply Rx.sk ?_|apply Rx.rt ?_|apply Rx.xt ?_)
      all_goals (refine ⟨eI,_,eR,?_⟩;try simp only [oneOr])
      have hie:i=p.funcs.length:=by simp at hb;omega
      rw [hJ,hie,List.drop_length,resFns,wI])
end Go.Proofs.Ytackdnelcpbfjaa
namespace Go.Proofs.Ytackdnelcpbfjaa
set_option maxRecDepth 20000
set_option maxRecDepth 20000
open Go Go.Ab
namespace tyW4e
def tyF:=And.intro @tq3 (And.intro @tq9 (And.intro @tq22 (And.intro @tq23 (And.intro @tq25 (And.intro @tq35 (And.intro @tq36 (And.intro @tq39 (And.intro @tq41 (And.intro @tq44 (@tq46))))))))))
end tyW4e
open tyW4e
noncomputable def code36:{ c:SC // slim 68 (Try.f36.body.getD .skip)=c }:=by
 refine ⟨?_,?_⟩
 rotate_left
 · simp only [Try.f36, Option.getD_some, slim, slimR, slimL, slimD, slimG, Nat.blt, Nat.ble]
   rfl
theorem limits_wp {cfg : Cfg} (hp : Plains cfg) (hw : Plain cfg 36) (h1w : Plain cfg 68) (h2w : Plain cfg 70) (p : Pr) (hz : p.sz < 2 ^ 60) :
    WpCall Try.prog cfg 36 [.agg p.cells] H0 fun v _=>v=.bool (limP p):=by
  have hpz:p.sz=1 + arrsSz p.arrays + fnsSz p.funcs:=rfl
  have hla:=arrsSz_len p.arrays
  have hlf:=fnsSz_len p.funcs
  have hla2:p.arrays.length < 2 ^ 60:=by omega
  have hlf2:p.funcs.length < 2 ^ 60:=by omega
  refine WpCall.slim (M:=68) (rs:=[.tmp 2]) (hw.call _) hw.ice hw.froz Try.func36 rfl rfl code36.2 rfl ?_;dsimp only [code36,envOf,Nat.reduceAdd]
  repeat' (first
     | (apply Rx.nl ?_;clear hK K)|apply Rx.o ?_|apply Rx.on ?_|(apply Rx.gd (fun hg hgp=>?_) (fun hg hgp=>?_) <;> try (cases hg;done))|(apply Rx.cd (fun hb hbp=>?_) (fun hb hbp=>?_) <;> try (cases hb;done))|apply Wp.seq ?_|(apply Wp.ops' fun K hK=>?_)|apply Wp.block ?_|apply Rx.sk ?_|apply Rx.rt ?_|apply Rx.xt ?_)
  · all_goals (refine ⟨eI, _, eR, ?_⟩; try simp only [oneOr])
    simp_all [limP];try (intros;omega)
  · refine Wp.loopN (fun i E H => p.arrays.all (fun a => !decide (a.len < 1) && !decide (16 < a.len)) = (p.arrays.drop i).all (fun a => !decide (a.len < 1) && !decide (16 < a.len)) ∧ E.at 1 = .ptr 0 0 ∧ E.at 21 = .lst (p.arrays.map Ar.cells) ∧ E.at 22 = .int .i64 p.arrays.length ∧ E.at 23 = .int .i64 i ∧ 0 < H.next ∧ H.get 0 = some (.cells p.cells 0 true)) p.arrays.length ?_ ?_
    · rintro i E H hi ⟨hc, h1, h21, h22, h23, hn, hg0⟩
      have e0:(0 == H.next)=false:=by simp;omega
      repeat' (first
         | (apply Rx.nl ?_;clear hK K)|apply Rx.o ?_|apply Rx.on ?_|(apply Rx.gd (fun hg hgp=>?_) (fun hg hgp=>?_) <;> try (cases hg;done))|(apply Rx.cd (fun hb hbp=>?_) (fun hb hbp=>?_) <;> try (cases hb;done))|apply Wp.seq ?_|(apply Wp.ops' fun K hK=>?_)|apply Wp.block ?_|apply Rx.sk ?_|apply Rx.rt ?_|apply Rx.xt ?_)
      · have hlt : i < p.arrays.length := by simpa using hb
        have hgx:p.arrays[i]?=some p.arrays[i]:=List.getElem?_eq_getElem hlt
        have hd:(p.arrays.drop i).all (fun a=>!decide (a.len < 1) && !decide (16 < a.len))=((!decide (p.arrays[i].len < 1) && !decide (16 < p.arrays[i].len)) && (p.arrays.drop (i + 1)).all (fun a=>!decide (a.len < 1) && !decide (16 < a.len))):=by rw [List.drop_eq_getElem_cons hlt,List.all_cons]
        repeat' (first
           | (apply Rx.nl ?_;clear hK K)|apply Rx.o ?_|apply Rx.on ?_|(apply Rx.gd (fun hg hgp=>?_) (fun hg hgp=>?_) <;> try (cases hg;done))|(apply Rx.cd (fun hb hbp=>?_) (fun hb hbp=>?_) <;> try (cases hb;done))|apply Wp.seq ?_|(apply Wp.ops' fun K hK=>?_)|apply Wp.block ?_|apply Rx.sk ?_|apply Rx.rt ?_|apply Rx.xt ?_)
        · all_goals (refine ⟨eI, _, eR, ?_⟩; try simp only [oneOr])
          have hfa:p.arrays.all (fun a=>!decide (a.len < 1) && !decide (16 < a.len))=false:=by rw [hc,hd];simp_all
          simp only [limP,hfa];simp
        · refine ⟨hlt, ?_, eE, eE, eE, ?_, by simp only [Hp.next_set, Hp.next_alloc]; omega, eF⟩
          · rw [hc,hd];simp_all
          · simp only [at_set,Nat.reduceBEq,cond_true,wrap_succ (show i < 2 ^ 62 by omega)]
        · all_goals (refine ⟨eI, _, eR, ?_⟩; try simp only [oneOr])
          have hfa:p.arrays.all (fun a=>!decide (a.len < 1) && !decide (16 < a.len))=false:=by rw [hc,hd];simp_all
          simp only [limP,hfa];simp
      · have hia : i = p.arrays.length := by simp at hb; omega
        have hca:p.arrays.all (fun a=>!decide (a.len < 1) && !decide (16 < a.len))=true:=by rw [hc,hia];simp
        clear hc
        repeat' (first
           | (apply Rx.nl ?_;clear hK K)|apply Rx.o ?_|apply Rx.on ?_|(apply Rx.gd (fun hg hgp=>?_) (fun hg hgp=>?_) <;> try (cases hg;done))|(apply Rx.cd (fun hb hbp=>?_) (fun hb hbp=>?_) <;> try (cases hb;done))|apply Wp.seq ?_|(apply Wp.ops' fun K hK=>?_)|apply Wp.block ?_|apply Rx.sk ?_|apply Rx.rt ?_|apply Rx.xt ?_)
        refine Wp.loopN (fun i E H=>p.funcs.all limFn=(p.funcs.drop i).all limFn ∧ E.at 37=.lst (p.funcs.map Fu.cells) ∧ E.at 38=.int .i64 p.funcs.length ∧ E.at 39=.int .i64 i ∧ 0 < H.next) p.funcs.length ?_ ?_
        · rintro i E H hi ⟨hc, h37, h38, h39, hn⟩
          repeat' (first
             | (apply Rx.nl ?_;clear hK K)|apply Rx.o ?_|apply Rx.on ?_|(apply Rx.gd (fun hg hgp=>?_) (fun hg hgp=>?_) <;> try (cases hg;done))|(apply Rx.cd (fun hb hbp=>?_) (fun hb hbp=>?_) <;> try (cases hb;done))|apply Wp.seq ?_|(apply Wp.ops' fun K hK=>?_)|apply Wp.block ?_|apply Rx.sk ?_|apply Rx.rt ?_|apply Rx.xt ?_)
          · have hlt : i < p.funcs.length := by simpa using hb
            have hgx:p.funcs[i]?=some p.funcs[i]:=List.getElem?_eq_getElem hlt
            have hd:(p.funcs.drop i).all limFn=(limFn p.funcs[i] && (p.funcs.drop (i + 1)).all limFn):=by rw [List.drop_eq_getElem_cons hlt,List.all_cons]
            have hxm:=fnsSz_mem (List.getElem_mem hlt)
            generalize hx0:p.funcs[i]=x at *
            have hsx:x.sz=1 + x.name.length + strsSz x.params + strsSz x.locals + stmtsSz x.body + x.value.sz:=rfl
            repeat' (first
               | (apply Rx.nl ?_;clear hK K)|apply Rx.o ?_|apply Rx.on ?_|(apply Rx.gd (fun hg hgp=>?_) (fun hg hgp=>?_) <;> try (cases hg;done))|(apply Rx.cd (fun hb hbp=>?_) (fun hb hbp=>?_) <;> try (cases hb;done))|apply Wp.seq ?_|(apply Wp.ops' fun K hK=>?_)|apply Wp.block ?_|apply Rx.sk ?_|apply Rx.rt ?_|apply Rx.xt ?_)
            · generalize hH5 : Hp.set _ (H.next + 2) _ = H5
              have hn5:H5.next=H.next + 3:=by rw [← hH5];rfl
              have hg5a:H5.get H.next=some (.cells x.cells 0 true):=by rw [← hH5];simp only [get_set,get_alloc,Hp.next_alloc,Hp.next_set,nb1,nb2,nb3,Nat.add_assoc,Nat.reduceAdd,beq_self_eq_true,cond_true,cond_false,Nat.reduceBEq]
              have hg5b:H5.get (H.next + 1)=some (.cells [.int .i64 0] 0 true):=by rw [← hH5];simp only [get_set,get_alloc,Hp.next_alloc,Hp.next_set,nb1,nb2,nb3,Nat.add_assoc,Nat.reduceAdd,beq_self_eq_true,cond_true,cond_false,Nat.reduceBEq]
              have hg5c:H5.get (H.next + 2)=some (.cells [.int .i64 0] 0 true):=by rw [← hH5];simp only [get_set,get_alloc,Hp.next_alloc,Hp.next_set,nb1,nb2,nb3,Nat.add_assoc,Nat.reduceAdd,beq_self_eq_true,cond_true,cond_false,Nat.reduceBEq]
              refine WpL.call rfl eVk eAk ?_;simp only [List.cons_append,List.nil_append,List.append_nil]
              refine WpCall.mono ?_ (walkStmts_wp hp.ws (base:=H.next + 3) (fun s Ha Hb h hlow=>⟨by rw [hlow _ (by omega)];exact h.1,by rw [hlow _ (by omega)];exact h.2.1,fun r q1 q2 q3=>by rw [hlow r q1];exact h.2.2 r q1 q2 q3⟩) (lim1_wp h1w (base:=H.next + 3) (rn:=H.next + 1) (rl:=H.next + 2) (by omega) (by omega) (by omega) H5) (stmtsSz x.body + 1) x.body (by omega) 0 (0,0) H5 (by omega) (by omega) ⟨hg5b,hg5c,fun _ _ _ _=>rfl⟩)
              rintro v H6 ⟨rfl,hf6,hi6⟩
              have hn6:=hf6.next
              have hg6:H6.get H.next=some (.cells x.cells 0 true):=by rw [hi6.2.2 _ (by omega) (by omega) (by omega)];exact hg5a
              dsimp only [setO]
              repeat' (first
                 | (apply Rx.nl ?_;clear hK K)|apply Rx.o ?_|apply Rx.on ?_|(apply Rx.gd (fun hg hgp=>?_) (fun hg hgp=>?_) <;> try (cases hg;done))|(apply Rx.cd (fun hb hbp=>?_) (fun hb hbp=>?_) <;> try (cases hb;done))|apply Wp.seq ?_|(apply Wp.ops' fun K hK=>?_)|apply Wp.block ?_|apply Rx.sk ?_|apply Rx.rt ?_|apply Rx.xt ?_)
              · refine WpL.call rfl eVk eAk ?_; simp only [List.cons_append, List.nil_append, List.append_nil]
                refine WpCall.mono ?_ (walkExprs_wp hp (base:=0) (I:=fun _=>True) (fun _ _ _ _=>trivial) (lim2_wp h2w (fun _ _ _ _=>trivial)) x H6 (by omega) (by omega) trivial)
                rintro v H7 ⟨rfl,hf7,_⟩
                have hn7:=hf7.next
                dsimp only [setO]
                repeat' (first
                   | (apply Rx.nl ?_;clear hK K)|apply Rx.o ?_|apply Rx.on ?_|(apply Rx.gd (fun hg hgp=>?_) (fun hg hgp=>?_) <;> try (cases hg;done))|(apply Rx.cd (fun hb hbp=>?_) (fun hb hbp=>?_) <;> try (cases hb;done))|apply Wp.seq ?_|(apply Wp.ops' fun K hK=>?_)|apply Wp.block ?_|apply Rx.sk ?_|apply Rx.rt ?_|apply Rx.xt ?_)
                · all_goals (refine ⟨eI, _, eR, ?_⟩; try simp only [oneOr])
                  have hff:p.funcs.all limFn=false:=by rw [hc,hd];simp_all [limFn]
                  simp only [limP,hff];simp
                · refine ⟨hlt, ?_, eE, eE, ?_, by omega⟩
                  · rw [hc,hd];simp_all [limFn]
                  · simp only [at_set,Nat.reduceBEq,cond_true,wrap_succ (show i < 2 ^ 62 by omega)]
              · all_goals (refine ⟨eI, _, eR, ?_⟩; try simp only [oneOr])
                have hff:p.funcs.all limFn=false:=by rw [hc,hd];simp_all [limFn]
                simp only [limP,hff];simp
            · all_goals (refine ⟨eI, _, eR, ?_⟩; try simp only [oneOr])
              have hlx:limFn x=false:=by
                simp only [limFn,Bool.and_eq_false_iff,decide_eq_false_iff_not]
                first|exact .inl (.inl (.inl (by assumption)))|exact .inl (.inl (.inr (by assumption)))
              have hff:p.funcs.all limFn=false:=by rw [hc,hd,hlx,Bool.false_and]
              simp only [limP,hff];simp
            · all_goals (refine ⟨eI, _, eR, ?_⟩; try simp only [oneOr])
              have hlx:limFn x=false:=by
                simp only [limFn,Bool.and_eq_false_iff,decide_eq_false_iff_not]
                first|exact .inl (.inl (.inl (by assumption)))|exact .inl (.inl (.inr (by assumption)))
              have hff:p.funcs.all limFn=false:=by rw [hc,hd,hlx,Bool.false_and]
              simp only [limP,hff];simp
          · all_goals (refine ⟨eI, _, eR, ?_⟩; try simp only [oneOr])
            have:i=p.funcs.length:=by simp at hb;omega
            simp_all [limP];try (intros;omega)
        · exact ⟨rfl,eE,eE,eE,by omega⟩
    · exact ⟨rfl,eE,eE,eE,eE,by simp [Hp.next_alloc,H0_next],eF⟩
  · all_goals (refine ⟨eI, _, eR, ?_⟩; try simp only [oneOr])
    simp_all [limP];try (intros;omega)
end Go.Proofs.Ytackdnelcpbfjaa
namespace Go.Proofs.Ytackdnelcpbfjaa
set_option maxRecDepth 20000
set_option maxRecDepth 20000
open Go Go.Ab
namespace tyW4f
def tyF:=And.intro @tq3 (And.intro @tq5 (@tq9))
end tyW4f
open tyW4f
noncomputable def code165:{ c:SC // slim 21 (Try.f165.body.getD .skip)=c }:=by
 refine ⟨?_,?_⟩
 rotate_left
 · simp only [Try.f165, Option.getD_some, slim, slimR, slimL, slimD, slimG, Nat.blt, Nat.ble]
   rfl
noncomputable def code158:{ c:SC // slim 9 (Try.f158.body.getD .skip)=c }:=by
 refine ⟨?_,?_⟩
 rotate_left
 · simp only [Try.f158, Option.getD_some, slim, slimR, slimL, slimD, slimG, Nat.blt, Nat.ble]
   rfl
noncomputable def code156:{ c:SC // slim 23 (Try.f156.body.getD .skip)=c }:=by
 refine ⟨?_,?_⟩
 rotate_left
 · simp only [Try.f156, Option.getD_some, slim, slimR, slimL, slimD, slimG, Nat.blt, Nat.ble]
   rfl
noncomputable def code139:{ c:SC // slim 34 (Try.f139.body.getD .skip)=c }:=by
 refine ⟨?_,?_⟩
 rotate_left
 · simp only [Try.f139, Option.getD_some, slim, slimR, slimL, slimD, slimG, Nat.blt, Nat.ble]
   rfl
noncomputable def code159:{ c:SC // slim 37 (Try.f159.body.getD .skip)=c }:=by
 refine ⟨?_,?_⟩
 rotate_left
 · simp only [Try.f159, Option.getD_some, slim, slimR, slimL, slimD, slimG, Nat.blt, Nat.ble]
   rfl
theorem isLetter_wp {cfg:Cfg} (hw:Plain cfg 165) (n:Int) (H:Hp):WpCall Try.prog cfg 165 [.int .u8 n] H fun v H'=>v=.bool (letterI n) ∧ H'=H:=by
 refine WpCall.slim (M:=21) (rs:=[.tmp 2]) (hw.call _) hw.ice hw.froz Try.func165 rfl rfl code165.2 rfl ?_;dsimp only [code165,envOf,Nat.reduceAdd]
 repeat' (first
    | (apply Rx.nl ?_;clear hK K)|apply Rx.o ?_|apply Rx.gu ?_|(apply Rx.gd (fun hg hgp=>?_) (fun hg hgp=>?_) <;> try (cases hg;done))|apply Wp.seq ?_|(apply Wp.ops' fun K hK=>?_)|apply Rx.rt ?_)
 all_goals (refine ⟨eI,_,eR,?_⟩;try simp only [oneOr])
 all_goals (refine ⟨?_,by first|rfl|trivial⟩;simp_all [letterI] <;> omega)
theorem isDigit_wp {cfg:Cfg} (hw:Plain cfg 158) (n:Int) (H:Hp):WpCall Try.prog cfg 158 [.int .u8 n] H fun v H'=>v=.bool (digitI n) ∧ H'=H:=by
 refine WpCall.slim (M:=9) (rs:=[.tmp 2]) (hw.call _) hw.ice hw.froz Try.func158 rfl rfl code158.2 rfl ?_;dsimp only [code158,envOf,Nat.reduceAdd]
 repeat' (first
    | (apply Rx.nl ?_;clear hK K)|apply Rx.o ?_|(apply Rx.gd (fun hg hgp=>?_) (fun hg hgp=>?_) <;> try (cases hg;done))|apply Wp.seq ?_|(apply Wp.ops' fun K hK=>?_)|apply Rx.rt ?_)
 all_goals (refine ⟨eI,_,eR,?_⟩;try simp only [oneOr])
 all_goals (refine ⟨?_,by first|rfl|trivial⟩;simp_all [digitI] <;> omega)
theorem wordLen_wp {cfg : Cfg} (hw : Plain cfg 156) (hl : Plain cfg 165) (hd : Plain cfg 158) (s : List UInt8) (hs : s.length < 2 ^ 60) (H : Hp) :
    WpCall Try.prog cfg 156 [.str s] H fun v H'=>v=.int .i64 (wordN s) ∧ H'=H:=by
  refine WpCall.slim (M:=23) (rs:=[.tmp 2]) (hw.call _) hw.ice hw.froz Try.func156 rfl rfl code156.2 rfl ?_;dsimp only [code156,envOf,Nat.reduceAdd]
  repeat' (first
     | (apply Rx.nl ?_;clear hK K)|apply Rx.o ?_|apply Rx.gu ?_|(apply Rx.gd (fun hg hgp=>?_) (fun hg hgp=>?_) <;> try (cases hg;done))|(apply Rx.cd (fun hb hbp=>?_) (fun hb hbp=>?_) <;> try (cases hb;done))|apply Wp.seq ?_|(apply Wp.ops' fun K hK=>?_)|apply Wp.block ?_|apply Rx.sk ?_|apply Rx.rt ?_|apply Rx.xt ?_)
  refine Wp.loopN (fun i E H'=>wordN s=i + wordN (s.drop i) ∧ E.at 0=.str s ∧ E.at 3=.int .i64 i ∧ H'=H) s.length ?_ ?_
  · rintro i E H' hi ⟨hc, h0, h3, rfl⟩
    repeat' (first
       | (apply Rx.nl ?_;clear hK K)|apply Rx.o ?_|apply Rx.gu ?_|(apply Rx.gd (fun hg hgp=>?_) (fun hg hgp=>?_) <;> try (cases hg;done))|(apply Rx.cd (fun hb hbp=>?_) (fun hb hbp=>?_) <;> try (cases hb;done))|apply Wp.seq ?_|(apply Wp.ops' fun K hK=>?_)|apply Wp.block ?_|apply Rx.sk ?_|apply Rx.rt ?_|apply Rx.xt ?_)
    · have hlt : i < s.length := by omega
      have hgx:s[i]?=some s[i]:=List.getElem?_eq_getElem hlt
      have hdr:wordN (s.drop i)=if wordB s[i] then wordN (s.drop (i + 1)) + 1 else 0:=by rw [List.drop_eq_getElem_cons hlt,wordN]
      repeat' (first
         | (apply Rx.nl ?_;clear hK K)|apply Rx.o ?_|apply Rx.gu ?_|(apply Rx.gd (fun hg hgp=>?_) (fun hg hgp=>?_) <;> try (cases hg;done))|(apply Rx.cd (fun hb hbp=>?_) (fun hb hbp=>?_) <;> try (cases hb;done))|apply Wp.seq ?_|(apply Wp.ops' fun K hK=>?_)|apply Wp.block ?_|apply Rx.sk ?_|apply Rx.rt ?_|apply Rx.xt ?_)
      refine WpL.call rfl eVk eAk ?_;simp only [List.cons_append,List.nil_append,List.append_nil]
      refine WpCall.mono ?_ (isLetter_wp hl s[i].toNat H')
      rintro v _ ⟨rfl,rfl⟩
      dsimp only [setO]
      repeat' (first
         | (apply Rx.nl ?_;clear hK K)|apply Rx.o ?_|apply Rx.gu ?_|(apply Rx.gd (fun hg hgp=>?_) (fun hg hgp=>?_) <;> try (cases hg;done))|(apply Rx.cd (fun hb hbp=>?_) (fun hb hbp=>?_) <;> try (cases hb;done))|apply Wp.seq ?_|(apply Wp.ops' fun K hK=>?_)|apply Wp.block ?_|apply Rx.sk ?_|apply Rx.rt ?_|apply Rx.xt ?_)
      · refine WpL.call rfl eVk eAk ?_; simp only [List.cons_append, List.nil_append, List.append_nil]
        refine WpCall.mono ?_ (isDigit_wp hd s[i].toNat _)
        rintro v _ ⟨rfl,rfl⟩
        dsimp only [setO]
        repeat' (first
           | (apply Rx.nl ?_;clear hK K)|apply Rx.o ?_|apply Rx.gu ?_|(apply Rx.gd (fun hg hgp=>?_) (fun hg hgp=>?_) <;> try (cases hg;done))|(apply Rx.cd (fun hb hbp=>?_) (fun hb hbp=>?_) <;> try (cases hb;done))|apply Wp.seq ?_|(apply Wp.ops' fun K hK=>?_)|apply Wp.block ?_|apply Rx.sk ?_|apply Rx.rt ?_|apply Rx.xt ?_)
        · have hwb : wordB s[i] = true := by simp_all [wordB]
          refine ⟨hlt,?_,eE,?_,rfl⟩
          · rw [hc,hdr,hwb];simp;omega
          · simp only [at_set,Nat.reduceBEq,cond_true,wrap_succ (show i < 2 ^ 62 by omega)]
        · have hwb : wordB s[i] = false := by simp_all [wordB]
          all_goals (refine ⟨eI,_,eR,?_⟩;try simp only [oneOr])
          exact ⟨by rw [hc,hdr,hwb];simp,by first|rfl|trivial⟩
      · have hwb : wordB s[i] = true := by simp_all [wordB]
        refine ⟨hlt,?_,eE,?_,rfl⟩
        · rw [hc,hdr,hwb];simp;omega
        · simp only [at_set,Nat.reduceBEq,cond_true,wrap_succ (show i < 2 ^ 62 by omega)]
    · all_goals (refine ⟨eI, _, eR, ?_⟩; try simp only [oneOr])
      have hie:i=s.length:=by omega
      refine ⟨?_,by first|rfl|trivial⟩
      rw [hc,hie];simp [wordN]
  · exact ⟨by simp,eE,eE,rfl⟩
theorem spaceLen_wp {cfg : Cfg} (hw : Plain cfg 139) (s : List UInt8) (hs : s.length < 2 ^ 60) (H : Hp) :
    WpCall Try.prog cfg 139 [.str s] H fun v H'=>v=.int .i64 (spaceN false s) ∧ H'=H:=by
  refine WpCall.slim (M:=34) (rs:=[.tmp 2]) (hw.call _) hw.ice hw.froz Try.func139 rfl rfl code139.2 rfl ?_;dsimp only [code139,envOf,Nat.reduceAdd]
  repeat' (first
     | (apply Rx.nl ?_;clear hK K)|apply Rx.o ?_|(apply Rx.gd (fun hg hgp=>?_) (fun hg hgp=>?_) <;> try (cases hg;done))|(apply Rx.cd (fun hb hbp=>?_) (fun hb hbp=>?_) <;> try (cases hb;done))|apply Wp.seq ?_|(apply Wp.ops' fun K hK=>?_)|apply Wp.block ?_|apply Rx.sk ?_|apply Rx.rt ?_|apply Rx.xt ?_)
  refine Wp.loop (fun n E H'=>∃ i:Nat,n=s.length - i ∧ i ≤ s.length ∧ spaceN false s=i + spaceN false (s.drop i) ∧ E.at 0=.str s ∧ E.at 3=.int .i64 i ∧ H'=H) ?_ (n:=s.length) ?_
  · rintro n E H' ⟨i, rfl, hi, hc, h0, h3, rfl⟩
    repeat' (first
       | (apply Rx.nl ?_;clear hK K)|apply Rx.o ?_|(apply Rx.gd (fun hg hgp=>?_) (fun hg hgp=>?_) <;> try (cases hg;done))|(apply Rx.cd (fun hb hbp=>?_) (fun hb hbp=>?_) <;> try (cases hb;done))|apply Wp.seq ?_|(apply Wp.ops' fun K hK=>?_)|apply Wp.block ?_|apply Rx.sk ?_|apply Rx.rt ?_|apply Rx.xt ?_)
    · have hlt : i < s.length := by omega
      have hgx:s[i]?=some s[i]:=List.getElem?_eq_getElem hlt
      have hdr:spaceN false (s.drop i)=if blankB s[i] then spaceN false (s.drop (i + 1)) + 1 else if s[i].toNat=35 then spaceN true (s.drop (i + 1)) + 1 else 0:=by rw [List.drop_eq_getElem_cons hlt,spaceN]
      repeat' (first
         | (apply Rx.nl ?_;clear hK K)|apply Rx.o ?_|(apply Rx.gd (fun hg hgp=>?_) (fun hg hgp=>?_) <;> try (cases hg;done))|(apply Rx.cd (fun hb hbp=>?_) (fun hb hbp=>?_) <;> try (cases hb;done))|apply Wp.seq ?_|(apply Wp.ops' fun K hK=>?_)|apply Wp.block ?_|apply Rx.sk ?_|apply Rx.rt ?_|apply Rx.xt ?_)
      · have hbl : blankB s[i] = true := by unfold blankB; simp; omega
        refine ⟨s.length - (i + 1),by omega,i + 1,rfl,by omega,?_,eE,?_,rfl⟩
        · rw [hc,hdr,if_pos hbl];omega
        · simp only [at_set,Nat.reduceBEq,cond_true,wrap_succ (show i < 2 ^ 62 by omega)]
      · have hbl : blankB s[i] = true := by unfold blankB; simp; omega
        refine ⟨s.length - (i + 1),by omega,i + 1,rfl,by omega,?_,eE,?_,rfl⟩
        · rw [hc,hdr,if_pos hbl];omega
        · simp only [at_set,Nat.reduceBEq,cond_true,wrap_succ (show i < 2 ^ 62 by omega)]
      · have hbl : blankB s[i] = true := by unfold blankB; simp; omega
        refine ⟨s.length - (i + 1),by omega,i + 1,rfl,by omega,?_,eE,?_,rfl⟩
        · rw [hc,hdr,if_pos hbl];omega
        · simp only [at_set,Nat.reduceBEq,cond_true,wrap_succ (show i < 2 ^ 62 by omega)]
      · have hbl : blankB s[i] = true := by unfold blankB; simp; omega
        refine ⟨s.length - (i + 1),by omega,i + 1,rfl,by omega,?_,eE,?_,rfl⟩
        · rw [hc,hdr,if_pos hbl];omega
        · simp only [at_set,Nat.reduceBEq,cond_true,wrap_succ (show i < 2 ^ 62 by omega)]
      · have hb35 : s[i].toNat = 35 := by omega
        have hbl:blankB s[i]=false:=by unfold blankB;simp;omega
        have hln:lineN (s.drop i)=lineN (s.drop (i + 1)) + 1:=by rw [List.drop_eq_getElem_cons hlt,lineN,if_neg (by omega)]
        have hsp:spaceN false s=i + lineN (s.drop i) + spaceN false (s.drop (i + lineN (s.drop i))):=by
          rw [hc,hdr,hbl,if_neg (by simp),if_pos hb35,spaceN_true,List.drop_drop,hln,show i + 1 + lineN (s.drop (i + 1))=i + (lineN (s.drop (i + 1)) + 1) by omega];omega
        have hle:=lineN_le (s.drop i)
        rw [List.length_drop] at hle
        refine Wp.loop (fun n E H''=>∃ j:Nat,n=s.length - j ∧ i ≤ j ∧ j ≤ s.length ∧ i + lineN (s.drop i)=j + lineN (s.drop j) ∧ E.at 0=.str s ∧ E.at 3=.int .i64 j ∧ H''=H') ?_ (n:=s.length - i) ?_
        · rintro n E2 H2 ⟨j, rfl, hij, hj, hlj, k0, k3, rfl⟩
          repeat' (first
             | (apply Rx.nl ?_;clear hK K)|apply Rx.o ?_|(apply Rx.gd (fun hg hgp=>?_) (fun hg hgp=>?_) <;> try (cases hg;done))|(apply Rx.cd (fun hb hbp=>?_) (fun hb hbp=>?_) <;> try (cases hb;done))|apply Wp.seq ?_|(apply Wp.ops' fun K hK=>?_)|apply Wp.block ?_|apply Rx.sk ?_|apply Rx.rt ?_|apply Rx.xt ?_)
          · have hlt2 : j < s.length := by omega
            have hgx2:s[j]?=some s[j]:=List.getElem?_eq_getElem hlt2
            have hdj:lineN (s.drop j)=if s[j].toNat=10 then 0 else lineN (s.drop (j + 1)) + 1:=by rw [List.drop_eq_getElem_cons hlt2,lineN]
            repeat' (first
               | (apply Rx.nl ?_;clear hK K)|apply Rx.o ?_|(apply Rx.gd (fun hg hgp=>?_) (fun hg hgp=>?_) <;> try (cases hg;done))|(apply Rx.cd (fun hb hbp=>?_) (fun hb hbp=>?_) <;> try (cases hb;done))|apply Wp.seq ?_|(apply Wp.ops' fun K hK=>?_)|apply Wp.block ?_|apply Rx.sk ?_|apply Rx.rt ?_|apply Rx.xt ?_)
            · refine ⟨s.length - (j + 1), by omega, j + 1, rfl, by omega, by omega, ?_, eE, ?_, rfl⟩
              · rw [hlj,hdj,if_neg (by simp_all;omega)];omega
              · simp only [at_set,Nat.reduceBEq,cond_true,wrap_succ (show j < 2 ^ 62 by omega)]
            · have h10 : s[j].toNat = 10 := by simp_all; omega
              rw [hdj,if_pos h10,Nat.add_zero] at hlj
              refine ⟨s.length - j,by omega,j,rfl,by omega,?_,eE,eE,by first|rfl|trivial⟩
              rw [hsp,hlj]
          · have hje : j = s.length := by omega
            have h0j:lineN (s.drop j)=0:=by rw [hje];simp [lineN]
            rw [h0j,Nat.add_zero] at hlj
            refine ⟨s.length - j,by omega,j,rfl,by omega,?_,eE,eE,by first|rfl|trivial⟩
            rw [hsp,hlj]
        · exact ⟨i,rfl,by omega,by omega,rfl,eE,eE,rfl⟩
      · have hbl : blankB s[i] = false := by unfold blankB; simp; omega
        all_goals (refine ⟨eI,_,eR,?_⟩;try simp only [oneOr])
        refine ⟨?_,by first|rfl|trivial⟩
        rw [hc,hdr,hbl,if_neg (by simp),if_neg (by omega)];simp
    · all_goals (refine ⟨eI, _, eR, ?_⟩; try simp only [oneOr])
      have hie:i=s.length:=by omega
      refine ⟨?_,by first|rfl|trivial⟩
      rw [hc,hie];simp [spaceN]
  · exact ⟨0,by simp,by omega,by simp,eE,eE,rfl⟩
end Go.Proofs.Ytackdnelcpbfjaa
namespace Go.Proofs.Ytackdnelcpbfjaa
set_option maxRecDepth 20000
set_option maxRecDepth 20000
open Go Go.Ab
namespace tyW4g
def tyF:=And.intro @tq3 (And.intro @tq9 (And.intro @tq30 (And.intro @tq51 (And.intro @tq92 (And.intro @tq142 (And.intro @tq5 (And.intro @tq201 (And.intro @bin_sle (And.intro @slice_hi (@Try.underlying9))))))))))
end tyW4g
open tyW4g
noncomputable def code157:{ c:SC // slim 35 (Try.f157.body.getD .skip)=c }:=by
 refine ⟨?_,?_⟩
 rotate_left
 · simp only [Try.f157, Option.getD_some, slim, slimR, slimL, slimD, slimG, Nat.blt, Nat.ble]
   rfl
noncomputable def code140:{ c:SC // slim 41 (Try.f140.body.getD .skip)=c }:=by
 refine ⟨?_,?_⟩
 rotate_left
 · simp only [Try.f140, Option.getD_some, slim, slimR, slimL, slimD, slimG, Nat.blt, Nat.ble]
   rfl
noncomputable def code113:{ c:SC // slim 49 (Try.f113.body.getD .skip)=c }:=by
 refine ⟨?_,?_⟩
 rotate_left
 · simp only [Try.f113, Option.getD_some, slim, slimR, slimL, slimD, slimG, Nat.blt, Nat.ble]
   rfl
theorem validNumber_wp {cfg : Cfg} (hw : Plain cfg 159) (hd : Plain cfg 158) (s : List UInt8) (h0 : s ≠ []) (hs : s.length < 2 ^ 60) (H : Hp) :
    WpCall Try.prog cfg 159 [.str s] H fun v H'=>(∃ b,v=.bool b) ∧ H'=H:=by
  have hpos:0 < s.length:=List.length_pos_iff.2 h0
  have hg0:s[0]?=some s[0]:=List.getElem?_eq_getElem hpos
  refine WpCall.slim (M:=37) (rs:=[.tmp 2]) (hw.call _) hw.ice hw.froz Try.func159 rfl rfl code159.2 rfl ?_;dsimp only [code159,envOf,Nat.reduceAdd]
  repeat' (first
     | (apply Rx.nl ?_;clear hK K)|apply Rx.o ?_|(apply Rx.cd (fun hb hbp=>?_) (fun hb hbp=>?_) <;> try (cases hb;done))|apply Wp.seq ?_|(apply Wp.ops' fun K hK=>?_)|apply Wp.block ?_|apply Rx.sk ?_|apply Rx.rt ?_|apply Rx.xt ?_)
  refine Wp.loopN (fun i E H'=>E.at 0=.str s ∧ E.at 3=.int .i64 i ∧ H'=H) s.length ?_ ?_
  · rintro i E H' hi ⟨k0, k3, rfl⟩
    repeat' (first
       | (apply Rx.nl ?_;clear hK K)|apply Rx.o ?_|(apply Rx.cd (fun hb hbp=>?_) (fun hb hbp=>?_) <;> try (cases hb;done))|apply Wp.seq ?_|(apply Wp.ops' fun K hK=>?_)|apply Wp.block ?_|apply Rx.sk ?_|apply Rx.rt ?_|apply Rx.xt ?_)
    · have hlt : i < s.length := by omega
      have hgx:s[i]?=some s[i]:=List.getElem?_eq_getElem hlt
      repeat' (first
         | (apply Rx.nl ?_;clear hK K)|apply Rx.o ?_|(apply Rx.cd (fun hb hbp=>?_) (fun hb hbp=>?_) <;> try (cases hb;done))|apply Wp.seq ?_|(apply Wp.ops' fun K hK=>?_)|apply Wp.block ?_|apply Rx.sk ?_|apply Rx.rt ?_|apply Rx.xt ?_)
      refine WpL.call rfl eVk eAk ?_;simp only [List.cons_append,List.nil_append,List.append_nil]
      refine WpCall.mono ?_ (isDigit_wp hd s[i].toNat H')
      rintro v _ ⟨rfl,rfl⟩
      dsimp only [setO]
      repeat' (first
         | (apply Rx.nl ?_;clear hK K)|apply Rx.o ?_|(apply Rx.cd (fun hb hbp=>?_) (fun hb hbp=>?_) <;> try (cases hb;done))|apply Wp.seq ?_|(apply Wp.ops' fun K hK=>?_)|apply Wp.block ?_|apply Rx.sk ?_|apply Rx.rt ?_|apply Rx.xt ?_)
      · all_goals (refine ⟨eI, _, eR, ?_⟩; try simp only [oneOr])
        exact ⟨⟨_,rfl⟩,by first|rfl|trivial⟩
      · refine ⟨hlt, eE, ?_, by first | rfl | trivial⟩
        simp only [at_set,Nat.reduceBEq,cond_true,wrap_succ (show i < 2 ^ 62 by omega)]
    · repeat' (first
         | (apply Rx.nl ?_;clear hK K)|apply Ry.o ?_|apply Ry.gu ?_|(apply Ry.gd (fun hg hgp=>?_) (fun hg hgp=>?_) <;> try (cases hg;done))|apply Wp.seq ?_|(apply Wp.ops' fun K hK=>?_)|apply Wp.block ?_|apply Rx.sk ?_|apply Rx.rt ?_|apply Rx.xt ?_)
      all_goals (refine ⟨eI,_,eR,?_⟩;try simp only [oneOr])
      all_goals exact ⟨⟨_,rfl⟩,by first|rfl|trivial⟩
  · exact ⟨eE,eE,rfl⟩
def symsL:List (List UInt8):=[[62,62,62],[60,60],[62,62],[60,61],[62,61],[61,61],[33,61]]
theorem symbolLen_wp {cfg : Cfg} (hw : Plain cfg 157) (hplan : ∀ id, cfg.plan 157 id = .text) (s : List UInt8) (h0 : s ≠ []) (hs : s.length < 2 ^ 60) (H : Hp) :
    WpCall Try.prog cfg 157 [.str s] H fun v H'=>(∃ n:Nat,v=.int .i64 n ∧ n ≤ s.length) ∧ H'=H:=by
  have hpos:0 < s.length:=List.length_pos_iff.2 h0
  have hg0:s[0]?=some s[0]:=List.getElem?_eq_getElem hpos
  have hbld:buildA Try.prog 201 [(0,.str [62,62,62]),(1,.str [60,60]),(2,.str [62,62]),(3,.str [60,61]),(4,.str [62,61]),(5,.str [61,61]),(6,.str [33,61])]=some (.agg [.str [62,62,62],.str [60,60],.str [62,62],.str [60,61],.str [62,61],.str [61,61],.str [33,61]]):=by kernel_rfl
  refine WpCall.slim (M:=35) (rs:=[.tmp 2]) (hw.call _) hw.ice hw.froz Try.func157 rfl rfl code157.2 rfl ?_;dsimp only [code157,envOf,Nat.reduceAdd]
  repeat' (first
     | (apply Rx.nl ?_;clear hK K)|apply Rx.o ?_|(apply Rx.gd (fun hg hgp=>?_) (fun hg hgp=>?_) <;> try (cases hg;done))|(apply Rx.cd (fun hb hbp=>?_) (fun hb hbp=>?_) <;> try (cases hb;done))|apply Wp.seq ?_|(apply Wp.ops' fun K hK=>?_)|(apply Rx.dr 10 fun K hK=>?_)|apply Wp.block ?_|apply Rx.sk ?_|apply Rx.rt ?_|apply Rx.xt ?_)
  refine Wp.loopN (fun i E H'=>E.at 0=.str s ∧ E.at 6=.agg [.str [62,62,62],.str [60,60],.str [62,62],.str [60,61],.str [62,61],.str [61,61],.str [33,61]] ∧ E.at 7=.int .i64 i ∧ H'=H) 7 ?_ ?_
  · rintro i E H' hi ⟨k0, k6, k7, rfl⟩
    repeat' (first
       | (apply Rx.nl ?_;clear hK K)|apply Rx.o ?_|(apply Rx.gd (fun hg hgp=>?_) (fun hg hgp=>?_) <;> try (cases hg;done))|(apply Rx.cd (fun hb hbp=>?_) (fun hb hbp=>?_) <;> try (cases hb;done))|apply Wp.seq ?_|(apply Wp.ops' fun K hK=>?_)|(apply Rx.dr 10 fun K hK=>?_)|apply Wp.block ?_|apply Rx.sk ?_|apply Rx.rt ?_|apply Rx.xt ?_)
    · have hlt : i < 7 := by omega
      have hix:∃ w:List UInt8,indexA Try.prog 201 (.agg [.str [62,62,62],.str [60,60],.str [62,62],.str [60,61],.str [62,61],.str [61,61],.str [33,61]]) (.int .i64 i)=some (.str w):=by
        refine ⟨symsL.getD i [],?_⟩
        rcases (show i=0 ∨ i=1 ∨ i=2 ∨ i=3 ∨ i=4 ∨ i=5 ∨ i=6 by omega) with rfl|rfl|rfl|rfl|rfl|rfl|rfl <;> kernel_rfl
      obtain ⟨w,hw1⟩:=hix
      repeat' (first
         | (apply Rx.nl ?_;clear hK K)|apply Rx.o ?_|(apply Rx.gd (fun hg hgp=>?_) (fun hg hgp=>?_) <;> try (cases hg;done))|(apply Rx.cd (fun hb hbp=>?_) (fun hb hbp=>?_) <;> try (cases hb;done))|apply Wp.seq ?_|(apply Wp.ops' fun K hK=>?_)|(apply Rx.dr 10 fun K hK=>?_)|apply Wp.block ?_|apply Rx.sk ?_|apply Rx.rt ?_|apply Rx.xt ?_)
      · have hwl : w.length ≤ s.length := by omega
        repeat' (first
           | (apply Rx.nl ?_;clear hK K)|apply Rx.o ?_|(apply Rx.gd (fun hg hgp=>?_) (fun hg hgp=>?_) <;> try (cases hg;done))|(apply Rx.cd (fun hb hbp=>?_) (fun hb hbp=>?_) <;> try (cases hb;done))|apply Wp.seq ?_|(apply Wp.ops' fun K hK=>?_)|(apply Rx.dr 10 fun K hK=>?_)|apply Wp.block ?_|apply Rx.sk ?_|apply Rx.rt ?_|apply Rx.xt ?_)
        · all_goals (refine ⟨eI, _, eR, ?_⟩; try simp only [oneOr])
          exact ⟨⟨w.length,rfl,hwl⟩,by first|rfl|trivial⟩
        · refine ⟨hlt, eE, eE, ?_, by first | rfl | trivial⟩
          simp only [at_set,Nat.reduceBEq,cond_true,wrap_succ (show i < 2 ^ 62 by omega)]
      · refine ⟨hlt, eE, eE, ?_, by first | rfl | trivial⟩
        simp only [at_set,Nat.reduceBEq,cond_true,wrap_succ (show i < 2 ^ 62 by omega)]
    · repeat' (first
         | (apply Rx.nl ?_;clear hK K)|apply Rx.o ?_|(apply Rx.gd (fun hg hgp=>?_) (fun hg hgp=>?_) <;> try (cases hg;done))|(apply Rx.cd (fun hb hbp=>?_) (fun hb hbp=>?_) <;> try (cases hb;done))|apply Wp.seq ?_|(apply Wp.ops' fun K hK=>?_)|(apply Rx.dr 10 fun K hK=>?_)|apply Wp.block ?_|apply Rx.sk ?_|apply Rx.rt ?_|apply Rx.xt ?_)
      refine Wp.loopN (fun i E H''=>E.at 0=.str s ∧ E.at 5=.int .i64 i ∧ H''=H') 23 ?_ ?_
      · rintro j E H'' hj ⟨k0, k5, rfl⟩
        repeat' (first
           | (apply Rx.nl ?_;clear hK K)|apply Rx.o ?_|(apply Rx.gd (fun hg hgp=>?_) (fun hg hgp=>?_) <;> try (cases hg;done))|(apply Rx.cd (fun hb hbp=>?_) (fun hb hbp=>?_) <;> try (cases hb;done))|apply Wp.seq ?_|(apply Wp.ops' fun K hK=>?_)|(apply Rx.dr 10 fun K hK=>?_)|apply Wp.block ?_|apply Rx.sk ?_|apply Rx.rt ?_|apply Rx.xt ?_)
        · have hlt : j < 23 := by omega
          have hg1:∃ b,([43,45,42,47,37,38,124,94,126,33,60,62,61,63,58,59,44,40,41,123,125,91,93]:List UInt8)[j]?=some b:=by
            rw [List.getElem?_eq_getElem (by simpa using hlt)];exact ⟨_,rfl⟩
          obtain ⟨b,hg1⟩:=hg1
          repeat' (first
             | (apply Rx.nl ?_;clear hK K)|apply Ry.o ?_|(apply Ry.cd (fun hb hbp=>?_) (fun hb hbp=>?_) <;> try (cases hb;done))|apply Wp.seq ?_|(apply Wp.ops' fun K hK=>?_)|(apply Rx.dr 10 fun K hK=>?_)|apply Wp.block ?_|apply Rx.sk ?_|apply Rx.rt ?_|apply Rx.xt ?_)
          · all_goals (refine ⟨eI, _, eR, ?_⟩; try simp only [oneOr])
            exact ⟨⟨1,rfl,hpos⟩,by first|rfl|trivial⟩
          · refine ⟨hlt, eE, ?_, by first | rfl | trivial⟩
            simp only [at_set,Nat.reduceBEq,cond_true,wrap_succ (show j < 2 ^ 62 by omega)]
        · all_goals (refine ⟨eI, _, eR, ?_⟩; try simp only [oneOr])
          exact ⟨⟨0,rfl,Nat.zero_le _⟩,by first|rfl|trivial⟩
      · exact ⟨eE,eE,rfl⟩
  · exact ⟨eE,eE,eE,rfl⟩
end Go.Proofs.Ytackdnelcpbfjaa
namespace Go.Proofs.Ytackdnelcpbfjaa
set_option maxRecDepth 20000
set_option maxRecDepth 20000
open Go Go.Ab
namespace tyW4h
def tyF:=And.intro @tq3 (And.intro @tq9 (And.intro @tq142 (And.intro @slice_hi (@Try.underlying9))))
end tyW4h
open tyW4h
structure Lexers (cfg:Cfg):Prop where
 let_:Plain cfg 165
 dig:Plain cfg 158
 word:Plain cfg 156
 space:Plain cfg 139
 num:Plain cfg 159
 sym:Plain cfg 157
 first:Plain cfg 140
 scan:Plain cfg 113
 plan:∀ id,cfg.plan 157 id=.text
 keep:cfg.keep 113=false
theorem bld96_2 (a:Int) (x:List UInt8):buildA Try.prog 142 [(0,.int .i64 a),(1,.str x)]=some (.agg [.int .i64 a,.str x,.int .i64 0]):=by kernel_rfl
theorem bld96_0:buildA Try.prog 142 []=some (.agg [.int .i64 0,.str [],.int .i64 0]):=by kernel_rfl
theorem agg3 (a b c:AV):aggA 3 [a,b,c]=some (.agg [a,b,c]):=rfl
theorem frB2 (H:Hp) (a b:HB):FrB 0 H ((H.alloc a).set H.next b):=((FrB.refl _ _).alloc _).set (.inl (Nat.le_refl _)) _
theorem first_wp {cfg : Cfg} (hx : Lexers cfg) (s : List UInt8) (h0 : s ≠ []) (hs : s.length < 2 ^ 60) (H : Hp) :
    WpCall Try.prog cfg 140 [.str s] H fun v H'=>(∃ k e,v=.tup [.agg k.cells,.int .i64 e] ∧ FirstR s k e) ∧ FrB 0 H H':=by
  have hw:=hx.first
  have hpos:0 < s.length:=List.length_pos_iff.2 h0
  have hg0:s[0]?=some s[0]:=List.getElem?_eq_getElem hpos
  have hwl:=wordN_le s
  refine WpCall.slim (M:=41) (rs:=[.cell 2 142,.tmp 3]) (hw.call _) hw.ice hw.froz Try.func140 rfl rfl code140.2 rfl ?_;dsimp only [code140,envOf,Nat.reduceAdd]
  repeat' (first
     | (apply Rx.nl ?_;clear hK K)|apply Rx.o ?_|apply Rx.on ?_|(apply Rx.cd (fun hb hbp=>?_) (fun hb hbp=>?_) <;> try (cases hb;done))|apply Wp.seq ?_|(apply Wp.ops' fun K hK=>?_)|apply Wp.block ?_|apply Rx.sk ?_|apply Rx.rt ?_)
  refine WpL.call rfl eVk eAk ?_;simp only [List.cons_append,List.nil_append,List.append_nil]
  refine WpCall.mono ?_ (wordLen_wp hx.word hx.let_ hx.dig s hs _)
  rintro v _ ⟨rfl,rfl⟩
  dsimp only [setO]
  have gh0:=@bld96_2
  have gh1:=@bld96_0
  repeat' (first
     | (apply Rx.nl ?_;clear hK K)|apply Ry.o ?_|(apply Ry.cd (fun hb hbp=>?_) (fun hb hbp=>?_) <;> try (cases hb;done))|apply Wp.seq ?_|(apply Wp.ops' fun K hK=>?_)|apply Wp.block ?_|apply Rx.sk ?_|apply Rx.rt ?_)
  · refine WpL.call rfl eVk eAk ?_; simp only [List.cons_append, List.nil_append, List.append_nil]
    refine WpCall.mono ?_ (symbolLen_wp hx.sym hx.plan s h0 hs _)
    rintro v _ ⟨⟨n,rfl,hn⟩,rfl⟩
    dsimp only [setO]
    have gh0:=@bld96_2
    have gh1:=@bld96_0
    repeat' (first
       | (apply Rx.nl ?_;clear hK K)|apply Rx.o ?_|apply Rx.on ?_|(apply Rx.cd (fun hb hbp=>?_) (fun hb hbp=>?_) <;> try (cases hb;done))|apply Wp.seq ?_|(apply Wp.ops' fun K hK=>?_)|apply Wp.block ?_|apply Rx.sk ?_|apply Rx.rt ?_)
    · refine ⟨eI, _, (by (try simp only [sB, sO, Nat.reduceBEq, Nat.reduceAdd, Nat.reduceLeDiff, tyF, resultsA, resultA, agg3, *]); first | done | with_reducible rfl), ?_⟩; try simp only [oneOr]
      exact ⟨⟨⟨0,[],0⟩,2,rfl,rfl,by simp,fun h1=>by omega⟩,frB2 _ _ _⟩
    · refine ⟨eI, _, (by (try simp only [sB, sO, Nat.reduceBEq, Nat.reduceAdd, Nat.reduceLeDiff, tyF, resultsA, resultA, agg3, *]); first | done | with_reducible rfl), ?_⟩; try simp only [oneOr]
      refine ⟨⟨⟨3,s.take n,0⟩,0,rfl,rfl,fun _=>⟨n,by omega,hn,rfl,by simp⟩,fun h1=>by omega⟩,frB2 _ _ _⟩
  · refine WpL.call rfl eVk eAk ?_; simp only [List.cons_append, List.nil_append, List.append_nil]
    refine WpCall.mono ?_ (isDigit_wp hx.dig s[0].toNat _)
    rintro v _ ⟨rfl,rfl⟩
    dsimp only [setO]
    have hsl:=slice_hi (P:=Try.prog) (k:=.i64) (s:=s) Try.underlying9 hwl
    have gh0:=@bld96_2
    have gh1:=@bld96_0
    repeat' (first
       | (apply Rx.nl ?_;clear hK K)|apply Rx.o ?_|apply Rx.on ?_|(apply Rx.cd (fun hb hbp=>?_) (fun hb hbp=>?_) <;> try (cases hb;done))|apply Wp.seq ?_|(apply Wp.ops' fun K hK=>?_)|apply Wp.block ?_|apply Rx.sk ?_|apply Rx.rt ?_)
    · have hne : s.take (wordN s) ≠ [] := by
        intro h
        have:=congrArg List.length h
        rw [List.length_take,Nat.min_eq_left hwl,List.length_nil] at this
        omega
      refine WpL.call rfl eVk eAk ?_;simp only [List.cons_append,List.nil_append,List.append_nil]
      refine WpCall.mono ?_ (validNumber_wp hx.num hx.dig (s.take (wordN s)) hne (by rw [List.length_take];omega) _)
      rintro v _ ⟨⟨ok,rfl⟩,rfl⟩
      dsimp only [setO]
      have gh0:=@bld96_2
      have gh1:=@bld96_0
      repeat' (first
         | (apply Rx.nl ?_;clear hK K)|apply Rx.o ?_|apply Rx.on ?_|(apply Rx.cd (fun hb hbp=>?_) (fun hb hbp=>?_) <;> try (cases hb;done))|apply Wp.seq ?_|(apply Wp.ops' fun K hK=>?_)|apply Wp.block ?_|apply Rx.sk ?_|apply Rx.rt ?_)
      · refine ⟨eI, _, (by (try simp only [sB, sO, Nat.reduceBEq, Nat.reduceAdd, Nat.reduceLeDiff, tyF, resultsA, resultA, agg3, *]); first | done | with_reducible rfl), ?_⟩; try simp only [oneOr]
        refine ⟨⟨⟨0,[],0⟩,2,rfl,rfl,by simp,fun h1 h2 h3=>?_⟩,frB2 _ _ _⟩
        have:=h3 _ hg0
        simp_all
      · refine ⟨eI, _, (by (try simp only [sB, sO, Nat.reduceBEq, Nat.reduceAdd, Nat.reduceLeDiff, tyF, resultsA, resultA, agg3, *]); first | done | with_reducible rfl), ?_⟩; try simp only [oneOr]
        refine ⟨⟨⟨2,s.take (wordN s),0⟩,0,rfl,rfl,fun _=>⟨wordN s,by omega,hwl,rfl,by simp⟩,fun h1 h2 h3=>?_⟩,frB2 _ _ _⟩
        have:=h3 _ hg0
        simp_all
    · refine ⟨eI, _, (by (try simp only [sB, sO, Nat.reduceBEq, Nat.reduceAdd, Nat.reduceLeDiff, tyF, resultsA, resultA, agg3, *]); first | done | with_reducible rfl), ?_⟩; try simp only [oneOr]
      exact ⟨⟨⟨0,[],0⟩,6,rfl,rfl,by simp,fun h1 h2=>by omega⟩,frB2 _ _ _⟩
    · refine ⟨eI, _, (by (try simp only [sB, sO, Nat.reduceBEq, Nat.reduceAdd, Nat.reduceLeDiff, tyF, resultsA, resultA, agg3, *]); first | done | with_reducible rfl), ?_⟩; try simp only [oneOr]
      refine ⟨⟨⟨1,s.take (wordN s),0⟩,0,rfl,rfl,fun _=>⟨wordN s,by omega,hwl,rfl,fun _=>⟨rfl,by omega,fun b hb=>?_⟩⟩,fun _ _ _=>⟨rfl,rfl⟩⟩,frB2 _ _ _⟩
      rw [hg0] at hb
      simp only [Option.some.injEq] at hb
      subst hb
      assumption
end Go.Proofs.Ytackdnelcpbfjaa
