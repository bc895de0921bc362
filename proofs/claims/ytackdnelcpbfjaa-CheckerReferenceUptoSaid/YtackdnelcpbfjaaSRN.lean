/- Parts: W4i, W4j, W4k, P4a. -/
import Derived.Test.YtackdnelcpbfjaaSRM
set_option linter.unusedSimpArgs false
set_option linter.unusedVariables false
set_option linter.unusedSectionVars false
set_option linter.defProp false
set_option maxHeartbeats 32000000
namespace Go.Proofs.Ytackdnelcpbfjaa
set_option maxRecDepth 20000
set_option maxRecDepth 20000
open Go Go.Ab
namespace tyW4i
def tyF:=And.intro @tq3 (And.intro @tq9 (And.intro @tq30 (And.intro @tq51 (And.intro @tq92 (@tq142)))))
end tyW4i
open tyW4i
theorem bld92_2 (a b:Int):buildA Try.prog 51 [(0,.int .i64 a),(1,.int .i64 b)]=some (.agg [.int .i64 a,.int .i64 b]):=by kernel_rfl
theorem bld92_0:buildA Try.prog 51 []=some (.agg [.int .i64 0,.int .i64 0]):=by kernel_rfl
theorem agg2 (a b:AV):aggA 2 [a,b]=some (.agg [a,b]):=rfl
theorem tk_at (k:Tk) (x:Int):List.take 2 k.cells ++ [.int .i64 x] ++ List.drop 3 k.cells=(Tk.mk k.kind k.text x).cells:=rfl
theorem bs90 (H:Hp) (k:Tk):buildSliceA Try.prog H 92 1 [(0,.agg k.cells)]=some (.sl H.next 0 1 3,H.alloc (.cells k.cells 0 true)):=by kernel_rfl
theorem tok_append {H0 H:Hp} {lv:AV} {ts:List Tk} (hrep:TokRep H0.next H lv ts) (hf:FrB 0 H0 H) (hlo:H0.next < H.next) (k:Tk) {r':Nat} (hg:H.get r'=some (.cells k.cells 0 true)) (hb:ts.length < 2 ^ 40) :
   ∃ H6,appendA Try.prog false H 92 92 lv (.sl r' 0 1 3)=some (.sl H.next 0 (ts.length + 1) 3,H6) ∧ H6.next=H.next + 1 ∧ TokRep H0.next H6 (.sl H.next 0 (ts.length + 1) 3) (ts ++ [k]) ∧ FrB 0 H0 H6 ∧ ∀ j,j < H.next → lv ≠ .sl j 0 ts.length 3 → H6.get j=H.get j:=by
 have hsrc:srcCells H 3 (.sl r' 0 1 3)=some (0 + 1,k.cells):=by
   have:=src_sl (H:=H) (r:=r') (o:=0) (n:=1) (z:=3) (s:=3) hg (by rw [List.drop_zero,List.length_take,Tk.clen];rfl)
   rw [this,List.drop_zero,List.take_of_length_le (by rw [Tk.clen];omega)]
 have hm:maxRoom=70368744177664:=rfl
 rcases hrep with ⟨rfl,rfl⟩|⟨r,rfl,q2,q3,q4,q5⟩
 · refine ⟨H.alloc (.cells k.cells 0 true), ?_, rfl, .inr ⟨H.next, by simp, ?_, hlo, Nat.lt_succ_self _, by simp⟩, hf.alloc _, fun j hj _ => ?_⟩
   · exact append_nil Try.underlying92 sz142 bt142 zr142 (by kernel_rfl) hsrc k.one rfl (by rw [hm];omega) (by rw [hm];omega)
   · rw [Hp.get_alloc,if_pos rfl];simp
   · rw [Hp.get_alloc,if_neg (by omega)]
 · refine ⟨(H.kill r).alloc (.cells (ts.flatMap Tk.cells ++ k.cells) 0 true), ?_, rfl, .inr ⟨H.next, by simp, ?_, hlo, Nat.lt_succ_self _, by simp⟩, (hf.kill (by omega)).alloc _, fun j hj hne => ?_⟩
   · exact append_sl Try.underlying92 sz142 bt142 zr142 (by kernel_rfl) hsrc k.one rfl q2 (flat_len ts) (by rw [hm];omega) (by rw [hm];omega)
   · show ((H.kill r).alloc _).get (H.kill r).next = _
     rw [Hp.get_alloc,if_pos rfl];simp
   · have hjr : ¬ j = r := fun e => hne (by rw [e])
     rw [Hp.get_alloc,if_neg (by simp only [Hp.next_kill];omega),Hp.get_kill,if_neg hjr]
def ScanPost (s:List UInt8) (H:Hp) (v:AV) (H':Hp):Prop:=
 ∃ (why at':Int) (lv:AV),v=.tup [lv,.agg [.int .i64 why,.int .i64 at']] ∧ FrB 0 H H' ∧ ((why ≠ 0 ∧ ¬ isNm s) ∨ (why=0 ∧ ∃ ts,TokRep H.next H' lv ts ∧ headR s ts ∧ (isNm s → ts=[⟨1,s,0⟩])))
theorem scan_wp {cfg : Cfg} (hx : Lexers cfg) (s : List UInt8) (hs : s.length < 2 ^ 60) (H : Hp) : WpCall Try.prog cfg 113 [.str s] H (ScanPost s H) := by
  have hw:=hx.scan
  refine WpCall.slim (M:=49) (rs:=[.tmp 2,.cell 3 51]) (hw.call _) hw.ice hw.froz Try.func113 rfl rfl code113.2 rfl ?_;dsimp only [code113,envOf,Nat.reduceAdd]
  have gh0:=@bld92_2
  have gh1:=@bld92_0
  repeat' (first
     | (apply Rx.nl ?_;clear hK K)|apply Rx.o ?_|apply Rx.on ?_|(apply Rx.cd (fun hb hbp=>?_) (fun hb hbp=>?_) <;> try (cases hb;done))|apply Wp.seq ?_|(apply Wp.ops' fun K hK=>?_)|apply Wp.block ?_|apply Rx.sk ?_|apply Rx.rt ?_|apply Rx.xt ?_)
  · refine ⟨eI, _, (by (try simp only [sB, sO, Nat.reduceBEq, Nat.reduceAdd, Nat.reduceLeDiff, tyF, resultsA, resultA, agg2, *]); first | done | with_reducible rfl), ?_⟩; try simp only [oneOr]
    refine ⟨6,20000,.nilS,rfl,frB2 _ _ _,.inl ⟨by simp,fun h=>?_⟩⟩
    have:=h.2.2.1
    omega
  · refine WpL.call rfl eVk eAk ?_; simp only [List.cons_append, List.nil_append, List.append_nil]
    refine WpCall.mono ?_ (spaceLen_wp hx.space s hs _)
    rintro v _ ⟨rfl,rfl⟩
    dsimp only [setO]
    repeat' (first
       | (apply Rx.nl ?_;clear hK K)|apply Rx.o ?_|apply Rx.on ?_|(apply Rx.cd (fun hb hbp=>?_) (fun hb hbp=>?_) <;> try (cases hb;done))|apply Wp.seq ?_|(apply Wp.ops' fun K hK=>?_)|apply Wp.block ?_|apply Rx.sk ?_|apply Rx.rt ?_|apply Rx.xt ?_)
    have hsp:=spaceN_le false s
    refine Wp.loop (fun n E H2=>∃ (at':Nat) (ts:List Tk) (lv:AV),n=s.length - at' ∧ at' ≤ s.length ∧ E.at 0=.str s ∧ E.at 3=.ptr H.next 0 ∧ E.at 4=lv ∧ E.at 5=.int .i64 at' ∧ FrB 0 H H2 ∧ H.next < H2.next ∧
      H2.get H.next=some (.cells [.int .i64 0,.int .i64 0] 0 true) ∧ TokRep H.next H2 lv ts ∧ ts.length ≤ at' ∧ headR s ts ∧ (ts=[] → at'=spaceN false s) ∧ (isNm s → (ts=[] ∧ at'=0) ∨ (ts=[⟨1,s,0⟩] ∧ at'=s.length))) ?_ (n:=s.length - spaceN false s) ?_
    · rintro n E H2 ⟨at', ts, lv, rfl, ha, h0, h3, h4, h5, hf2, hn2, hg2, hrep, htl, hhead, hfirst, hnm⟩
      have e1:(H.next == H2.next)=false:=by simp;omega
      repeat' (first
         | (apply Rx.nl ?_;clear hK K)|apply Rx.o ?_|apply Rx.on ?_|(apply Rx.cd (fun hb hbp=>?_) (fun hb hbp=>?_) <;> try (cases hb;done))|apply Wp.seq ?_|(apply Wp.ops' fun K hK=>?_)|apply Wp.block ?_|apply Rx.sk ?_|apply Rx.rt ?_|apply Rx.xt ?_)
      · have hlt : at' < s.length := by omega
        have hslo:=slice_lo (P:=Try.prog) (k:=.i64) (s:=s) (m:=at') Try.underlying9 ha
        repeat' (first
           | (apply Rx.nl ?_;clear hK K)|apply Rx.o ?_|apply Rx.on ?_|(apply Rx.cd (fun hb hbp=>?_) (fun hb hbp=>?_) <;> try (cases hb;done))|apply Wp.seq ?_|(apply Wp.ops' fun K hK=>?_)|apply Wp.block ?_|apply Rx.sk ?_|apply Rx.rt ?_|apply Rx.xt ?_)
        have hne:s.drop at' ≠ []:=by
          intro h
          have:=congrArg List.length h
          rw [List.length_drop,List.length_nil] at this
          omega
        refine WpL.call rfl eVk eAk ?_;simp only [List.cons_append,List.nil_append,List.append_nil]
        refine WpCall.mono ?_ (first_wp hx (s.drop at') hne (by rw [List.length_drop];omega) H2)
        rintro v H3 ⟨⟨k,e,rfl,hk⟩,hf3⟩
        have hn3:=hf3.next
        have hg3:H3.get H.next=some (.cells [.int .i64 0,.int .i64 0] 0 true):=by rw [hf3.get _ (Nat.zero_le _) hn2];exact hg2
        have hrep3:TokRep H.next H3 lv ts:=by
          rcases hrep with h|⟨r,q1,q2,q3,q4,q5⟩
          · exact .inl h
          · exact .inr ⟨r,q1,by rw [hf3.get _ (Nat.zero_le _) q4];exact q2,q3,by omega,q5⟩
        have e2:(H.next == H3.next)=false:=by simp;omega
        dsimp only [setO]
        have hx1:Ab.extract (.tup [.agg k.cells,.int .i64 e]) 0=some (.agg k.cells):=rfl
        have hx2:Ab.extract (.tup [.agg k.cells,.int .i64 e]) 1=some (.int .i64 e):=rfl
        have gh0:=@bld92_2
        repeat' (first
           | (apply Rx.nl ?_;clear hK K)|apply Rx.o ?_|apply Rx.on ?_|(apply Rx.cd (fun hb hbp=>?_) (fun hb hbp=>?_) <;> try (cases hb;done))|apply Wp.seq ?_|(apply Wp.ops' fun K hK=>?_)|apply Wp.block ?_|apply Rx.sk ?_|apply Rx.rt ?_|apply Rx.xt ?_)
        · have he : e ≠ 0 := by simpa using hb
          refine ⟨eI,_,(by (try simp only [sB,sO,Nat.reduceBEq,Nat.reduceAdd,Nat.reduceLeDiff,tyF,resultsA,resultA,agg2, *]);first|done|with_reducible rfl),?_⟩;try simp only [oneOr]
          refine ⟨e,at',.nilS,rfl,?_,.inl ⟨he,fun h=>?_⟩⟩
          · exact ((((hf2.trans hf3).alloc _).set (.inl (by omega)) _).set (.inl (Nat.le_refl _)) _)
          · rcases hnm h with ⟨_, q⟩ | ⟨_, q⟩
            · subst q
              exact he (hk.2.2 h.1 (by have:=h.2.1;have:=h.2.2.1;simp only [List.drop_zero];omega) h.2.2.2).1
            · omega
        · have he : e = 0 := by simpa using hb
          have gh0:=@tk_at
          have gh1:=@bs90
          repeat' (first
             | (apply Rx.nl ?_;clear hK K)|apply Rx.o ?_|apply Rx.on ?_|(apply Rx.cd (fun hb hbp=>?_) (fun hb hbp=>?_) <;> try (cases hb;done))|apply Wp.seq ?_|(apply Wp.ops' fun K hK=>?_)|apply Wp.block ?_|apply Rx.sk ?_|apply Rx.rt ?_|apply Rx.xt ?_)
          generalize hk':Tk.mk k.kind k.text (at':Int)=k'
          generalize hH5:Hp.alloc _ (HB.cells (Tk.cells k') 0 true)=H5
          have hn5:H5.next=H3.next + 2:=by rw [← hH5];rfl
          have hg5:H5.get (H3.next + 1)=some (.cells k'.cells 0 true):=by rw [← hH5];simp only [get_set,get_alloc,Hp.next_alloc,Hp.next_set,nb1,nb2,nb3,Nat.add_assoc,Nat.reduceAdd,beq_self_eq_true,cond_true,cond_false,Nat.reduceBEq]
          have hg5a:H5.get H3.next=some (.cells k'.cells 0 true):=by rw [← hH5];simp only [get_set,get_alloc,Hp.next_alloc,Hp.next_set,nb1,nb2,nb3,Nat.add_assoc,Nat.reduceAdd,beq_self_eq_true,cond_true,cond_false,Nat.reduceBEq]
          have hf5:FrB 0 H3 H5:=by rw [← hH5];exact (((FrB.refl _ _).alloc _).set (.inl (Nat.le_refl _)) _).set (.inl (Nat.le_refl _)) _ |>.alloc _
          have hF5:FrB 0 H H5:=(hf2.trans hf3).trans hf5
          have hrep5:TokRep H.next H5 lv ts:=by
            rcases hrep3 with h|⟨r,q1,q2,q3,q4,q5⟩
            · exact .inl h
            · exact .inr ⟨r,q1,by rw [hf5.get _ (Nat.zero_le _) q4];exact q2,q3,by omega,q5⟩
          obtain ⟨H6,p1,p2,p3,p4,p5⟩:=tok_append hrep5 hF5 (by omega) k' hg5 (by omega)
          have hkeep:=hx.keep
          have hg6:H6.get H.next=some (.cells [.int .i64 0,.int .i64 0] 0 true):=by
            rw [p5 _ (by omega) (fun e=>by rcases hrep3 with ⟨_,q⟩|⟨r,q1,_,q3,_⟩ <;> simp_all),hf5.get _ (Nat.zero_le _) (by omega)];exact hg3
          have hg6a:H6.get H3.next=some (.cells k'.cells 0 true):=by
            rw [p5 _ (by omega) (fun e=>by rcases hrep3 with ⟨_,q⟩|⟨r,q1,_,q3,q4,_⟩ <;> simp_all)];exact hg5a
          obtain ⟨n,hn1,hn2',hkt,hkk⟩:=hk.2.1 he
          rw [List.length_drop] at hn2'
          have hktl:k'.text.length=n:=by rw [← hk'];show k.text.length=n;rw [hkt,List.length_take,List.length_drop];omega
          have hwr:IntKind.wrap .i64 ((at':Int) + (n:Int))=((at' + n:Nat):Int):=by rw [IntWalk.i64_in _ (by omega)];omega
          have hslo2:=slice_lo (P:=Try.prog) (k:=.i64) (s:=s) (m:=at' + n) Try.underlying9 (by omega)
          refine WpL.append eV eV (by rw [hkeep];exact p1) ?_
          repeat' (first
             | (apply Rx.nl ?_;clear hK K)|apply Rx.o ?_|apply Rx.on ?_|(apply Rx.cd (fun hb hbp=>?_) (fun hb hbp=>?_) <;> try (cases hb;done))|apply Wp.seq ?_|(apply Wp.ops' fun K hK=>?_)|apply Wp.block ?_|apply Rx.sk ?_|apply Rx.rt ?_|apply Rx.xt ?_)
          refine WpL.call rfl eVk eAk ?_;simp only [List.cons_append,List.nil_append,List.append_nil]
          refine WpCall.mono ?_ (spaceLen_wp hx.space (s.drop (at' + n)) (by rw [List.length_drop];omega) _)
          rintro v _ ⟨rfl,rfl⟩
          dsimp only [setO]
          have hsp2:=spaceN_le false (s.drop (at' + n))
          rw [List.length_drop] at hsp2
          have hwr2:IntKind.wrap .i64 (((at' + n:Nat):Int) + (spaceN false (s.drop (at' + n)):Int))=((at' + n + spaceN false (s.drop (at' + n)):Nat):Int):=by rw [IntWalk.i64_in _ (by omega)];omega
          repeat' (first
             | (apply Rx.nl ?_;clear hK K)|apply Rx.o ?_|apply Rx.on ?_|(apply Rx.cd (fun hb hbp=>?_) (fun hb hbp=>?_) <;> try (cases hb;done))|apply Wp.seq ?_|(apply Wp.ops' fun K hK=>?_)|apply Wp.block ?_|apply Rx.sk ?_|apply Rx.rt ?_|apply Rx.xt ?_)
          refine ⟨s.length - (at' + n + spaceN false (s.drop (at' + n))),by omega,at' + n + spaceN false (s.drop (at' + n)),ts ++ [k'],.sl H5.next 0 (ts.length + 1) 3,rfl,by omega,eE,eE,eE,(by first|(simp only [sB,Nat.reduceBEq,Nat.add_assoc, *];done)|rfl),p4,by omega,hg6,p3,by simp;omega,fun t rest hr=>?_,by simp,fun h=>.inr ?_⟩
          · cases ts with
            | nil =>
              simp only [List.nil_append,List.cons.injEq] at hr
              obtain ⟨rfl,_⟩:=hr
              rw [← hfirst rfl]
              exact ⟨k,by rw [← he];exact hk,by rw [← hk'],by rw [← hk']⟩
            | cons t0 ts =>
              simp only [List.cons_append,List.cons.injEq] at hr
              obtain ⟨rfl,_⟩:=hr
              exact hhead _ _ rfl
          · rcases hnm h with ⟨rfl, q⟩ | ⟨_, q⟩
            · subst q
              have hk2:=(hk.2.2 h.1 (by have:=h.2.1;have:=h.2.2.1;simp only [List.drop_zero];omega) h.2.2.2).2
              simp only [List.drop_zero] at hk2 hkt
              have hwn:wordN s=s.length:=h.2.1
              rw [hwn,List.take_length] at hk2
              have hns:n=s.length:=by
                have:=congrArg List.length hkt
                rw [hk2,List.length_take] at this
                have h3:s.length=min n s.length:=this
                omega
              have hkk2:k'=⟨1,s,0⟩:=by rw [← hk',hk2];rfl
              refine ⟨by rw [hkk2];rfl,?_⟩
              rw [hns];simp [spaceN]
            · omega
      · have hat : at' = s.length := by omega
        have gh0:=@bld92_0
        repeat' (first
           | (apply Rx.nl ?_;clear hK K)|apply Rx.o ?_|apply Rx.on ?_|(apply Rx.cd (fun hb hbp=>?_) (fun hb hbp=>?_) <;> try (cases hb;done))|apply Wp.seq ?_|(apply Wp.ops' fun K hK=>?_)|apply Wp.block ?_|apply Rx.sk ?_|apply Rx.rt ?_|apply Rx.xt ?_)
        refine ⟨eI,_,(by (try simp only [sB,sO,Nat.reduceBEq,Nat.reduceAdd,Nat.reduceLeDiff,tyF,resultsA,resultA,agg2, *]);first|done|with_reducible rfl),?_⟩;try simp only [oneOr]
        refine ⟨0,0,lv,rfl,hf2.set (.inl (Nat.le_refl _)) _,.inr ⟨rfl,ts,?_,hhead,fun h=>?_⟩⟩
        · rcases hrep with h | ⟨r, q1, q2, q3, q4, q5⟩
          · exact .inl h
          · exact .inr ⟨r,q1,by rw [Hp.get_set,if_neg (by omega)];exact q2,q3,q4,q5⟩
        · rcases hnm h with ⟨_, q⟩ | ⟨q, _⟩
          · have:=h.1;have:=h.2.1;omega
          · exact q
    · refine ⟨spaceN false s,[],.nilS,rfl,hsp,eE,eE,eE,eE,(FrB.refl _ _).alloc _,by simp only [Hp.next_alloc];omega,eF,.inl ⟨rfl,rfl⟩,by simp,by simp [headR],fun _=>rfl,fun h=>.inl ⟨rfl,isNm_space h⟩⟩
end Go.Proofs.Ytackdnelcpbfjaa
namespace Go.Proofs.Ytackdnelcpbfjaa
set_option maxRecDepth 20000
set_option maxRecDepth 20000
open Go Go.Ab
namespace tyW4j
def tyF:=And.intro @tq3 (And.intro @tq9 (And.intro @tq30 (And.intro @tq51 (And.intro @tq92 (And.intro @tq142 (And.intro @tq35 (And.intro @List.flatMap_cons.{0,0} (And.intro @List.flatMap_nil.{0,0} (@Nat.zero_mul)))))))))
end tyW4j
open tyW4j
noncomputable def code71:{ c:SC // slim 44 (Try.f71.body.getD .skip)=c }:=by
 refine ⟨?_,?_⟩
 rotate_left
 · simp only [Try.f71, Option.getD_some, slim, slimR, slimL, slimD, slimG, Nat.blt, Nat.ble]
   rfl
noncomputable def code72:{ c:SC // slim 15 (Try.f72.body.getD .skip)=c }:=by
 refine ⟨?_,?_⟩
 rotate_left
 · simp only [Try.f72, Option.getD_some, slim, slimR, slimL, slimD, slimG, Nat.blt, Nat.ble]
   rfl
theorem validName_wp {cfg : Cfg} (hx : Lexers cfg) (hw : Plain cfg 71) (s : List UInt8) (hs : s.length < 2 ^ 60) (H : Hp) :
    WpCall Try.prog cfg 71 [.str s] H fun v H'=>v=.bool (nameB s) ∧ FrB 0 H H':=by
  refine WpCall.slim (M:=44) (rs:=[.tmp 2]) (hw.call _) hw.ice hw.froz Try.func71 rfl rfl code71.2 rfl ?_;dsimp only [code71,envOf,Nat.reduceAdd]
  repeat' (first
     | (apply Rx.nl ?_;clear hK K)|apply Rx.o ?_|apply Rx.on ?_|(apply Rx.gd (fun hg hgp=>?_) (fun hg hgp=>?_) <;> try (cases hg;done))|(apply Rx.cd (fun hb hbp=>?_) (fun hb hbp=>?_) <;> try (cases hb;done))|apply Wp.seq ?_|(apply Wp.ops' fun K hK=>?_)|apply Wp.block ?_|apply Rx.sk ?_|apply Rx.rt ?_)
  refine WpL.call rfl eVk eAk ?_;simp only [List.cons_append,List.nil_append,List.append_nil]
  refine WpCall.mono ?_ (scan_wp hx s hs H)
  rintro v H2 ⟨why,at',lv,rfl,hf2,hcase⟩
  have hx1:Ab.extract (.tup [lv,.agg [.int .i64 why,.int .i64 at']]) 0=some lv:=rfl
  have hx2:Ab.extract (.tup [lv,.agg [.int .i64 why,.int .i64 at']]) 1=some (.agg [.int .i64 why,.int .i64 at']):=rfl
  dsimp only [setO]
  have hf3:FrB 0 H ((H2.alloc (.cells [.int .i64 0,.int .i64 0] 0 true)).set H2.next (.cells [.int .i64 why,.int .i64 at'] 0 true)):=(hf2.alloc _).set (.inl hf2.next) _
  rcases hcase with ⟨h1,h2⟩|⟨rfl,ts,hrep,hhead,hnm⟩
  · have hnb : nmB s = false := by
      cases hb:nmB s with
      | false=>rfl
      | true=>exact (h2 ((nmB_iff s).1 hb)).elim
    repeat' (first
       | (apply Rx.nl ?_;clear hK K)|apply Rx.o ?_|apply Rx.on ?_|(apply Rx.gd (fun hg hgp=>?_) (fun hg hgp=>?_) <;> try (cases hg;done))|(apply Rx.cd (fun hb hbp=>?_) (fun hb hbp=>?_) <;> try (cases hb;done))|apply Wp.seq ?_|(apply Wp.ops' fun K hK=>?_)|apply Wp.block ?_|apply Rx.sk ?_|apply Rx.rt ?_)
    all_goals (refine ⟨eI,_,eR,?_⟩;try simp only [oneOr])
    exact ⟨by simp only [nameB,hnb,Bool.false_and],hf3⟩
  · rcases hrep with ⟨rfl, rfl⟩ | ⟨r, rfl, q2, q3, q4, q5⟩
    · have hnb : nmB s = false := by
        cases hb:nmB s with
        | false=>rfl
        | true=>have:=hnm ((nmB_iff s).1 hb);simp at this
      repeat' (first
         | (apply Rx.nl ?_;clear hK K)|apply Rx.o ?_|apply Rx.on ?_|(apply Rx.gd (fun hg hgp=>?_) (fun hg hgp=>?_) <;> try (cases hg;done))|(apply Rx.cd (fun hb hbp=>?_) (fun hb hbp=>?_) <;> try (cases hb;done))|apply Wp.seq ?_|(apply Wp.ops' fun K hK=>?_)|apply Wp.block ?_|apply Rx.sk ?_|apply Rx.rt ?_)
      all_goals (refine ⟨eI,_,eR,?_⟩;try simp only [oneOr])
      exact ⟨by simp only [nameB,hnb,Bool.false_and],hf3⟩
    · have e1 : (r == H2.next) = false := by simp; omega
      by_cases hl:ts.length=1
      · obtain ⟨k, rfl⟩ := List.length_eq_one_iff.1 hl
        simp only [List.flatMap_cons,List.flatMap_nil,List.append_nil] at q2
        simp only [List.length_cons,List.length_nil,Nat.zero_add] at hx1 hx2 ⊢
        have hkey:isNm s ↔ (k.kind=1 ∧ k.text=s):=⟨fun h=>by have:=hnm h;simp only [List.cons.injEq,and_true] at this;rw [this];exact ⟨rfl,rfl⟩,fun h=>head_nm hhead h.1 h.2⟩
        have hnb:nmB s=(decide (k.kind=1) && decide (k.text=s)):=by
          rw [Bool.eq_iff_iff,nmB_iff,hkey];simp
        clear hkey hnm hhead
        have hidx:indexAddrA Try.prog 92 (.sl r 0 1 3) (.int .i64 0)=some (.ptr r 0):=by kernel_rfl
        repeat' (first
           | (apply Rx.nl ?_;clear hK K)|apply Ry.o ?_|apply Ry.on ?_|(apply Ry.gd (fun hg hgp=>?_) (fun hg hgp=>?_) <;> try (cases hg;done))|(apply Ry.cd (fun hb hbp=>?_) (fun hb hbp=>?_) <;> try (cases hb;done))|apply Wp.seq ?_|(apply Wp.ops' fun K hK=>?_)|apply Wp.block ?_|apply Rx.sk ?_|apply Rx.rt ?_)
        all_goals (refine ⟨eI,_,eR,?_⟩;try simp only [oneOr])
        all_goals (refine ⟨?_,hf3⟩;simp only [nameB,hnb,resB];simp_all)
      · have hnb : nmB s = false := by
          cases hb:nmB s with
          | false=>rfl
          | true=>have:=hnm ((nmB_iff s).1 hb);rw [this] at hl;simp at hl
        have hl2:decide ((ts.length:Int)=1)=false:=by simp;omega
        repeat' (first
           | (apply Rx.nl ?_;clear hK K)|apply Rx.o ?_|apply Rx.on ?_|(apply Rx.gd (fun hg hgp=>?_) (fun hg hgp=>?_) <;> try (cases hg;done))|(apply Rx.cd (fun hb hbp=>?_) (fun hb hbp=>?_) <;> try (cases hb;done))|apply Wp.seq ?_|(apply Wp.ops' fun K hK=>?_)|apply Wp.block ?_|apply Rx.sk ?_|apply Rx.rt ?_)
        all_goals (refine ⟨eI,_,eR,?_⟩;try simp only [oneOr])
        exact ⟨by simp only [nameB,hnb,Bool.false_and],hf3⟩
end Go.Proofs.Ytackdnelcpbfjaa
namespace Go.Proofs.Ytackdnelcpbfjaa
set_option maxRecDepth 20000
set_option maxRecDepth 20000
open Go Go.Ab
namespace tyW4k
def tyF:=And.intro @tq3 (And.intro @tq9 (And.intro @tq35 (And.intro @tq2 (And.intro @tq37 (@tq39)))))
end tyW4k
open tyW4k
noncomputable def code114:{ c:SC // slim 23 (Try.f114.body.getD .skip)=c }:=by
 refine ⟨?_,?_⟩
 rotate_left
 · simp only [Try.f114, Option.getD_some, slim, slimR, slimL, slimD, slimG, Nat.blt, Nat.ble]
   rfl
noncomputable def code141:{ c:SC // slim 27 (Try.f141.body.getD .skip)=c }:=by
 refine ⟨?_,?_⟩
 rotate_left
 · simp only [Try.f141, Option.getD_some, slim, slimR, slimL, slimD, slimG, Nat.blt, Nat.ble]
   rfl
noncomputable def code116:{ c:SC // slim 10 (Try.f116.body.getD .skip)=c }:=by
 refine ⟨?_,?_⟩
 rotate_left
 · simp only [Try.f116, Option.getD_some, slim, slimR, slimL, slimD, slimG, Nat.blt, Nat.ble]
   rfl
def opB (k kids:Int):Bool:=if k=20 ∨ k=21 then decide (kids=1) else decide (4 ≤ k) && decide (k ≤ 18) && decide (kids=2)
theorem validOp_wp {cfg:Cfg} (hw:Plain cfg 114) (k kids:Int) (H:Hp) :
   WpCall Try.prog cfg 114 [.int .i64 k,.int .i64 kids] H fun v H'=>v=.bool (opB k kids) ∧ H'=H:=by
 refine WpCall.slim (M:=23) (rs:=[.tmp 4]) (hw.call _) hw.ice hw.froz Try.func114 rfl rfl code114.2 rfl ?_;dsimp only [code114,envOf,Nat.reduceAdd]
 repeat' (first
    | (apply Rx.nl ?_;clear hK K)|apply Rx.o ?_|(apply Rx.gd (fun hg hgp=>?_) (fun hg hgp=>?_) <;> try (cases hg;done))|(apply Rx.cd (fun hb hbp=>?_) (fun hb hbp=>?_) <;> try (cases hb;done))|apply Wp.seq ?_|(apply Wp.ops' fun K hK=>?_)|apply Rx.sk ?_|apply Rx.rt ?_)
 all_goals
   all_goals (refine ⟨eI,_,eR,?_⟩;try simp only [oneOr])
 all_goals (refine ⟨?_,by first|rfl|trivial⟩;simp_all [opB] <;> omega)
theorem isZero_wp {cfg:Cfg} (hw:Plain cfg 141) (x:Ex) (H:Hp) :
   WpCall Try.prog cfg 141 [.agg x.cells] H fun v H'=>v=.bool (zeroE x) ∧ FrB 0 H H':=by
 refine WpCall.slim (M:=27) (rs:=[.tmp 2]) (hw.call _) hw.ice hw.froz Try.func141 rfl rfl code141.2 rfl ?_;dsimp only [code141,envOf,Nat.reduceAdd]
 repeat' (first
    | (apply Rx.nl ?_;clear hK K)|apply Rx.o ?_|(apply Rx.gd (fun hg hgp=>?_) (fun hg hgp=>?_) <;> try (cases hg;done))|apply Wp.seq ?_|(apply Wp.ops' fun K hK=>?_)|apply Rx.rt ?_)
 all_goals
   all_goals (refine ⟨eI,_,eR,?_⟩;try simp only [oneOr])
 all_goals (refine ⟨?_,(FrB.refl _ _).alloc _⟩;simp_all [zeroE])
def nameF (s:List UInt8) (want:Bool):Bool:=if want then nameB s else decide (s=[])
theorem nameField_wp {cfg:Cfg} (hx:Lexers cfg) (hv:Plain cfg 71) (hw:Plain cfg 116) (s:List UInt8) (want:Bool) (hs:s.length < 2 ^ 60) (H:Hp) :
   WpCall Try.prog cfg 116 [.str s,.bool want] H fun v H'=>v=.bool (nameF s want) ∧ FrB 0 H H':=by
 cases want
 · refine WpCall.slim (M := 10) (rs := [.tmp 4]) (hw.call _) hw.ice hw.froz Try.func116 rfl rfl code116.2 rfl ?_; dsimp only [code116, envOf, Nat.reduceAdd]
   repeat' (first
      | (apply Rx.nl ?_;clear hK K)|apply Rx.o ?_|(apply Rx.cd (fun hb hbp=>?_) (fun hb hbp=>?_) <;> try (cases hb;done))|apply Wp.seq ?_|(apply Wp.ops' fun K hK=>?_)|apply Rx.sk ?_|apply Rx.rt ?_)
   all_goals (refine ⟨eI,_,eR,?_⟩;try simp only [oneOr])
   exact ⟨by simp [nameF],FrB.refl _ _⟩
 · refine WpCall.slim (M := 10) (rs := [.tmp 4]) (hw.call _) hw.ice hw.froz Try.func116 rfl rfl code116.2 rfl ?_; dsimp only [code116, envOf, Nat.reduceAdd]
   repeat' (first
      | (apply Rx.nl ?_;clear hK K)|apply Rx.o ?_|(apply Rx.cd (fun hb hbp=>?_) (fun hb hbp=>?_) <;> try (cases hb;done))|apply Wp.seq ?_|(apply Wp.ops' fun K hK=>?_)|apply Rx.sk ?_|apply Rx.rt ?_)
   refine WpL.call rfl eVk eAk ?_;simp only [List.cons_append,List.nil_append,List.append_nil]
   refine WpCall.mono ?_ (validName_wp hx hv s hs H)
   rintro v H2 ⟨rfl,hf2⟩
   dsimp only [setO]
   repeat' (first
      | (apply Rx.nl ?_;clear hK K)|apply Rx.o ?_|(apply Rx.cd (fun hb hbp=>?_) (fun hb hbp=>?_) <;> try (cases hb;done))|apply Wp.seq ?_|(apply Wp.ops' fun K hK=>?_)|apply Rx.sk ?_|apply Rx.rt ?_)
   all_goals (refine ⟨eI,_,eR,?_⟩;try simp only [oneOr])
   exact ⟨by simp [nameF],hf2⟩
theorem validNames_wp {cfg : Cfg} (hx : Lexers cfg) (hv : Plain cfg 71) (hw : Plain cfg 72) (l : List (List UInt8)) (hz : strsSz l < 2 ^ 60) (H : Hp) :
    WpCall Try.prog cfg 72 [lstS l] H fun v H'=>v=.bool (l.all nameB) ∧ FrB 0 H H':=by
  have hl:l.length < 2 ^ 60:=by have:=strsSz_len l;omega
  refine WpCall.slim (M:=15) (rs:=[.tmp 2]) (hw.call _) hw.ice hw.froz Try.func72 rfl rfl code72.2 rfl ?_;dsimp only [code72,envOf,Nat.reduceAdd]
  repeat' (first
     | (apply Rx.nl ?_;clear hK K)|apply Rx.o ?_|(apply Rx.cd (fun hb hbp=>?_) (fun hb hbp=>?_) <;> try (cases hb;done))|apply Wp.seq ?_|(apply Wp.ops' fun K hK=>?_)|apply Wp.block ?_|apply Rx.sk ?_|apply Rx.rt ?_|apply Rx.xt ?_)
  refine Wp.loopN (fun i E H2=>l.all nameB=(l.drop i).all nameB ∧ E.at 5=.lst (l.map fun s=>[.str s]) ∧ E.at 6=.int .i64 l.length ∧ E.at 7=.int .i64 i ∧ FrB 0 H H2) l.length ?_ ?_
  · rintro i E H2 hi2 ⟨hc, h5, h6, h7, hf2⟩
    repeat' (first
       | (apply Rx.nl ?_;clear hK K)|apply Rx.o ?_|(apply Rx.cd (fun hb hbp=>?_) (fun hb hbp=>?_) <;> try (cases hb;done))|apply Wp.seq ?_|(apply Wp.ops' fun K hK=>?_)|apply Wp.block ?_|apply Rx.sk ?_|apply Rx.rt ?_|apply Rx.xt ?_)
    · have hlt : i < l.length := by simpa using hb
      have hgx:l[i]?=some l[i]:=List.getElem?_eq_getElem hlt
      have hsm:=strsSz_mem (List.getElem_mem hlt)
      have hdr:(l.drop i).all nameB=(nameB l[i] && (l.drop (i + 1)).all nameB):=by rw [List.drop_eq_getElem_cons hlt,List.all_cons]
      repeat' (first
         | (apply Rx.nl ?_;clear hK K)|apply Rx.o ?_|(apply Rx.cd (fun hb hbp=>?_) (fun hb hbp=>?_) <;> try (cases hb;done))|apply Wp.seq ?_|(apply Wp.ops' fun K hK=>?_)|apply Wp.block ?_|apply Rx.sk ?_|apply Rx.rt ?_|apply Rx.xt ?_)
      refine WpL.call rfl eVk eAk ?_;simp only [List.cons_append,List.nil_append,List.append_nil]
      refine WpCall.mono ?_ (validName_wp hx hv l[i] (by omega) H2)
      rintro v H3 ⟨rfl,hf3⟩
      dsimp only [setO]
      repeat' (first
         | (apply Rx.nl ?_;clear hK K)|apply Rx.o ?_|(apply Rx.cd (fun hb hbp=>?_) (fun hb hbp=>?_) <;> try (cases hb;done))|apply Wp.seq ?_|(apply Wp.ops' fun K hK=>?_)|apply Wp.block ?_|apply Rx.sk ?_|apply Rx.rt ?_|apply Rx.xt ?_)
      · all_goals (refine ⟨eI, _, eR, ?_⟩; try simp only [oneOr])
        exact ⟨by rw [hc,hdr];simp_all,hf2.trans hf3⟩
      · refine ⟨hlt, by rw [hc, hdr]; simp_all, eE, eE, ?_, hf2.trans hf3⟩
        simp only [at_set,Nat.reduceBEq,cond_true,wrap_succ (show i < 2 ^ 62 by omega)]
    · all_goals (refine ⟨eI, _, eR, ?_⟩; try simp only [oneOr])
      have hie:i=l.length:=by simp at hb;omega
      exact ⟨by rw [hc,hie];simp,hf2⟩
  · exact ⟨by simp,eE,eE,eE,FrB.refl _ _⟩
end Go.Proofs.Ytackdnelcpbfjaa
namespace Go.Proofs.Ytackdnelcpbfjaa
set_option maxRecDepth 20000
set_option maxRecDepth 20000
open Go Go.Ab
namespace tyP4a
def tyF:=And.intro @tq2 (And.intro @tq3 (And.intro @tq9 (And.intro @tq37 (And.intro @tq39 (And.intro @tq4 (@tq171))))))
end tyP4a
open tyP4a
noncomputable def code115:{ c:SC // slim 27 (Try.f115.body.getD .skip)=c }:=by
 refine ⟨?_,?_⟩
 rotate_left
 · simp only [Try.f115, Option.getD_some, slim, slimR, slimL, slimD, slimG, Nat.blt, Nat.ble]
   rfl
noncomputable def code74:{ c:SC // slim 87 (Try.f74.body.getD .skip)=c }:=by
 refine ⟨?_,?_⟩
 rotate_left
 · simp only [Try.f74, Option.getD_some, slim, slimR, slimL, slimD, slimG, Nat.blt, Nat.ble]
   rfl
noncomputable def code117:{ c:SC // slim 10 (Try.f117.body.getD .skip)=c }:=by
 refine ⟨?_,?_⟩
 rotate_left
 · simp only [Try.f117, Option.getD_some, slim, slimR, slimL, slimD, slimG, Nat.blt, Nat.ble]
   rfl
theorem lexers0 {l:List En} (h:∀ f,f ∈ [165,158,156,139,159,157,140,113] → (∀ args,lookN l f args=none) ∧ iceN l f=false):Lexers (cfgN pls l) where
 let_:=plainN (h _ (by simp)).1 (h _ (by simp)).2
 dig:=plainN (h _ (by simp)).1 (h _ (by simp)).2
 word:=plainN (h _ (by simp)).1 (h _ (by simp)).2
 space:=plainN (h _ (by simp)).1 (h _ (by simp)).2
 num:=plainN (h _ (by simp)).1 (h _ (by simp)).2
 sym:=plainN (h _ (by simp)).1 (h _ (by simp)).2
 first:=plainN (h _ (by simp)).1 (h _ (by simp)).2
 scan:=plainN (h _ (by simp)).1 (h _ (by simp)).2
 plan _:=by first|rfl|kernel_rfl
 keep:=rfl
theorem lex0:Lexers (cfgN pls []):=lexers0 fun f _=>⟨fun _=>rfl,rfl⟩
theorem pvalid_con (ρ:Nat → Int) (s:List UInt8) (hs:s.length < 2 ^ 60):Con Try.prog ρ 71 [.str s] (.bool (nameB s)):=
 Con.lev fit (pls:=pls) (l:=[]) trivial (.cons (.str _) .nil) (.bool _) (WpCall.mono (fun v H h=>h.1) (validName_wp lex0 (plain0 _) s hs H0))
theorem pop_con (ρ:Nat → Int) (x:Int × Nat):Con Try.prog ρ 114 [.int .i64 x.1,.int .i64 x.2] (.bool (opB x.1 x.2)):=
 Con.lev fit (pls:=pls) (l:=[]) trivial (.cons (.int _ _) (.cons (.int _ _) .nil)) (.bool _) (WpCall.mono (fun v H h=>h.1) (validOp_wp (plain0 _) x.1 x.2 H0))
theorem pzero_con (ρ:Nat → Int) (x:Ex):Con Try.prog ρ 141 [.agg x.cells] (.bool (zeroE x)):=
 Con.lev fit (pls:=pls) (l:=[]) trivial (.cons (.agg x.pure) .nil) (.bool _) (WpCall.mono (fun v H h=>h.1) (isZero_wp (plain0 _) x H0))
theorem pnames_con (ρ:Nat → Int) (l:List (List UInt8)) (hl:strsSz l < 2 ^ 60):Con Try.prog ρ 72 [lstS l] (.bool (l.all nameB)):=
 Con.lev fit (pls:=pls) (l:=[]) trivial (.cons (strs_pure _) .nil) (.bool _) (WpCall.mono (fun v H h=>h.1) (validNames_wp lex0 (plain0 _) (plain0 _) l hl H0))
theorem pfield_con (ρ:Nat → Int) (s:List UInt8) (w:Bool) (hs:s.length < 2 ^ 60):Con Try.prog ρ 116 [.str s,.bool w] (.bool (nameF s w)):=
 Con.lev fit (pls:=pls) (l:=[]) trivial (.cons (.str _) (.cons (.bool _) .nil)) (.bool _) (WpCall.mono (fun v H h=>h.1) (nameField_wp lex0 (plain0 _) (plain0 _) s w hs H0))
def fldB (k:Int):List Bool:=
 if k=1 then [true,false,false,false,true,false,false,false]
 else if k=2 then [true,false,false,true,true,false,false,false]
 else if k=3 then [false,false,false,false,true,false,true,true]
 else if k=4 then [false,false,false,false,true,false,true,false]
 else if k=5 then [false,false,false,false,true,false,false,false]
 else if k=6 then [true,true,false,false,false,true,false,false]
 else if k=7 then [false,false,true,false,false,false,false,false]
 else [false,false,false,false,false,false,false,false]
def fldOk (k:Int):Bool:=decide (1 ≤ k) && decide (k ≤ 7)
def fldA (k:Int):AV:=.tup [.agg ((fldB k).map .bool),.bool (fldOk k)]
theorem agg8 (a b c d e f g h:AV):aggA 8 [a,b,c,d,e,f,g,h]=some (.agg [a,b,c,d,e,f,g,h]):=rfl
theorem fields_con (ρ:Nat → Int) (k:Int):Con Try.prog ρ 115 [.int .i64 k] (fldA k):=Con.lev fit (pls:=pls) (l:=[]) trivial (.cons (.int _ _) .nil) (.tup (.cons (.agg fun v hv=>by
   obtain ⟨b,_,rfl⟩:=List.mem_map.1 hv
   exact .bool b) (.cons (.bool _) .nil))) (by
 have hw:=plain0 115
 have b1:buildA Try.prog 171 [(0,.bool true),(4,.bool true)]=some (.agg [.bool true,.bool false,.bool false,.bool false,.bool true,.bool false,.bool false,.bool false]):=by kernel_rfl
 have b2:buildA Try.prog 171 [(0,.bool true),(3,.bool true),(4,.bool true)]=some (.agg [.bool true,.bool false,.bool false,.bool true,.bool true,.bool false,.bool false,.bool false]):=by kernel_rfl
 have b3:buildA Try.prog 171 [(4,.bool true),(6,.bool true),(7,.bool true)]=some (.agg [.bool false,.bool false,.bool false,.bool false,.bool true,.bool false,.bool true,.bool true]):=by kernel_rfl
 have b4:buildA Try.prog 171 [(4,.bool true),(6,.bool true)]=some (.agg [.bool false,.bool false,.bool false,.bool false,.bool true,.bool false,.bool true,.bool false]):=by kernel_rfl
 have b5:buildA Try.prog 171 [(4,.bool true)]=some (.agg [.bool false,.bool false,.bool false,.bool false,.bool true,.bool false,.bool false,.bool false]):=by kernel_rfl
 have b6:buildA Try.prog 171 [(0,.bool true),(1,.bool true),(5,.bool true)]=some (.agg [.bool true,.bool true,.bool false,.bool false,.bool false,.bool true,.bool false,.bool false]):=by kernel_rfl
 have b7:buildA Try.prog 171 [(2,.bool true)]=some (.agg [.bool false,.bool false,.bool true,.bool false,.bool false,.bool false,.bool false,.bool false]):=by kernel_rfl
 have b0:buildA Try.prog 171 []=some (.agg [.bool false,.bool false,.bool false,.bool false,.bool false,.bool false,.bool false,.bool false]):=by kernel_rfl
 refine WpCall.slim (M:=27) (rs:=[.cell 2 171,.tmp 3]) (hw.call _) hw.ice hw.froz Try.func115 rfl rfl code115.2 rfl ?_;dsimp only [code115,envOf,Nat.reduceAdd]
 repeat' (first
    | (apply Rx.nl ?_;clear hK K)|apply Rx.o ?_|apply Rx.on ?_|(apply Rx.cd (fun hb hbp=>?_) (fun hb hbp=>?_) <;> try (cases hb;done))|apply Wp.seq ?_|(apply Wp.ops' fun K hK=>?_)|apply Wp.block ?_|apply Rx.sk ?_|apply Rx.rt ?_)
 all_goals
   refine ⟨eI,_,(by (try simp only [sB,sO,Nat.reduceBEq,Nat.reduceAdd,Nat.reduceLeDiff,tyF,resultsA,resultA,agg8, *]);first|done|with_reducible rfl),?_⟩;try simp only [oneOr]
 all_goals
   first
   | (simp_all [fldA,fldB,fldOk];done)
   | (have h0:fldOk k=false:=by
        simp only [fldOk,Bool.and_eq_false_iff,decide_eq_false_iff_not];omega
      simp_all [fldA,fldB];done))
theorem opB_eq (k:Int) (n:Nat):opB k n=((decide ((n:Int)=2) && isBinB k) || (decide ((n:Int)=1) && (decide (k=20) || decide (k=21)))):=by
 unfold opB isBinB
 by_cases h:k=20 ∨ k=21
 · rw [if_pos h]
   rcases h with rfl|rfl <;> simp
 · rw [if_neg h]
   have h1:¬ k=20:=fun e=>h (.inl e)
   have h2:¬ k=21:=fun e=>h (.inr e)
   simp only [h1,h2,decide_false,Bool.or_false,Bool.and_false]
   cases decide (4 ≤ k) <;> cases decide (k ≤ 18) <;> cases decide ((n:Int)=2) <;> rfl
noncomputable def enPN:En:=⟨71,false,spP (fun s=>s.length < 2 ^ 60) bsE fun s=>.bool (nameB s)⟩
theorem enPN_ok (ρ:Nat → Int):EnOk Try.prog ρ enPN:=spP_ok fun x hx=>pvalid_con ρ x hx
def opE (x:Int × Nat):List AV:=[.int .i64 x.1,.int .i64 x.2]
theorem opE_inj (x y:Int × Nat) (h:opE x=opE y):x=y:=by
 simp only [opE,List.cons.injEq,AV.int.injEq,and_true,true_and] at h
 exact Prod.ext h.1 (by omega)
noncomputable def enPO:En:=⟨114,false,spP (fun _=>True) opE fun x=>.bool (opB x.1 x.2)⟩
theorem enPO_ok (ρ:Nat → Int):EnOk Try.prog ρ enPO:=spP_ok fun x _=>pop_con ρ x
noncomputable def enPZ:En:=⟨141,false,spP (fun _=>True) exE fun x=>.bool (zeroE x)⟩
theorem enPZ_ok (ρ:Nat → Int):EnOk Try.prog ρ enPZ:=spP_ok fun x _=>pzero_con ρ x
theorem wfeVisit {l:List En} (hv:∀ ar,lookN l 71 ar=enPN.sp ar) (ho:∀ ar,lookN l 114 ar=enPO.sp ar) (hp:(∀ ar,lookN l 74 ar=none) ∧ iceN l 74=false) {base:Nat} {I:Hp → Prop} (hI:OfLow base I) :
   VisitE (cfgN pls l) base I 74 [] fun x _=>wfX x:=by
 intro x d H hz hbase hi
 have hw:Plain (cfgN pls l) 74:=plainN hp.1 hp.2
 have kv:∀ s:List UInt8,s.length < 2 ^ 60 → ∀ H,WpCall Try.prog (cfgN pls l) 71 [.str s] H fun v H'=>v=.bool (nameB s) ∧ H'=H:=fun s h1 H=>WpCall.en (enc:=bsE) (out:=fun x=>.bool (nameB x)) bsE_inj (x:=s) (hv _) h1
 have ko:∀ (k:Int) (n:Nat),∀ H,WpCall Try.prog (cfgN pls l) 114 [.int .i64 k,.int .i64 n] H fun v H'=>v=.bool (opB k n) ∧ H'=H:=fun k n H=>WpCall.en (enc:=opE) (out:=fun x=>.bool (opB x.1 x.2)) opE_inj (x:=(k,n)) (ho _) trivial
 have hsz:=x.sz_eq
 refine WpCall.slim (M:=87) (rs:=[.tmp 4]) (hw.call _) hw.ice hw.froz Try.func74 rfl rfl code74.2 rfl ?_;dsimp only [code74,envOf,Nat.reduceAdd]
 repeat' (first
    | (apply Rx.nl ?_;clear hK K)|apply Rx.o ?_|(apply Rx.call ?_;first|refine Rx.k (kv _ (by omega) _) ?_|refine Rx.k (ko _ _ _) ?_)|(apply Rx.gd (fun hg hgp=>?_) (fun hg hgp=>?_) <;> try (cases hg;done))|(apply Rx.cd (fun hb hbp=>?_) (fun hb hbp=>?_) <;> try (cases hb;done))|apply Wp.seq ?_|(apply Wp.ops' fun K hK=>?_)|apply Wp.block ?_|apply Rx.sk ?_|apply Rx.rt ?_)
 all_goals
   all_goals (refine ⟨eI,_,eR,?_⟩;try simp only [oneOr])
   refine ⟨?_,(FrB.refl _ _).alloc _,hI _ _ hi ((Low.refl _ _).alloc hbase _)⟩
   rw [wfX]
   (try rw [opB_eq])
   (try simp only [Bool.not_eq_true',Bool.not_eq_false'] at *);simp only [*,decide_true,decide_false,Bool.false_or,Bool.or_false,Bool.true_or,Bool.or_true,Bool.false_and,Bool.and_false,Bool.true_and,Bool.and_true,Bool.not_true,Bool.not_false,if_true,if_false,Int.reduceEq]
end Go.Proofs.Ytackdnelcpbfjaa
