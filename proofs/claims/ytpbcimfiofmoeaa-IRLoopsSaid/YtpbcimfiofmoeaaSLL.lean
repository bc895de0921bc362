/- Parts: P4b, P4c, P4d, P4h, G1, G2, G2r, ChkM, ChkX, G2s, G2p, RowN, V7, NdM. -/
import Derived.Test.YtpbcimfiofmoeaaSLK
set_option linter.unusedSimpArgs false
set_option linter.unusedVariables false
set_option linter.unusedSectionVars false
set_option linter.defProp false
set_option maxHeartbeats 32000000
namespace Go.Proofs.Ytpbcimfiofmoeaa
set_option maxRecDepth 20000
set_option maxRecDepth 20000
open Go Go.Ab
namespace tyP4b
def tyF:=And.intro @tq2 (And.intro @tq3 (And.intro @tq4 (And.intro @tq9 (And.intro @tq48 (And.intro @tq49 (And.intro @tq51 (And.intro @tq55 (@tq162))))))))
end tyP4b
open tyP4b
noncomputable def code80:{ c:SC // slim 111 (Try.f80.body.getD .skip)=c }:=by
 refine ⟨?_,?_⟩
 rotate_left
 · simp only [Try.f80, Option.getD_some, slim, slimR, slimL, slimD, slimG, Nat.blt, Nat.ble]
   rfl
mutual
theorem walkE_wf:∀ (x:Ex) (d:Int),walkE (fun x _=>wfX x) x d=wfE x
 | .mk k n s o ks,d=>by rw [walkE,wfE,walkEs_wf ks,Bool.and_comm]
theorem walkEs_wf:∀ (l:List Ex) (d:Int),walkEs (fun x _=>wfX x) l d=wfEs l
 | [],_=>rfl
 | x :: l,d=>by rw [walkEs,wfEs,walkE_wf x,walkEs_wf l]
end
theorem wfWalk {l:List En} (hv:∀ ar,lookN l 76 ar=enPN.sp ar) (ho:∀ ar,lookN l 113 ar=enPO.sp ar) (hp:(∀ ar,lookN l 79 ar=none) ∧ iceN l 79=false) (hq:(∀ ar,lookN l 78 ar=none) ∧ iceN l 78=false)
   (x:Ex) (hx:x.sz < 2 ^ 60) (H:Hp):WpCall Try.prog (cfgN pls l) 78 [.agg x.cells,.int .i64 0,.clo 79 []] H fun v H'=>v=.bool (wfE x) ∧ FrB 0 H H':=by
 have hI:OfLow 0 fun _:Hp=>True:=fun _ _ _ _=>trivial
 refine WpCall.mono ?_ (walkExpr_wp (plainN hq.1 hq.2) hI (wfeVisit hv ho hp hI) (x.sz + 1) x (Nat.lt_succ_self _) 0 H hx (Nat.zero_le _) trivial)
 rintro v H' ⟨rfl,h2,_⟩
 exact ⟨by rw [walkE_wf],h2⟩
def fieldE (x:Ex) (w:Bool):Bool:=bif w then wfE x else zeroE x
noncomputable def levP1:List En:=[enPN,enPO,enPZ]
theorem levP1_ok (ρ:Nat → Int):EnsOk Try.prog ρ levP1:=⟨enPN_ok ρ,enPO_ok ρ,enPZ_ok ρ,trivial⟩
theorem exprField_con (ρ:Nat → Int) (x:Ex) (w:Bool) (hx:x.sz < 2 ^ 60):Con Try.prog ρ 116 [.agg x.cells,.bool w] (.bool (fieldE x w)):=Con.lev fit (pls:=pls) (levP1_ok ρ) (.cons (.agg x.pure) (.cons (.bool _) .nil)) (.bool _) (by
 have hw:Plain (cfgN pls levP1) 116:=plainN (fun _=>rfl) rfl
 have kz:∀ y:Ex,∀ H,WpCall Try.prog (cfgN pls levP1) 135 [.agg y.cells] H fun v H'=>v=.bool (zeroE y) ∧ H'=H:=fun y H=>WpCall.en (enc:=exE) (out:=fun x=>.bool (zeroE x)) exE_inj (x:=y) rfl trivial
 cases w
 · refine WpCall.slim (M := 10) (rs := [.tmp 4]) (hw.call _) hw.ice hw.froz Try.func116 rfl rfl code116.2 rfl ?_; dsimp only [code116, envOf, Nat.reduceAdd]
   repeat' (first
      | (apply Rx.nl ?_;clear hK K)|apply Rx.o ?_|(apply Rx.call ?_;first|refine Rx.k (kz _ _) ?_)|(apply Rx.cd (fun hb hbp=>?_) (fun hb hbp=>?_) <;> try (cases hb;done))|apply Wp.seq ?_|(apply Wp.ops' fun K hK=>?_)|apply Rx.sk ?_|apply Rx.rt ?_)
   all_goals (refine ⟨eI,_,eR,?_⟩;try simp only [oneOr])
   rfl
 · refine WpCall.slim (M := 10) (rs := [.tmp 4]) (hw.call _) hw.ice hw.froz Try.func116 rfl rfl code116.2 rfl ?_; dsimp only [code116, envOf, Nat.reduceAdd]
   repeat' (first
      | (apply Rx.nl ?_;clear hK K)|apply Rx.o ?_|(apply Rx.cd (fun hb hbp=>?_) (fun hb hbp=>?_) <;> try (cases hb;done))|apply Wp.seq ?_|(apply Wp.ops' fun K hK=>?_)|apply Rx.sk ?_|apply Rx.rt ?_)
   refine WpL.call rfl eVk eAk ?_;simp only [List.cons_append,List.nil_append,List.append_nil]
   refine WpCall.mono ?_ (wfWalk (fun _=>rfl) (fun _=>rfl) ⟨fun _=>rfl,rfl⟩ ⟨fun _=>rfl,rfl⟩ x hx _)
   rintro v H ⟨rfl,_⟩
   dsimp only [setO]
   repeat' (first
      | (apply Rx.nl ?_;clear hK K)|apply Rx.o ?_|(apply Rx.cd (fun hb hbp=>?_) (fun hb hbp=>?_) <;> try (cases hb;done))|apply Wp.seq ?_|(apply Wp.ops' fun K hK=>?_)|apply Rx.sk ?_|apply Rx.rt ?_)
   all_goals (refine ⟨eI,_,eR,?_⟩;try simp only [oneOr])
   rfl)
def fld (k:Int) (i:Nat):Bool:=(fldB k).getD i false
theorem fld_eq (k:Int):(fldB k).map AV.bool=[.bool (fld k 0),.bool (fld k 1),.bool (fld k 2),.bool (fld k 3),.bool (fld k 4),.bool (fld k 5),.bool (fld k 6),.bool (fld k 7)]:=by
 have h:∃ a b c d e f g h,fldB k=[a,b,c,d,e,f,g,h]:=by
   unfold fldB
   repeat' split
   all_goals exact ⟨_,_,_,_,_,_,_,_,rfl⟩
 obtain ⟨a,b,c,d,e,f,g,h,e1⟩:=h
 simp only [fld,e1];rfl
def wfSp (x:St):Bool:=
 fldOk x.kind && nameF x.name (fld x.kind 0) && nameF x.to (fld x.kind 1) && fieldE x.at_ (fld x.kind 3) && fieldE x.value (fld x.kind 4) &&
 !decide (x.n < 0) && !decide (1000000 < x.n) && (fld x.kind 2 || decide (x.n=0)) && (fld x.kind 5 || !decide ((0:Int) < x.args.length)) && (fld x.kind 6 || !decide ((0:Int) < x.thn.length)) && (fld x.kind 7 || !decide ((0:Int) < x.els.length)) && wfEs x.args
def badB (x:St):Bool:=decide (x.n < 0) || decide (1000000 < x.n) || (!fld x.kind 2 && !decide (x.n=0)) || (!fld x.kind 5 && decide ((0:Int) < x.args.length)) || (!fld x.kind 6 && decide ((0:Int) < x.thn.length)) || (!fld x.kind 7 && decide ((0:Int) < x.els.length))
noncomputable def enPF:En:=⟨114,false,spP (fun _=>True) (fun n:Int=>[.int .i64 n]) fldA⟩
theorem enPF_ok (ρ:Nat → Int):EnOk Try.prog ρ enPF:=spP_ok fun x _=>fields_con ρ x
def sbE (x:List UInt8 × Bool):List AV:=[.str x.1,.bool x.2]
theorem sbE_inj (x y:List UInt8 × Bool) (h:sbE x=sbE y):x=y:=by
 simp only [sbE,List.cons.injEq,AV.str.injEq,AV.bool.injEq,and_true] at h
 exact Prod.ext h.1 h.2
noncomputable def enPM:En:=⟨115,false,spP (fun x=>x.1.length < 2 ^ 60) sbE fun x=>.bool (nameF x.1 x.2)⟩
theorem enPM_ok (ρ:Nat → Int):EnOk Try.prog ρ enPM:=spP_ok fun x hx=>pfield_con ρ x.1 x.2 hx
def ebE (x:Ex × Bool):List AV:=[.agg x.1.cells,.bool x.2]
theorem ebE_inj (x y:Ex × Bool) (h:ebE x=ebE y):x=y:=by
 simp only [ebE,List.cons.injEq,AV.agg.injEq,AV.bool.injEq,and_true] at h
 exact Prod.ext (Ex.inj h.1) h.2
noncomputable def enPX:En:=⟨116,false,spP (fun x=>x.1.sz < 2 ^ 60) ebE fun x=>.bool (fieldE x.1 x.2)⟩
theorem enPX_ok (ρ:Nat → Int):EnOk Try.prog ρ enPX:=spP_ok fun x hx=>exprField_con ρ x.1 x.2 hx
noncomputable def enPS:En:=⟨77,false,spP (fun l=>strsSz l < 2 ^ 60) (fun l:List (List UInt8)=>[lstS l]) fun l=>.bool (l.all nameB)⟩
theorem enPS_ok (ρ:Nat → Int):EnOk Try.prog ρ enPS:=spP_ok fun x hx=>pnames_con ρ x hx
theorem lsE_inj (x y:List (List UInt8)) (h:([lstS x]:List AV)=[lstS y]):x=y:=by
 simp only [List.cons.injEq,AV.lst.injEq,and_true] at h
 exact strs_inj h
noncomputable def levP2:List En:=[enPN,enPO,enPF,enPM,enPX,enPS]
theorem levP2_ok (ρ:Nat → Int):EnsOk Try.prog ρ levP2:=⟨enPN_ok ρ,enPO_ok ρ,enPF_ok ρ,enPM_ok ρ,enPX_ok ρ,enPS_ok ρ,trivial⟩
theorem fldv1:fld 1 0=true ∧ fld 1 1=false ∧ fld 1 2=false ∧ fld 1 3=false ∧ fld 1 4=true ∧ fld 1 5=false ∧ fld 1 6=false ∧ fld 1 7=false ∧ fldOk 1=true:=by refine ⟨rfl,rfl,rfl,rfl,rfl,rfl,rfl,rfl,rfl⟩
theorem fldv2:fld 2 0=true ∧ fld 2 1=false ∧ fld 2 2=false ∧ fld 2 3=true ∧ fld 2 4=true ∧ fld 2 5=false ∧ fld 2 6=false ∧ fld 2 7=false ∧ fldOk 2=true:=by refine ⟨rfl,rfl,rfl,rfl,rfl,rfl,rfl,rfl,rfl⟩
theorem fldv3:fld 3 0=false ∧ fld 3 1=false ∧ fld 3 2=false ∧ fld 3 3=false ∧ fld 3 4=true ∧ fld 3 5=false ∧ fld 3 6=true ∧ fld 3 7=true ∧ fldOk 3=true:=by refine ⟨rfl,rfl,rfl,rfl,rfl,rfl,rfl,rfl,rfl⟩
theorem fldv4:fld 4 0=false ∧ fld 4 1=false ∧ fld 4 2=false ∧ fld 4 3=false ∧ fld 4 4=true ∧ fld 4 5=false ∧ fld 4 6=true ∧ fld 4 7=false ∧ fldOk 4=true:=by refine ⟨rfl,rfl,rfl,rfl,rfl,rfl,rfl,rfl,rfl⟩
theorem fldv5:fld 5 0=false ∧ fld 5 1=false ∧ fld 5 2=false ∧ fld 5 3=false ∧ fld 5 4=true ∧ fld 5 5=false ∧ fld 5 6=false ∧ fld 5 7=false ∧ fldOk 5=true:=by refine ⟨rfl,rfl,rfl,rfl,rfl,rfl,rfl,rfl,rfl⟩
theorem fldv6:fld 6 0=true ∧ fld 6 1=true ∧ fld 6 2=false ∧ fld 6 3=false ∧ fld 6 4=false ∧ fld 6 5=true ∧ fld 6 6=false ∧ fld 6 7=false ∧ fldOk 6=true:=by refine ⟨rfl,rfl,rfl,rfl,rfl,rfl,rfl,rfl,rfl⟩
theorem fldv7:fld 7 0=false ∧ fld 7 1=false ∧ fld 7 2=true ∧ fld 7 3=false ∧ fld 7 4=false ∧ fld 7 5=false ∧ fld 7 6=false ∧ fld 7 7=false ∧ fldOk 7=true:=by refine ⟨rfl,rfl,rfl,rfl,rfl,rfl,rfl,rfl,rfl⟩
set_option maxRecDepth 100000 in
theorem wfsVisit : VisitS (cfgN pls levP2) 0 (fun (_ : Unit) _ => True) 80 [] fun x _ s => (wfSp x, s) := by
  intro x d s H hz _ _
  have hw:Plain (cfgN pls levP2) 80:=plainN (fun _=>rfl) rfl
  have kf:∀ k H,WpCall Try.prog (cfgN pls levP2) 114 [.int .i64 k] H fun v H'=>v=.tup [.agg [.bool (fld k 0),.bool (fld k 1),.bool (fld k 2),.bool (fld k 3),.bool (fld k 4),.bool (fld k 5),.bool (fld k 6),.bool (fld k 7)],.bool (fldOk k)] ∧ H'=H:=fun k H=>by
    have:=WpCall.en (P:=Try.prog) (pls:=pls) (l:=levP2) (enc:=fun n:Int=>[.int .i64 n]) (ok:=fun _=>True) (out:=fldA) intE_inj (g:=114) (x:=k) rfl trivial (H:=H)
    unfold fldA at this
    rw [fld_eq] at this
    exact this
  have km:∀ (s:List UInt8) (w:Bool),s.length < 2 ^ 60 → ∀ H,WpCall Try.prog (cfgN pls levP2) 115 [.str s,.bool w] H fun v H'=>v=.bool (nameF s w) ∧ H'=H:=fun s w h H=>WpCall.en (enc:=sbE) (out:=fun x=>.bool (nameF x.1 x.2)) sbE_inj (x:=(s,w)) rfl h
  have kx:∀ (y:Ex) (w:Bool),y.sz < 2 ^ 60 → ∀ H,WpCall Try.prog (cfgN pls levP2) 116 [.agg y.cells,.bool w] H fun v H'=>v=.bool (fieldE y w) ∧ H'=H:=fun y w h H=>WpCall.en (enc:=ebE) (out:=fun x=>.bool (fieldE x.1 x.2)) ebE_inj (x:=(y,w)) rfl h
  have hsz:=x.sz_eq
  have hlen:=exprsSz_len x.args
  have hx0:∀ a b,Ab.extract (.tup [a,b]) 0=some a:=fun _ _=>rfl
  have hx1:∀ a b,Ab.extract (.tup [a,b]) 1=some b:=fun _ _=>rfl
  refine WpCall.slim (M:=111) (rs:=[.tmp 4]) (hw.call _) hw.ice hw.froz Try.func80 rfl rfl code80.2 rfl ?_;dsimp only [code80,envOf,Nat.reduceAdd]
  repeat' (first
     | (apply Rx.nl ?_;clear hK K)|apply Rx.o ?_|apply Rx.on ?_|(apply Rx.call ?_;first|refine Rx.k (kf _ _) ?_|refine Rx.k (km _ _ (by omega) _) ?_|refine Rx.k (kx _ _ (by omega) _) ?_)|apply Rx.gu ?_|(apply Rx.gd (fun hg hgp=>?_) (fun hg hgp=>?_) <;> try (cases hg;done))|apply Wp.seq ?_|(apply Wp.ops' fun K hK=>?_)|apply Wp.block ?_|apply Rx.sk ?_|apply Rx.rt ?_|apply Rx.xt ?_)
  all_goals (first|(refine Rx.cd (t:=true) (h1:=fun _ _=>?_) (h2:=fun hzz _=>?_) <;> try (cases hzz;done))|skip)
  all_goals
    repeat' (first
       | (apply Rx.nl ?_;clear hK K)|apply Rx.o ?_|apply Rx.on ?_|apply Rx.gu ?_|(apply Rx.gd (fun hg hgp=>?_) (fun hg hgp=>?_) <;> try (cases hg;done))|apply Wp.seq ?_|(apply Wp.ops' fun K hK=>?_)|apply Wp.block ?_|apply Rx.sk ?_|apply Rx.rt ?_|apply Rx.xt ?_)
  all_goals (first|(refine ⟨eI,_,eR,?_⟩;(try simp only [oneOr]);refine ⟨by rw [wfSp];(try simp only [Bool.not_eq_true',Bool.not_eq_false'] at *);simp only [*,decide_true,decide_false,Bool.false_or,Bool.or_false,Bool.true_or,Bool.or_true,Bool.false_and,Bool.and_false,Bool.true_and,Bool.and_true,Bool.not_true,Bool.not_false,if_true,if_false,Int.reduceEq],(((FrB.refl _ _).alloc _).alloc _).set (.inl (by (try simp only [Hp.next_alloc]);omega)) _,trivial⟩;done)|skip)
  have hfr:FrB 0 H (((H.alloc (.cells x.cells 0 true)).alloc (.cells [.bool false,.bool false,.bool false,.bool false,.bool false,.bool false,.bool false,.bool false] 0 true)).set (H.next + 1) (.cells [.bool (fld x.kind 0),.bool (fld x.kind 1),.bool (fld x.kind 2),.bool (fld x.kind 3),.bool (fld x.kind 4),.bool (fld x.kind 5),.bool (fld x.kind 6),.bool (fld x.kind 7)] 0 true)):=(((FrB.refl _ _).alloc _).alloc _).set (.inl (by omega)) _
  refine Wp.fresh [2,4,5,48] fun E' hcE=>?_
  (try simp only [forall_cons,forall_nil,and_true,sB,sO,Nat.reduceBEq,Nat.reduceAdd,Nat.reduceLeDiff,tyF, *] at hcE)
  generalize hHb:Hp.set _ (H.next + 1) _=Hb at hfr ⊢
  have gb:Hb.get H.next=some (.cells x.cells 0 true):=by rw [← hHb,Hp.get_set,if_neg (by omega),Hp.get_alloc,if_neg (by simp only [Hp.next_alloc];omega),Hp.get_alloc,if_pos rfl]
  have gf:Hb.get (H.next + 1)=some (.cells [.bool (fld x.kind 0),.bool (fld x.kind 1),.bool (fld x.kind 2),.bool (fld x.kind 3),.bool (fld x.kind 4),.bool (fld x.kind 5),.bool (fld x.kind 6),.bool (fld x.kind 7)] 0 true):=by rw [← hHb,Hp.get_set,if_pos rfl]
  have nb:H.next + 2 ≤ Hb.next:=by rw [← hHb];exact Nat.le_refl _
  clear hHb
  refine Rx.cd (h1:=fun hb hbp=>?_) (h2:=fun hb hbp=>?_)
  · repeat' (first
       | (apply Rx.nl ?_;clear hK K)|apply Rx.o ?_|apply Rx.on ?_|apply Rx.gu ?_|(apply Rx.gd (fun hg hgp=>?_) (fun hg hgp=>?_) <;> try (cases hg;done))|apply Wp.seq ?_|(apply Wp.ops' fun K hK=>?_)|apply Wp.block ?_|apply Rx.sk ?_|apply Rx.rt ?_|apply Rx.xt ?_)
    all_goals (refine ⟨eI,_,eR,?_⟩;try simp only [oneOr])
    refine ⟨by rw [wfSp];(try simp only [Bool.not_eq_true',Bool.not_eq_false'] at *);simp only [*,decide_true,decide_false,Bool.false_or,Bool.or_false,Bool.true_or,Bool.or_true,Bool.false_and,Bool.and_false,Bool.true_and,Bool.and_true,Bool.not_true,Bool.not_false,if_true,if_false,Int.reduceEq],hfr,trivial⟩
  refine Wp.skip ?_
  dsimp only [thenQ,blockQ]
  refine Wp.seq ?_
  first
  | refine Wp.ops' fun K hK0=>?_
  | (simp only [slimR,slimL,slimD,slimG,Nat.blt,Nat.ble];refine Wp.ops' fun K hK0=>?_)
  | (refine Wp.seq ?_;refine Wp.ops' fun K hK0=>?_)
  have hK : ∀ E2 H2, (E2.at 2 = .ptr H.next 0 ∧ E2.at 4 = .bool false ∧ E2.at 99 = .bool (badB x) ∧ H2 = Hb) → K E2 H2 := by
    rintro E2 H2 ⟨k2,k4,k99,rfl⟩
    apply hK0
    clear hK0 K
    dsimp only [thenQ,blockQ]
    have hgood:(fldOk x.kind && nameF x.name (fld x.kind 0) && nameF x.to (fld x.kind 1) && fieldE x.at_ (fld x.kind 3) && fieldE x.value (fld x.kind 4))=true:=by (try simp only [Bool.not_eq_true',Bool.not_eq_false'] at *);simp only [*,decide_true,decide_false,Bool.false_or,Bool.or_false,Bool.true_or,Bool.or_true,Bool.false_and,Bool.and_false,Bool.true_and,Bool.and_true,Bool.not_true,Bool.not_false,if_true,if_false,Int.reduceEq]
    have hsp:wfSp x=(!badB x && wfEs x.args):=by
      have e:wfSp x=((fldOk x.kind && nameF x.name (fld x.kind 0) && nameF x.to (fld x.kind 1) && fieldE x.at_ (fld x.kind 3) && fieldE x.value (fld x.kind 4)) && (!badB x && wfEs x.args)):=by
        simp only [wfSp,badB,Bool.not_or,Bool.not_and,Bool.not_not,Bool.and_assoc]
      rw [e,hgood,Bool.true_and]
    repeat' (first
       | (apply Rx.nl ?_;clear hK K)|apply Rx.o ?_|apply Rx.on ?_|apply Rx.gu ?_|(apply Rx.gd (fun hg hgp=>?_) (fun hg hgp=>?_) <;> try (cases hg;done))|(apply Rx.cd (fun hb hbp=>?_) (fun hb hbp=>?_) <;> try (cases hb;done))|apply Wp.seq ?_|(apply Wp.ops' fun K hK=>?_)|apply Wp.block ?_|apply Rx.sk ?_|apply Rx.rt ?_|apply Rx.xt ?_)
    · all_goals (refine ⟨eI, _, eR, ?_⟩; try simp only [oneOr])
      refine ⟨by rw [hsp];(try simp only [Bool.not_eq_true',Bool.not_eq_false'] at *);simp only [*,decide_true,decide_false,Bool.false_or,Bool.or_false,Bool.true_or,Bool.or_true,Bool.false_and,Bool.and_false,Bool.true_and,Bool.and_true,Bool.not_true,Bool.not_false,if_true,if_false,Int.reduceEq],hfr,trivial⟩
    refine Wp.forI [2,4,101,102] [] 103 x.args.length (fun i E H2=>wfEs x.args=wfEs (x.args.drop i) ∧ FrB 0 H H2) eE ⟨by simp,hfr⟩ ?_
    rintro i E H3 hi hcE hrH hnH hsI ⟨hJ,hf2⟩
    (try simp only [forall_cons,forall_nil,and_true,sB,sO,Nat.reduceBEq,Nat.reduceAdd,Nat.reduceLeDiff,tyF, *] at hcE)
    (try simp only [forall_cons,forall_nil,and_true,sB,sO,Nat.reduceBEq,Nat.reduceAdd,Nat.reduceLeDiff,tyF, *] at hrH)
    (try simp only [Hp.next_alloc,Hp.next_set,H0_next,Nat.zero_add,Nat.reduceAdd] at hnH)
    repeat' (first
       | (apply Rx.nl ?_;clear hK K)|apply Rx.o ?_|apply Rx.on ?_|apply Rx.gu ?_|(apply Rx.gd (fun hg hgp=>?_) (fun hg hgp=>?_) <;> try (cases hg;done))|(apply Rx.cd (fun hb hbp=>?_) (fun hb hbp=>?_) <;> try (cases hb;done))|apply Wp.seq ?_|(apply Wp.ops' fun K hK=>?_)|apply Wp.block ?_|apply Rx.sk ?_|apply Rx.rt ?_|apply Rx.xt ?_)
    · have hlt : i < x.args.length := by simpa using hb
      have hgx:x.args[i]?=some x.args[i]:=List.getElem?_eq_getElem hlt
      have hsm:=exprsSz_mem (List.getElem_mem hlt)
      have hdr:wfEs (x.args.drop i)=(wfE x.args[i] && wfEs (x.args.drop (i + 1))):=by rw [List.drop_eq_getElem_cons hlt];rfl
      repeat' (first
         | (apply Rx.nl ?_;clear hK K)|apply Rx.o ?_|apply Rx.on ?_|apply Rx.gu ?_|(apply Rx.gd (fun hg hgp=>?_) (fun hg hgp=>?_) <;> try (cases hg;done))|(apply Rx.cd (fun hb hbp=>?_) (fun hb hbp=>?_) <;> try (cases hb;done))|apply Wp.seq ?_|(apply Wp.ops' fun K hK=>?_)|apply Wp.block ?_|apply Rx.sk ?_|apply Rx.rt ?_|apply Rx.xt ?_)
      refine WpL.call rfl eVk eAk ?_;simp only [List.cons_append,List.nil_append,List.append_nil]
      refine WpCall.mono ?_ (wfWalk (fun _=>rfl) (fun _=>rfl) ⟨fun _=>rfl,rfl⟩ ⟨fun _=>rfl,rfl⟩ x.args[i] (by omega) _)
      rintro v H4 ⟨rfl,hf4⟩
      dsimp only [setO]
      have hf5:FrB 0 H H4:=hf2.trans ((((FrB.refl _ _).alloc _).set (.inl (Nat.le_refl _)) _).trans hf4)
      have n4:=hf4.next
      simp only [Hp.next_set,Hp.next_alloc] at n4
      repeat' (first
         | (apply Rx.nl ?_;clear hK K)|apply Rx.o ?_|apply Rx.on ?_|apply Rx.gu ?_|(apply Rx.gd (fun hg hgp=>?_) (fun hg hgp=>?_) <;> try (cases hg;done))|(apply Rx.cd (fun hb hbp=>?_) (fun hb hbp=>?_) <;> try (cases hb;done))|apply Wp.seq ?_|(apply Wp.ops' fun K hK=>?_)|apply Wp.block ?_|apply Rx.sk ?_|apply Rx.rt ?_|apply Rx.xt ?_)
      all_goals (first|(refine ⟨eI,_,eR,?_⟩;(try simp only [oneOr]);refine ⟨by rw [hsp,hJ,hdr];(try simp only [Bool.not_eq_true',Bool.not_eq_false'] at *);simp only [*,decide_true,decide_false,Bool.false_or,Bool.or_false,Bool.true_or,Bool.or_true,Bool.false_and,Bool.and_false,Bool.true_and,Bool.and_true,Bool.not_true,Bool.not_false,if_true,if_false,Int.reduceEq],hf5,trivial⟩;done)|skip)
      refine ⟨by omega,eL,eL,eN,(by simp only [sB,Nat.reduceBEq, *];exact i64_succ (n:=x.args.length) (by omega) (by omega)),?_⟩
      exact ⟨by rw [hJ,hdr];(try simp only [Bool.not_eq_true',Bool.not_eq_false'] at *);simp only [*,decide_true,decide_false,Bool.false_or,Bool.or_false,Bool.true_or,Bool.or_true,Bool.false_and,Bool.and_false,Bool.true_and,Bool.and_true,Bool.not_true,Bool.not_false,if_true,if_false,Int.reduceEq],hf5⟩
    · all_goals (refine ⟨eI, _, eR, ?_⟩; try simp only [oneOr])
      refine ⟨by rw [hsp,hJ,show i=x.args.length by simp at hb;omega,List.drop_length];(try simp only [Bool.not_eq_true',Bool.not_eq_false'] at *);simp only [wfEs, *,decide_true,decide_false,Bool.false_or,Bool.or_false,Bool.true_or,Bool.or_true,Bool.false_and,Bool.and_false,Bool.true_and,Bool.and_true,Bool.not_true,Bool.not_false,if_true,if_false,Int.reduceEq],hf2,trivial⟩
  clear hK0
  repeat' (first
     | (apply Rx.nl ?_;clear hK K)|apply Rx.o ?_|apply Rx.on ?_|apply Rx.gu ?_|(apply Rx.gd (fun hg hgp=>?_) (fun hg hgp=>?_) <;> try (cases hg;done))|apply Wp.seq ?_|(apply Wp.ops' fun K hK=>?_)|apply Wp.block ?_|apply Rx.sk ?_|apply Rx.rt ?_|apply Rx.xt ?_)
  all_goals
    refine ⟨eE,eE,?_,rfl⟩
    rw [badB]
    (try simp only [Bool.not_eq_true',Bool.not_eq_false'] at *)
    simp only [sB,Nat.reduceBEq, *,decide_true,decide_false,Bool.false_or,Bool.or_false,Bool.true_or,Bool.or_true,Bool.false_and,Bool.and_false,Bool.true_and,Bool.and_true,Bool.not_true,Bool.not_false]
end Go.Proofs.Ytpbcimfiofmoeaa
namespace Go.Proofs.Ytpbcimfiofmoeaa
set_option maxRecDepth 20000
open Go Go.Ab
theorem len0 (n:Nat):(!decide ((0:Int) < n))=decide ((n:Int)=0):=by
 cases n with
 | zero=>rfl
 | succ n=>simp;omega
theorem rng0 (n:Int):(!decide (n < 0) && !decide (1000000 < n) && decide (n=0))=decide (n=0):=by
 by_cases h:n=0
 · subst h;rfl
 · simp [h]
theorem neg0 (n:Int):(!decide (n < 0))=decide (0 ≤ n):=by
 by_cases h:n < 0
 · simp [h]
 · simp [h];omega
theorem big0 (n:Int):(!decide (1000000 < n))=decide (n ≤ 1000000):=by
 by_cases h:1000000 < n
 · simp [h]
 · simp [h];omega
theorem wfSp_eq (x:St):wfSp x=wfStX x:=by
 have hk:x.kind=1 ∨ x.kind=2 ∨ x.kind=3 ∨ x.kind=4 ∨ x.kind=5 ∨ x.kind=6 ∨ x.kind=7 ∨ fldOk x.kind=false:=by
   simp only [fldOk,Bool.and_eq_false_iff,decide_eq_false_iff_not];omega
 rcases hk with hk|hk|hk|hk|hk|hk|hk|hk
 case inr.inr.inr.inr.inr.inr.inr =>
   have h:wfStK x=false:=by
     simp only [fldOk,Bool.and_eq_false_iff,decide_eq_false_iff_not] at hk
     unfold wfStK
     rw [if_neg (by omega),if_neg (by omega),if_neg (by omega),if_neg (by omega),if_neg (by omega),if_neg (by omega),if_neg (by omega)]
   rw [wfSp,wfStX,hk,h]
   simp
 all_goals
   have hr:=rng0 x.n
   simp only [wfSp,wfStX,wfStK,hk,fldv1,fldv2,fldv3,fldv4,fldv5,fldv6,fldv7,flatB,onlyB,nameF,fieldE,cond_true,cond_false,if_true,if_false,Int.reduceEq,Bool.true_and,Bool.and_true,Bool.false_or,Bool.true_or,len0,Bool.false_eq_true,reduceCtorEq]
   first
   | (rw [neg0,big0];ac_rfl)
   | (rw [← hr];ac_rfl)
mutual
theorem walk1_wf:∀ (x:St) (d:Int),walk1 (fun x _ (s:Unit)=>(wfSp x,s)) x d ()=(wfSt x,())
 | .mk k nm to n a v args th el, d => by
   rw [walk1,wfSt,wfSp_eq]
   cases h:wfStX (.mk k nm to n a v args th el) with
   | false=>simp
   | true =>
     simp only [walkS_wf th,Bool.true_and]
     cases h2:wfSs th with
     | false=>simp
     | true=>simp only [walkS_wf el,Bool.true_and]
theorem walkS_wf:∀ (l:List St) (d:Int),walkS (fun x _ (s:Unit)=>(wfSp x,s)) l d ()=(wfSs l,())
 | [],_=>rfl
 | x :: l, d => by
   rw [walkS,wfSs,walk1_wf x]
   cases h:wfSt x with
   | false=>simp
   | true=>simp only [walkS_wf l,Bool.true_and]
end
end Go.Proofs.Ytpbcimfiofmoeaa
namespace Go.Proofs.Ytpbcimfiofmoeaa
set_option maxRecDepth 20000
set_option maxRecDepth 20000
open Go Go.Ab
namespace tyP4d
def tyF:=And.intro @tq2 (And.intro @tq3 (And.intro @tq9 (And.intro @tq32 (And.intro @tq40 (And.intro @tq42 (And.intro @tq47 (And.intro @tq48 (And.intro @tq49 (And.intro @tq51 (And.intro @tq53 (And.intro @tq55 (@tq74))))))))))))
end tyP4d
open tyP4d
noncomputable def code44:{ c:SC // slim 55 (Try.f44.body.getD .skip)=c }:=by
 refine ⟨?_,?_⟩
 rotate_left
 · simp only [Try.f44, Option.getD_some, slim, slimR, slimL, slimD, slimG, Nat.blt, Nat.ble]
   rfl
theorem fnNames_all (f:Fu) (b:List UInt8 → Bool):(fnNames f).all b=(b f.name && f.params.all b && f.locals.all b):=by
 rw [fnNames,List.all_append,List.all_append,List.all_cons,List.all_nil,Bool.and_true]
set_option maxRecDepth 100000 in
theorem wellFormed_con (ρ : Nat → Int) (p : Pr) (hz : p.sz < 2 ^ 36) : Con Try.prog ρ 44 [.agg p.cells] (.bool (wfP p)) := Con.lev fit (pls := pls) (levP2_ok ρ) (.cons (.agg p.pure) .nil) (.bool _) (by
  have hw:Plain (cfgN pls levP2) 44:=plainN (fun _=>rfl) rfl
  have kn:∀ s:List UInt8,s.length < 2 ^ 60 → ∀ H,WpCall Try.prog (cfgN pls levP2) 76 [.str s] H fun v H'=>v=.bool (nameB s) ∧ H'=H:=fun s h1 H=>WpCall.en (enc:=bsE) (out:=fun x=>.bool (nameB x)) bsE_inj (x:=s) rfl h1
  have ks:∀ l:List (List UInt8),strsSz l < 2 ^ 60 → ∀ H,WpCall Try.prog (cfgN pls levP2) 77 [lstS l] H fun v H'=>v=.bool (l.all nameB) ∧ H'=H:=fun l h1 H=>WpCall.en (enc:=fun l:List (List UInt8)=>[lstS l]) (out:=fun l=>.bool (l.all nameB)) lsE_inj (x:=l) rfl h1
  have hpz:p.sz=1 + arrsSz p.arrays + fnsSz p.funcs:=rfl
  have hla:=arrsSz_len p.arrays
  have hlf:=fnsSz_len p.funcs
  refine WpCall.slim (M:=55) (rs:=[.tmp 2]) (hw.call _) hw.ice hw.froz Try.func44 rfl rfl code44.2 rfl ?_;dsimp only [code44,envOf,Nat.reduceAdd]
  repeat' (first
     | (apply Rx.nl ?_;clear hK K)|apply Rx.o ?_|apply Rx.on ?_|(apply Rx.gd (fun hg hgp=>?_) (fun hg hgp=>?_) <;> try (cases hg;done))|(apply Rx.cd (fun hb hbp=>?_) (fun hb hbp=>?_) <;> try (cases hb;done))|apply Wp.seq ?_|(apply Wp.ops' fun K hK=>?_)|apply Wp.block ?_|apply Rx.sk ?_|apply Rx.rt ?_|apply Rx.xt ?_)
  refine Wp.forI [1,8,9] [0] 10 p.arrays.length (fun i E H=>p.arrays.all (fun a=>nameB a.name)=(p.arrays.drop i).all (fun a=>nameB a.name)) eE (by simp) ?_
  rintro i E H2 hi hcE hrH hnH hsI hJ
  (try simp only [forall_cons,forall_nil,and_true,sB,sO,Nat.reduceBEq,Nat.reduceAdd,Nat.reduceLeDiff,tyF, *] at hcE)
  (try simp only [forall_cons,forall_nil,and_true,sB,sO,Nat.reduceBEq,Nat.reduceAdd,Nat.reduceLeDiff,tyF, *] at hrH)
  (try simp only [Hp.next_alloc,Hp.next_set,H0_next,Nat.zero_add,Nat.reduceAdd] at hnH)
  have hB0:(0 == H2.next)=false:=ne_beq (by omega)
  have hC0:(H2.next == 0)=false:=ne_beq (by omega)
  repeat' (first
     | (apply Rx.nl ?_;clear hK K)|apply Rx.o ?_|apply Rx.on ?_|(apply Rx.gd (fun hg hgp=>?_) (fun hg hgp=>?_) <;> try (cases hg;done))|(apply Rx.cd (fun hb hbp=>?_) (fun hb hbp=>?_) <;> try (cases hb;done))|apply Wp.seq ?_|(apply Wp.ops' fun K hK=>?_)|apply Wp.block ?_|apply Rx.sk ?_|apply Rx.rt ?_|apply Rx.xt ?_)
  · have hlt : i < p.arrays.length := by simpa using hb
    have hgx:p.arrays[i]?=some p.arrays[i]:=List.getElem?_eq_getElem hlt
    have hsm:=arrsSz_mem (List.getElem_mem hlt)
    have hdr:(p.arrays.drop i).all (fun a=>nameB a.name)=(nameB p.arrays[i].name && (p.arrays.drop (i + 1)).all (fun a=>nameB a.name)):=by rw [List.drop_eq_getElem_cons hlt,List.all_cons]
    repeat' (first
       | (apply Rx.nl ?_;clear hK K)|apply Rx.o ?_|apply Rx.on ?_|(apply Rx.call ?_;first|refine Rx.k (kn _ (by omega) _) ?_)|(apply Rx.gd (fun hg hgp=>?_) (fun hg hgp=>?_) <;> try (cases hg;done))|(apply Rx.cd (fun hb hbp=>?_) (fun hb hbp=>?_) <;> try (cases hb;done))|apply Wp.seq ?_|(apply Wp.ops' fun K hK=>?_)|apply Wp.block ?_|apply Rx.sk ?_|apply Rx.rt ?_|apply Rx.xt ?_)
    all_goals (first|(refine ⟨eI,_,eR,?_⟩;(try simp only [oneOr]);rw [wfP,hJ,hdr];(try simp only [Bool.not_eq_true',Bool.not_eq_false'] at *);simp only [*,decide_true,decide_false,Bool.false_or,Bool.or_false,Bool.true_or,Bool.or_true,Bool.false_and,Bool.and_false,Bool.true_and,Bool.and_true,Bool.not_true,Bool.not_false,if_true,if_false,Int.reduceEq];done)|skip)
    refine ⟨by omega,eL,eL,eN,(by simp only [sB,Nat.reduceBEq, *];exact i64_succ (n:=p.arrays.length) (by omega) (by omega)),?_⟩
    rw [hJ,hdr];(try simp only [Bool.not_eq_true',Bool.not_eq_false'] at *);simp only [*,decide_true,decide_false,Bool.false_or,Bool.or_false,Bool.true_or,Bool.or_true,Bool.false_and,Bool.and_false,Bool.true_and,Bool.and_true,Bool.not_true,Bool.not_false,if_true,if_false,Int.reduceEq]
  · have hie : i = p.arrays.length := by simp at hb; omega
    rw [hie,List.drop_length] at hJ
    have hJ':p.arrays.all (fun a=>nameB a.name)=true:=hJ
    clear hJ hie hsI hi
    refine Wp.forI [20,21] [0] 22 p.funcs.length (fun i E H=>p.funcs.all wfFn=(p.funcs.drop i).all wfFn) eE (by simp) ?_
    rintro i E H3 hi hcE hrH hnH hsI hJ
    (try simp only [forall_cons,forall_nil,and_true,sB,sO,Nat.reduceBEq,Nat.reduceAdd,Nat.reduceLeDiff,tyF, *] at hcE)
    (try simp only [forall_cons,forall_nil,and_true,sB,sO,Nat.reduceBEq,Nat.reduceAdd,Nat.reduceLeDiff,tyF, *] at hrH)
    (try simp only [Hp.next_alloc,Hp.next_set,H0_next,Nat.zero_add,Nat.reduceAdd] at hnH)
    have hB0:(0 == H3.next)=false:=ne_beq (by omega)
    have hC0:(H3.next == 0)=false:=ne_beq (by omega)
    repeat' (first
       | (apply Rx.nl ?_;clear hK K)|apply Rx.o ?_|apply Rx.on ?_|(apply Rx.gd (fun hg hgp=>?_) (fun hg hgp=>?_) <;> try (cases hg;done))|(apply Rx.cd (fun hb hbp=>?_) (fun hb hbp=>?_) <;> try (cases hb;done))|apply Wp.seq ?_|(apply Wp.ops' fun K hK=>?_)|apply Wp.block ?_|apply Rx.sk ?_|apply Rx.rt ?_|apply Rx.xt ?_)
    · have hlt : i < p.funcs.length := by simpa using hb
      have hgx:p.funcs[i]?=some p.funcs[i]:=List.getElem?_eq_getElem hlt
      have hsm:=fnsSz_mem (List.getElem_mem hlt)
      have hsz:p.funcs[i].sz=1 + p.funcs[i].name.length + strsSz p.funcs[i].params + strsSz p.funcs[i].locals + stmtsSz p.funcs[i].body + p.funcs[i].value.sz:=rfl
      have hdr:(p.funcs.drop i).all wfFn=(wfFn p.funcs[i] && (p.funcs.drop (i + 1)).all wfFn):=by rw [List.drop_eq_getElem_cons hlt,List.all_cons]
      have hfn:wfFn p.funcs[i]=(nameB p.funcs[i].name && p.funcs[i].params.all nameB && p.funcs[i].locals.all nameB && wfSs p.funcs[i].body && wfE p.funcs[i].value):=by rw [wfFn,fnNames_all]
      repeat' (first
         | (apply Rx.nl ?_;clear hK K)|apply Rx.o ?_|apply Rx.on ?_|(apply Rx.call ?_;first|refine Rx.k (kn _ (by omega) _) ?_|refine Rx.k (ks _ (by omega) _) ?_)|(apply Rx.gd (fun hg hgp=>?_) (fun hg hgp=>?_) <;> try (cases hg;done))|(apply Rx.cd (fun hb hbp=>?_) (fun hb hbp=>?_) <;> try (cases hb;done))|apply Wp.seq ?_|(apply Wp.ops' fun K hK=>?_)|apply Wp.block ?_|apply Rx.sk ?_|apply Rx.rt ?_|apply Rx.xt ?_)
      · refine WpL.call rfl eVk eAk ?_; simp only [List.cons_append, List.nil_append, List.append_nil]
        refine WpCall.mono ?_ (wfWalk (fun _=>rfl) (fun _=>rfl) ⟨fun _=>rfl,rfl⟩ ⟨fun _=>rfl,rfl⟩ p.funcs[i].value (by omega) _)
        rintro v H4 ⟨rfl,hf4⟩
        have hn4:=hf4.next
        simp only [Hp.next_set,Hp.next_alloc] at hn4
        have g4:H4.get H3.next=some (.cells p.funcs[i].cells 0 true):=by rw [hf4.get _ (Nat.zero_le _) (by simp only [Hp.next_set,Hp.next_alloc];omega),Hp.get_set,if_pos rfl]
        have g40:H4.get 0=some (.cells p.cells 0 true):=by rw [hf4.get _ (Nat.zero_le _) (by simp only [Hp.next_set,Hp.next_alloc];omega),Hp.get_set,if_neg (by omega),Hp.get_alloc,if_neg (by omega)];exact hrH
        dsimp only [setO]
        repeat' (first
           | (apply Rx.nl ?_;clear hK K)|apply Rx.o ?_|apply Rx.on ?_|(apply Rx.gd (fun hg hgp=>?_) (fun hg hgp=>?_) <;> try (cases hg;done))|(apply Rx.cd (fun hb hbp=>?_) (fun hb hbp=>?_) <;> try (cases hb;done))|apply Wp.seq ?_|(apply Wp.ops' fun K hK=>?_)|apply Wp.block ?_|apply Rx.sk ?_|apply Rx.rt ?_|apply Rx.xt ?_)
        · refine WpL.call rfl eVk eAk ?_; simp only [List.cons_append, List.nil_append, List.append_nil]
          refine WpCall.mono ?_ (walkStmts_wp (plainN (fun _=>rfl) rfl) (I:=fun (_:Unit) _=>True) (fun _ _ _ _ _=>trivial) wfsVisit (stmtsSz p.funcs[i].body + 1) p.funcs[i].body (by omega) 0 () H4 (by omega) (Nat.zero_le _) trivial)
          rintro v H5 ⟨rfl,hf5,_⟩
          have hn5:=hf5.next
          have g50:H5.get 0=some (.cells p.cells 0 true):=by rw [hf5.get _ (Nat.zero_le _) (by omega)];exact g40
          rw [walkS_wf]
          dsimp only [setO]
          repeat' (first
             | (apply Rx.nl ?_;clear hK K)|apply Rx.o ?_|apply Rx.on ?_|(apply Rx.gd (fun hg hgp=>?_) (fun hg hgp=>?_) <;> try (cases hg;done))|(apply Rx.cd (fun hb hbp=>?_) (fun hb hbp=>?_) <;> try (cases hb;done))|apply Wp.seq ?_|(apply Wp.ops' fun K hK=>?_)|apply Wp.block ?_|apply Rx.sk ?_|apply Rx.rt ?_|apply Rx.xt ?_)
          all_goals (first|(refine ⟨eI,_,eR,?_⟩;(try simp only [oneOr]);rw [wfP,hJ',hJ,hdr,hfn];(try simp only [Bool.not_eq_true',Bool.not_eq_false'] at *);simp only [*,decide_true,decide_false,Bool.false_or,Bool.or_false,Bool.true_or,Bool.or_true,Bool.false_and,Bool.and_false,Bool.true_and,Bool.and_true,Bool.not_true,Bool.not_false,if_true,if_false,Int.reduceEq];done)|skip)
          refine ⟨by omega,eL,eL,eN,(by simp only [sB,Nat.reduceBEq, *];exact i64_succ (n:=p.funcs.length) (by omega) (by omega)),?_⟩
          rw [hJ,hdr,hfn];(try simp only [Bool.not_eq_true',Bool.not_eq_false'] at *);simp only [*,decide_true,decide_false,Bool.false_or,Bool.or_false,Bool.true_or,Bool.or_true,Bool.false_and,Bool.and_false,Bool.true_and,Bool.and_true,Bool.not_true,Bool.not_false,if_true,if_false,Int.reduceEq]
        all_goals skip
        all_goals (first|(refine ⟨eI,_,eR,?_⟩;(try simp only [oneOr]);rw [wfP,hJ',hJ,hdr,hfn];(try simp only [Bool.not_eq_true',Bool.not_eq_false'] at *);simp only [*,decide_true,decide_false,Bool.false_or,Bool.or_false,Bool.true_or,Bool.or_true,Bool.false_and,Bool.and_false,Bool.true_and,Bool.and_true,Bool.not_true,Bool.not_false,if_true,if_false,Int.reduceEq];done)|skip)
      all_goals skip
      all_goals (first|(refine ⟨eI,_,eR,?_⟩;(try simp only [oneOr]);rw [wfP,hJ',hJ,hdr,hfn];(try simp only [Bool.not_eq_true',Bool.not_eq_false'] at *);simp only [*,decide_true,decide_false,Bool.false_or,Bool.or_false,Bool.true_or,Bool.or_true,Bool.false_and,Bool.and_false,Bool.true_and,Bool.and_true,Bool.not_true,Bool.not_false,if_true,if_false,Int.reduceEq];done)|skip)
    · all_goals (refine ⟨eI, _, eR, ?_⟩; try simp only [oneOr])
      have hie:i=p.funcs.length:=by simp at hb;omega
      rw [hie,List.drop_length] at hJ
      have hJ2:p.funcs.all wfFn=true:=hJ
      rw [wfP,hJ',hJ2];rfl)
end Go.Proofs.Ytpbcimfiofmoeaa
namespace Go.Proofs.Ytpbcimfiofmoeaa
set_option maxRecDepth 20000
set_option maxRecDepth 20000
open Go Go.Ab
namespace tyP4h
def tyF:=And.intro @tq32 (And.intro @tq40 (@tq42))
end tyP4h
open tyP4h
noncomputable def code22:{ c:SC // slim 16 (Try.f22.body.getD .skip)=c }:=by
 refine ⟨?_,?_⟩
 rotate_left
 · simp only [Try.f22, Option.getD_some, slim, slimR, slimL, slimD, slimG, Nat.blt, Nat.ble]
   rfl
noncomputable def enLim:En:=⟨43,false,spP (fun p=>p.sz < 2 ^ 36) prE fun p=>.bool (limP p)⟩
theorem limits_con (ρ:Nat → Int) (p:Pr) (hz:p.sz < 2 ^ 36):Con Try.prog ρ 43 (prE p) (.bool (limP p)):=Con.lev fit (pls:=pls) (l:=[]) trivial (.cons (.agg p.pure) .nil) (.bool _) (limits_wp ⟨plain0 _,plain0 _,plain0 _,plain0 _⟩ (plain0 _) (plain0 _) (plain0 _) p (by omega))
theorem enLim_ok (ρ:Nat → Int):EnOk Try.prog ρ enLim:=spP_ok fun p hp=>limits_con ρ p hp
noncomputable def enWfP:En:=⟨44,false,spP (fun p=>p.sz < 2 ^ 36) prE fun p=>.bool (wfP p)⟩
theorem enWfP_ok (ρ:Nat → Int):EnOk Try.prog ρ enWfP:=spP_ok fun p hp=>wellFormed_con ρ p hp
noncomputable def enDups:En:=⟨45,false,spP (fun p=>p.sz < 2 ^ 36) prE fun p=>.bool (dupB p)⟩
theorem enDups_ok (ρ:Nat → Int):EnOk Try.prog ρ enDups:=spP_ok fun p hp=>duplicates_con ρ p hp
noncomputable def enRsl:En:=⟨46,false,spP (fun p=>p.sz < 2 ^ 36) prE fun p=>.int .i64 (resP p)⟩
theorem enRsl_ok (ρ:Nat → Int):EnOk Try.prog ρ enRsl:=spP_ok fun p hp=>resolve_con ρ p hp
noncomputable def levChk:List En:=[enLim,enWfP,enDups,enRsl]
theorem levChk_ok (ρ:Nat → Int):EnsOk Try.prog ρ levChk:=⟨enLim_ok ρ,enWfP_ok ρ,enDups_ok ρ,enRsl_ok ρ,trivial⟩
theorem pcheck_con (ρ:Nat → Int) (p:Pr) (hz:p.sz < 2 ^ 36):Con Try.prog ρ 22 (prE p) (.int .i64 (refCheck p)):=Con.lev fit (pls:=pls) (levChk_ok ρ) (.cons (.agg p.pure) .nil) (.int _ _) (by
 have hw:Plain (cfgN pls levChk) 22:=plainN (fun _=>rfl) rfl
 have kl:∀ H,WpCall Try.prog (cfgN pls levChk) 43 [.agg p.cells] H fun v H'=>v=.bool (limP p) ∧ H'=H:=fun H=>WpCall.en (enc:=prE) (out:=fun p=>.bool (limP p)) prE_inj (x:=p) rfl hz
 have kw:∀ H,WpCall Try.prog (cfgN pls levChk) 44 [.agg p.cells] H fun v H'=>v=.bool (wfP p) ∧ H'=H:=fun H=>WpCall.en (enc:=prE) (out:=fun p=>.bool (wfP p)) prE_inj (x:=p) rfl hz
 have kd:∀ H,WpCall Try.prog (cfgN pls levChk) 45 [.agg p.cells] H fun v H'=>v=.bool (dupB p) ∧ H'=H:=fun H=>WpCall.en (enc:=prE) (out:=fun p=>.bool (dupB p)) prE_inj (x:=p) rfl hz
 have kr:∀ H,WpCall Try.prog (cfgN pls levChk) 46 [.agg p.cells] H fun v H'=>v=.int .i64 (resP p) ∧ H'=H:=fun H=>WpCall.en (enc:=prE) (out:=fun p=>.int .i64 (resP p)) prE_inj (x:=p) rfl hz
 rw [prE,← proCheck_eq]
 refine WpCall.slim (M:=16) (rs:=[.tmp 2]) (hw.call _) hw.ice hw.froz Try.func22 rfl rfl code22.2 rfl ?_;dsimp only [code22,envOf,Nat.reduceAdd]
 repeat' (first
    | (apply Rx.nl ?_;clear hK K)|apply Rx.o ?_|(apply Rx.call ?_;first|refine Rx.k (kl _) ?_|refine Rx.k (kw _) ?_|refine Rx.k (kd _) ?_|refine Rx.k (kr _) ?_)|(apply Rx.cd (fun hb hbp=>?_) (fun hb hbp=>?_) <;> try (cases hb;done))|apply Wp.seq ?_|(apply Wp.ops' fun K hK=>?_)|apply Wp.block ?_|apply Rx.sk ?_|apply Rx.rt ?_)
 all_goals
   all_goals (refine ⟨eI,_,eR,?_⟩;try simp only [oneOr])
   rw [proCheck]
   (try simp only [Bool.not_eq_true',Bool.not_eq_false'] at *);simp only [Bool.true_eq_false,Bool.false_eq_true, *,decide_true,decide_false,Bool.false_or,Bool.or_false,Bool.true_or,Bool.or_true,Bool.false_and,Bool.and_false,Bool.true_and,Bool.and_true,Bool.not_true,Bool.not_false,if_true,if_false,Int.reduceEq])
end Go.Proofs.Ytpbcimfiofmoeaa
namespace Go.Proofs.Ytpbcimfiofmoeaa
set_option maxRecDepth 20000
set_option maxRecDepth 20000
open Go Go.Ab
namespace tyG1
def tyF:=And.intro @tq3 (And.intro @tq9 (And.intro @tq47 (And.intro @tq2 (And.intro @tq154 (And.intro @bin_rem (@bin_quo))))))
end tyG1
open tyG1
noncomputable def code9:{ c:SC // slim 14 (Try.f9.body.getD .skip)=c }:=by
 refine ⟨?_,?_⟩
 rotate_left
 · simp only [Try.f9, Option.getD_some, slim, slimR, slimL, slimD, slimG, Nat.blt, Nat.ble]
   rfl
def pickG (n m:Int):Int:=if n.tmod m < 0 then w64 (n.tmod m + m) else n.tmod m
theorem pickG_range {n m:Int} (h:0 < m) (h2:m < 2 ^ 62):0 ≤ pickG n m ∧ pickG n m < m:=by
 unfold pickG
 have h3:=Int.tmod_lt_of_pos n h
 have h4:-m < n.tmod m:=by
   have:=Int.tmod_lt_of_pos (-n) h
   rw [Int.neg_tmod] at this
   omega
 split
 · unfold w64
   rw [IntWalk.i64_in _ (by omega)];omega
 · omega
def pkE (x:Int × Int):List AV:=[.int .i64 x.1,.int .i64 x.2]
theorem pkE_inj (x y:Int × Int) (h:pkE x=pkE y):x=y:=by
 simp only [pkE,List.cons.injEq,AV.int.injEq,and_true,true_and] at h
 exact Prod.ext h.1 h.2
theorem pick_con (ρ:Nat → Int) (x:Int × Int) (hx:x.2 ≠ 0):Con Try.prog ρ 9 (pkE x) (.int .i64 (pickG x.1 x.2)):=Con.lev fit (pls:=pls) (l:=[]) trivial (.cons (.int _ _) (.cons (.int _ _) .nil)) (.int _ _) (by
 have hw:=plain0 9
 obtain ⟨n,m⟩:=x
 rw [pkE]
 simp only [] at hx ⊢
 refine WpCall.slim (M:=14) (rs:=[.tmp 4]) (hw.call _) hw.ice hw.froz Try.func9 rfl rfl code9.2 rfl ?_;dsimp only [code9,envOf,Nat.reduceAdd]
 repeat' (first
    | (apply Rx.nl ?_;clear hK K)|apply Rx.o ?_|(apply Rx.cd (fun hb hbp=>?_) (fun hb hbp=>?_) <;> try (cases hb;done))|apply Wp.seq ?_|(apply Wp.ops' fun K hK=>?_)|apply Rx.sk ?_|apply Rx.rt ?_)
 all_goals (refine ⟨eI,_,eR,?_⟩;try simp only [oneOr])
 all_goals (simp_all [pickG];try omega))
noncomputable def enPick:En:=⟨9,false,spP (fun x=>x.2 ≠ 0) pkE fun x=>.int .i64 (pickG x.1 x.2)⟩
theorem enPick_ok (ρ:Nat → Int):EnOk Try.prog ρ enPick:=spP_ok fun x hx=>pick_con ρ x hx
end Go.Proofs.Ytpbcimfiofmoeaa
namespace Go.Proofs.Ytpbcimfiofmoeaa
set_option maxRecDepth 20000
set_option maxRecDepth 20000
open Go Go.Ab
namespace tyG2
def tyF:=And.intro @tq3 (And.intro @tq23 (@tq77))
end tyG2
open tyG2
def RdW (S:Nat → Prop) (n:Nat) (H:Hp) (v w:AV):Prop:=∃ u,Ic S n H v u ∧ ∀ m,n ≤ m → wkN m u=w
def CellsW (S:Nat → Prop) (n:Nat) (H:Hp) (cs ws:List AV):Prop:=∃ us,All2 (Ic S n H) cs us ∧ ∀ m,n ≤ m → us.map (wkN m)=ws
theorem RdW.frame {S S':Nat → Prop} (hS:∀ k,S k → S' k) {n:Nat} {H H':Hp} {v w:AV} (h:RdW S n H v w) (hn:H.next ≤ H'.next) (hf:∀ k,S k → k < H.next → SameB (H.get k) (H'.get k)):RdW S' n H' v w:=by
 obtain ⟨u,h1,h2⟩:=h
 exact ⟨u,h1.frame hS hn hf,h2⟩
theorem CellsW.frame {S S':Nat → Prop} (hS:∀ k,S k → S' k) {n:Nat} {H H':Hp} {v w:List AV} (h:CellsW S n H v w) (hn:H.next ≤ H'.next) (hf:∀ k,S k → k < H.next → SameB (H.get k) (H'.get k)):CellsW S' n H' v w:=by
 obtain ⟨u,h1,h2⟩:=h
 exact ⟨u,h1.mono fun a b k=>k.frame hS hn hf,h2⟩
theorem CellsW.keep {S S':Nat → Prop} (hS:∀ k,S k → S' k) {n:Nat} {H H':Hp} {v w:List AV} (h:CellsW S n H v w) (hn:H.next ≤ H'.next) (hf:∀ k,S k → k < H.next → H'.get k=H.get k):CellsW S' n H' v w:=h.frame hS hn fun k h1 h2=>.inl (hf k h1 h2).symm
theorem RdW.keep {S S':Nat → Prop} (hS:∀ k,S k → S' k) {n:Nat} {H H':Hp} {v w:AV} (h:RdW S n H v w) (hn:H.next ≤ H'.next) (hf:∀ k,S k → k < H.next → H'.get k=H.get k):RdW S' n H' v w:=h.frame hS hn fun k h1 h2=>.inl (hf k h1 h2).symm
theorem RdW.up {S:Nat → Prop} {n m:Nat} {H:Hp} {v w:AV} (h:RdW S n H v w) (hm:n ≤ m):RdW S m H v w:=by
 obtain ⟨u,h1,h2⟩:=h
 exact ⟨u,h1.up hm,fun k hk=>h2 k (by omega)⟩
theorem CellsW.nil {S:Nat → Prop} {n:Nat} {H:Hp}:CellsW S n H [] []:=⟨[],trivial,fun _ _=>rfl⟩
theorem CellsW.cons {S:Nat → Prop} {n:Nat} {H:Hp} {v w:AV} {cs ws:List AV} (h:RdW S n H v w) (k:CellsW S n H cs ws):CellsW S n H (v :: cs) (w :: ws):=by
 obtain ⟨u,h1,h2⟩:=h
 obtain ⟨us,h3,h4⟩:=k
 exact ⟨u :: us,⟨h1,h3⟩,fun m hm=>by rw [List.map_cons,h2 m hm,h4 m hm]⟩
theorem RdW.flat {S:Nat → Prop} {n:Nat} {H:Hp} {v:AV} (h:flatA v) (hk:∀ m,wkN m v=v):RdW S (n + 1) H v v:=⟨v,Ic.flat h,fun m _=>hk m⟩
theorem RdW.int {S:Nat → Prop} {n:Nat} {H:Hp} (k:IntKind) (x:Int):RdW S (n + 1) H (.int k x) (.int k x):=.flat ⟨.int _ _,trivial⟩ fun m=>by cases m <;> rfl
theorem RdW.str {S:Nat → Prop} {n:Nat} {H:Hp} (s:List UInt8):RdW S (n + 1) H (.str s) (.str s):=.flat ⟨.str _,trivial⟩ fun m=>by cases m <;> rfl
theorem RdW.nilS {S:Nat → Prop} {n:Nat} {H:Hp}:RdW S (n + 1) H .nilS (.lst []):=⟨.nilS,Ic.flat ⟨.nilS,trivial⟩,fun m hm=>by
 obtain ⟨m,rfl⟩:∃ k,m=k + 1:=⟨m - 1,by omega⟩
 rfl⟩
def RowsW (S:Nat → Prop) (n:Nat) (H:Hp) (z:Nat):List (List AV) → List (List AV) → Prop:=All2 fun a b=>a.length=z ∧ CellsW S n H a b
theorem RowsW.two {S:Nat → Prop} {n z:Nat} {H:Hp}:∀ {a b:List (List AV)},RowsW S n H z a b → ∃ u,All2 (All2 (Ic S n H)) a u ∧ (∀ m,n ≤ m → u.map (List.map (wkN m))=b) ∧ ∀ x ∈ a,x.length=z
 | [],[],_=>⟨[],trivial,fun _ _=>rfl,by simp⟩
 | x :: a, y :: b, ⟨⟨hz, v, h1, h2⟩, h⟩ => by
   obtain ⟨u,h3,h4,h5⟩:=RowsW.two (a:=a) (b:=b) h
   exact ⟨v :: u,⟨h1,h3⟩,fun m hm=>by rw [List.map_cons,h2 m hm,h4 m hm],fun q hq=>by
     rcases List.mem_cons.1 hq with rfl|hq
     · exact hz
     · exact h5 q hq⟩
theorem RdW.rows {S:Nat → Prop} {n:Nat} {H:Hp} {r z imm:Nat} {tip:Bool} {a b:List (List AV)} (hS:S r) (hr:r < H.next) (hg:H.get r=some (.cells a.flatten imm tip)) (hi:imm ≤ a.flatten.length) (h:RowsW S n H z a b):RdW S (n + 1) H (.sl r 0 a.length z) (.lst b):=by
 obtain ⟨u,h1,h2,h3⟩:=RowsW.two h
 refine ⟨.lst u,Ic.rows hS hr hg hi h3 h1,fun m hm=>?_⟩
 obtain ⟨m,rfl⟩:∃ k,m=k + 1:=⟨m - 1,by omega⟩
 show AV.lst (u.map fun row=>row.map (wkN m))=_
 rw [← h2 m (by omega)]
theorem RowsW.frame {S S':Nat → Prop} (hS:∀ k,S k → S' k) {n z:Nat} {H H':Hp} {a b:List (List AV)} (h:RowsW S n H z a b) (hn:H.next ≤ H'.next) (hf:∀ k,S k → k < H.next → H'.get k=H.get k):RowsW S' n H' z a b:=All2.mono (fun x y k=>⟨k.1,k.2.keep hS hn hf⟩) h
end Go.Proofs.Ytpbcimfiofmoeaa
namespace Go.Proofs.Ytpbcimfiofmoeaa
set_option maxRecDepth 20000
open Go Go.Ab
theorem CellsW.keep2 {S S':Nat → Prop} {n:Nat} {H H':Hp} {v w:List AV} (h:CellsW S n H v w) (hS:∀ k,k < H.next → S k → S' k) (hn:H.next ≤ H'.next) (hf:∀ k,S k → k < H.next → H'.get k=H.get k):CellsW S' n H' v w:=by
 obtain ⟨u,h1,h2⟩:=h
 exact ⟨u,h1.mono fun a b k=>k.frame2 hS hn fun q h3 h4=>.inl (hf q h3 h4).symm,h2⟩
theorem RowsW.keep2 {S S':Nat → Prop} {n z:Nat} {H H':Hp} {a b:List (List AV)} (h:RowsW S n H z a b) (hS:∀ k,k < H.next → S k → S' k) (hn:H.next ≤ H'.next) (hf:∀ k,S k → k < H.next → H'.get k=H.get k):RowsW S' n H' z a b:=All2.mono (fun x y k=>⟨k.1,k.2.keep2 hS hn hf⟩) h
theorem RowsW.len {S:Nat → Prop} {n z:Nat} {H:Hp}:∀ {a b:List (List AV)},RowsW S n H z a b → ∀ x ∈ a,x.length=z
 | [],[],_,x,hx=>by simp at hx
 | y :: a, w :: b, h, x, hx => by
   rcases List.mem_cons.1 hx with rfl|hx
   · exact h.1.1
   · exact RowsW.len h.2 x hx
def RowOwn (S:Nat → Prop) (n:Nat) (H:Hp) (z:Nat) (v:AV) (ws:List (List AV)):Prop:=
 (v=.nilS ∧ ws=[]) ∨ ∃ q imm rows,v=.sl q 0 rows.length z ∧ S q ∧ q < H.next ∧ H.get q=some (.cells rows.flatten imm true) ∧ imm ≤ rows.flatten.length ∧ RowsW (fun k=>S k ∧ k ≠ q) n H z rows ws
theorem RowOwn.rd {S:Nat → Prop} {n:Nat} {H:Hp} {z:Nat} {v:AV} {ws:List (List AV)} (h:RowOwn S n H z v ws):RdW S (n + 1) H v (.lst ws):=by
 rcases h with ⟨rfl,rfl⟩|⟨q,imm,rows,rfl,h1,h2,h3,h4,h5⟩
 · exact .nilS
 · exact .rows h1 h2 h3 h4 (h5.frame (fun k hk=>hk.1) (Nat.le_refl _) fun _ _ _=>rfl)
theorem RowOwn.keep {S S':Nat → Prop} {n:Nat} {H H':Hp} {z:Nat} {v:AV} {ws:List (List AV)} (h:RowOwn S n H z v ws) (hS:∀ k,k < H.next → S k → S' k) (hn:H.next ≤ H'.next) (hf:∀ k,S k → k < H.next → H'.get k=H.get k):RowOwn S' n H' z v ws:=by
 rcases h with h|⟨q,imm,rows,e,h1,h2,h3,h4,h5⟩
 · exact .inl h
 · exact .inr ⟨q,imm,rows,e,hS q h2 h1,by omega,by rw [hf q h1 h2];exact h3,h4,h5.keep2 (fun k hk hq=>⟨hS k hk hq.1,hq.2⟩) hn fun k h6 h7=>hf k h6.1 h7⟩
theorem RowOwn.one {S:Nat → Prop} {n:Nat} {H:Hp} {z:Nat} {v:AV} {ws:List (List AV)} (h:RowOwn S n H z v ws):AV.one v=true ∧ v.cells=[v]:=by
 rcases h with ⟨rfl,rfl⟩|⟨q,imm,rows,rfl,_⟩ <;> exact ⟨rfl,rfl⟩
end Go.Proofs.Ytpbcimfiofmoeaa
namespace Go.Proofs.Ytpbcimfiofmoeaa
set_option maxRecDepth 20000
open Go Go.Ab
noncomputable def enChkP:En:=⟨22,true,spP (fun p=>p.sz < 2 ^ 36) prE fun p=>.int .i64 (refCheck p)⟩
theorem enChkP_ok (ρ:Nat → Int):EnOk Try.prog ρ enChkP:=spP_ok fun p hp=>pcheck_con ρ p hp
end Go.Proofs.Ytpbcimfiofmoeaa
namespace Go.Proofs.Ytpbcimfiofmoeaa
set_option maxRecDepth 20000
open Go Go.Ab
theorem prE_ns (p:Pr):(prE p).any (hasSl 90)=false:=rfl
theorem chkX {l:List En} (hl:∀ ar,lookN l 22 ar=(enW enChkP).sp ar) (hi:iceN l 22=true) {S:Nat → Prop} {n:Nat} {H:Hp} {cs:List AV} {p:Pr} (hn:n < 59) (hc:CellsW S n H cs p.cells) (hz:p.sz < 2 ^ 36) :
   WpCall Try.prog (cfgN pls l) 22 [.agg cs] H fun v H'=>v=.int .i64 (refCheck p) ∧ Icy S H H':=by
 obtain ⟨us,h1,h2⟩:=hc
 refine WpCall.enX (x:=p) (enc:=prE) (ok:=fun p=>p.sz < 2 ^ 36) (out:=fun p=>.int .i64 (refCheck p)) (us:=[.agg us]) (n:=n + 1) prE_inj (fun ar=>by rw [hl];rfl) hi prE_ns hz (by omega) ⟨⟨us,h1,rfl⟩,trivial⟩ ?_
 show [AV.agg (us.map (wkN 59))]=_
 rw [h2 59 (by omega)];rfl
end Go.Proofs.Ytpbcimfiofmoeaa
namespace Go.Proofs.Ytpbcimfiofmoeaa
set_option maxRecDepth 20000
open Go Go.Ab
theorem wk_int (m:Nat) (k:IntKind) (n:Int):wkN m (.int k n)=.int k n:=by cases m <;> rfl
theorem wk_str (m:Nat) (s:List UInt8):wkN m (.str s)=.str s:=by cases m <;> rfl
theorem Ar.wk (m:Nat) (x:Ar):x.cells.map (wkN m)=x.cells:=by
 rw [Ar.cells_eq]
 simp only [List.map_cons,List.map_nil,wk_str,wk_int]
theorem wk_rows {α:Type} {f:α → List AV} (h:∀ m x,(f x).map (wkN m)=f x) (l:List α) (m:Nat):wkN m (.lst (l.map f))=.lst (l.map f):=by
 cases m with
 | zero=>rfl
 | succ m =>
   simp only [wkN,List.map_map]
   have:(fun row=>List.map (wkN m) row) ∘ f=f:=funext fun y=>h m y
   rw [this]
theorem RdW.intsM {S:Nat → Prop} {n:Nat} {H:Hp} {q imm:Nat} {tip:Bool} (l:List Int) (hS:S q) (hq:q < H.next) (hg:H.get q=some (.cells (l.map fun n=>.int .i64 n) imm tip)) (hi:imm ≤ l.length):RdW S (n + 2) H (.sl q 0 l.length 1) (.lst (l.map fun n=>[.int .i64 n])):=by
 have hf:(l.map fun n=>[AV.int .i64 n]).flatten=l.map fun n=>AV.int .i64 n:=by
   clear hg hi
   induction l with
   | nil=>rfl
   | cons a l ih=>rw [List.map_cons,List.flatten_cons,ih];rfl
 have hr:∀ l:List Int,RowsW S (n + 1) H 1 (l.map fun n=>[AV.int .i64 n]) (l.map fun n=>[AV.int .i64 n]):=fun l=>by
   induction l with
   | nil=>trivial
   | cons a l ih=>exact ⟨⟨rfl,.cons (.int _ _) .nil⟩,ih⟩
 have:=RdW.rows (n:=n + 1) (a:=l.map fun n=>[AV.int .i64 n]) (imm:=imm) (tip:=tip) hS hq (by rw [hf];exact hg) (by rw [hf,List.length_map];exact hi) (hr l)
 rw [List.length_map] at this
 exact this
end Go.Proofs.Ytpbcimfiofmoeaa
namespace Go.Proofs.Ytpbcimfiofmoeaa
set_option maxRecDepth 20000
open Go Go.Ab
theorem RowOwn.pushS {P : Program} {t e : TypeId} {z b : Nat} {zz : List AV} (ht : P.underlying t = some (.slice e)) (hs : sizeA P e = some z) (hb : bytesA P e = some b) (hz : zeroA P e = some zz) (hzz : zz.length = z) (hsrc : srcType P t = true)
    {S S':Nat → Prop} {n:Nat} {H:Hp} {v:AV} {ws:List (List AV)} (h:RowOwn S n H z v ws) (hSS:∀ k,k < H.next → S k → S' k) (hN:S' H.next) {r imm:Nat} {row:List AV} (hg:H.get r=some (.cells row imm true)) (hrow:row.length=z) (hone:row.all AV.one=true)
    (hb1:(ws.length + 1) * b ≤ maxRoom) (hb2:ws.length + 1 ≤ maxRoom) :
    ∃ H' rows imm', appendA P false H t t v (.sl r 0 1 z) = some (.sl H.next 0 (ws.length + 1) z, H') ∧ rows.length = ws.length ∧ (∀ x ∈ rows, x.length = z) ∧ H'.get H.next = some (.cells (rows.flatten ++ row) imm' true) ∧ imm' ≤ rows.flatten.length ∧ H'.next = H.next + 1 ∧ (∀ k, k < H.next → (∀ o m z', v ≠ .sl k o m z') → H'.get k = H.get k) ∧
      RowsW (fun k=>S' k ∧ k ≠ H.next) n H' z rows ws:=by
  have hx:srcCells H z (.sl r 0 1 z)=some (1,row):=by
    have:=src_sl (H:=H) (r:=r) (o:=0) (n:=1) (z:=z) (s:=z) hg (by rw [List.drop_zero,List.length_take];omega)
    rw [this,List.drop_zero,List.take_of_length_le (by omega)]
  rcases h with ⟨rfl,rfl⟩|⟨q,imm',rows,rfl,h1,h2,h3,h4,h5⟩
  · exact ⟨H.alloc (.cells row 0 true),[],0,append_nil ht hs hb hz hsrc hx hone hzz (by simpa using hb1) (by simpa using hb2),rfl,by simp,by rw [Hp.get_alloc,if_pos rfl];simp,Nat.zero_le _,rfl,fun k hk _=>by rw [Hp.get_alloc,if_neg (by omega)],trivial⟩
  · have hrl := rows_len (RowsW.len h5)
    have hwl:rows.length=ws.length:=All2.len h5
    have htr:trimA false H z (.sl q 0 rows.length z)=H:=by
      unfold trimA
      simp only [h3,Nat.zero_add]
      have:Nat.blt (rows.length * z) rows.flatten.length=false:=by
        cases hb:Nat.blt (rows.length * z) rows.flatten.length with
        | false=>rfl
        | true=>rw [Nat.blt_eq] at hb;omega
      simp only [Bool.not_false,Bool.true_and,this,Bool.false_and]
    refine ⟨(H.kill q).alloc (.cells (rows.flatten ++ row) (imm' - 0) true),rows,imm' - 0,?_,hwl,RowsW.len h5,?_,by omega,rfl,fun k hk hno=>?_,?_⟩
    · simp only [appendA, ht, hs, hb, hz, hsrc, hx, hone, htr, hzz, and_self, if_true, appendOnto, h3, Nat.zero_add, List.drop_zero, Bool.false_eq_true, if_false]
      rw [if_pos ⟨by rw [hwl];exact hb1,by rw [hwl];exact hb2,by omega,trivial,h4⟩,hwl]
    · show ((H.kill q).alloc _).get (H.kill q).next = _
      rw [Hp.get_alloc,if_pos rfl]
    · rw [Hp.get_alloc,if_neg (by simp only [Hp.next_kill];omega),Hp.get_kill,if_neg (fun e=>hno 0 rows.length z (by rw [e]))]
    · exact h5.keep2 (fun k h6 h7=>⟨hSS k h6 h7.1,by omega⟩) (Nat.le_succ _) fun k h6 h7=>by rw [Hp.get_alloc,if_neg (by simp only [Hp.next_kill];omega),Hp.get_kill,if_neg h6.2]
theorem RowOwn.of {S:Nat → Prop} {n q z imm:Nat} {H:Hp} {rows ws:List (List AV)} {row w:List AV} (hS:S q) (hq:q < H.next) (hz:∀ x ∈ rows,x.length=z) (hrow:row.length=z) (hg:H.get q=some (.cells (rows.flatten ++ row) imm true)) (hi:imm ≤ rows.flatten.length) (hr:RowsW (fun k=>S k ∧ k ≠ q) n H z rows ws) (hw:CellsW (fun k=>S k ∧ k ≠ q) n H row w):RowOwn S n H z (.sl q 0 (ws.length + 1) z) (ws ++ [w]):=by
 have hl:rows.length=ws.length:=All2.len hr
 exact .inr ⟨q,imm,rows ++ [row],by rw [List.length_append,hl];rfl,hS,hq,by rw [hg];simp,by rw [List.flatten_append,List.length_append];omega,hr.append ⟨⟨hrow,hw⟩,trivial⟩⟩
end Go.Proofs.Ytpbcimfiofmoeaa
namespace Go.Proofs.Ytpbcimfiofmoeaa
set_option maxRecDepth 20000
open Go Go.Ab
theorem RowOwn.pushN {P:Program} {t e:TypeId} {z b:Nat} {zz:List AV} (ht:P.underlying t=some (.slice e)) (hs:sizeA P e=some z) (hb:bytesA P e=some b) (hz:zeroA P e=some zz) (hzz:zz.length=z) (hsrc:srcType P t=true)
   {S S':Nat → Prop} {n:Nat} {H:Hp} {v:AV} {ws:List (List AV)} (h:RowOwn S n H z v ws) (hSS:∀ k,k < H.next → S k → S' k) (hN:S' H.next) {r imm:Nat} {row w:List AV} (hg:H.get r=some (.cells row imm true)) (hrow:row.length=z) (hone:row.all AV.one=true)
   (hw:CellsW (fun k=>S' k ∧ ∀ o m z',v ≠ .sl k o m z') n H row w) (hb1:(ws.length + 1) * b ≤ maxRoom) (hb2:ws.length + 1 ≤ maxRoom) :
   ∃ H',appendA P false H t t v (.sl r 0 1 z)=some (.sl H.next 0 (ws.length + 1) z,H') ∧ RowOwn S' n H' z (.sl H.next 0 (ws.length + 1) z) (ws ++ [w]) ∧ H'.next=H.next + 1 ∧ (∀ k,k < H.next → (∀ o m z',v ≠ .sl k o m z') → H'.get k=H.get k):=by
 obtain ⟨H',rows,imm',a1,a2,a3,a4,a5,a6,a7,a8⟩:=RowOwn.pushS (P:=P) ht hs hb hz hzz hsrc h hSS hN hg hrow hone hb1 hb2
 refine ⟨H',a1,?_,a6,a7⟩
 exact RowOwn.of hN (by omega) a3 hrow a4 a5 a8 (hw.keep2 (fun k h1 h2=>⟨h2.1,by omega⟩) (by omega) fun k h1 h2=>a7 k h2 h1.2)
end Go.Proofs.Ytpbcimfiofmoeaa
namespace Go.Proofs.Ytpbcimfiofmoeaa
set_option maxRecDepth 20000
set_option maxRecDepth 20000
open Go Go.Ab
namespace tyV7
def tyF:=And.intro @tq2 (And.intro @tq3 (And.intro @tq9 (And.intro @tq26 (And.intro @tq28 (And.intro @tq31 (And.intro @tq32 (And.intro @tq34 (And.intro @tq40 (And.intro @tq42 (And.intro @tq44 (And.intro @tq47 (And.intro @tq48 (And.intro @tq49 (And.intro @tq51 (And.intro @tq53 (@tq74))))))))))))))))
end tyV7
open tyV7
noncomputable def code11:{ c:SC // slim 43 (Try.f11.body.getD .skip)=c }:=by
 refine ⟨?_,?_⟩
 rotate_left
 · simp only [Try.f11, Option.getD_some, slim, slimR, slimL, slimD, slimG, Nat.blt, Nat.ble]
   rfl
def grF (g:Gr):Fu:=⟨g.name,[],[],[],.mk 1 0 [] 0 []⟩
def pOf (u:Un):Pr:=⟨u.arrays,u.funcs.map grF⟩
def unitI (u:Un):Bool:=decide (refCheck (pOf u)=0) && u.funcs.all (vgI u)
structure UnOk (u:Un):Prop where
 a:u.arrays.length < 2 ^ 30
 f:u.funcs.length < 2 ^ 30
 g:∀ g ∈ u.funcs,NdsOk g.nodes
 z:(pOf u).sz < 2 ^ 36
noncomputable def enVg:En:=⟨23,false,spP vgOk vgE fun x=>.bool (vgI x.u x.g)⟩
theorem enVg_ok (ρ:Nat → Int):EnOk Try.prog ρ enVg:=spP_ok fun x hx=>validGraph_con ρ x hx
noncomputable def levU:List En:=[enW enChkP,enVg]
theorem levU_ok (ρ:Nat → Int):EnsOk Try.prog ρ levU:=⟨enW_ok (enChkP_ok ρ),enVg_ok ρ,trivial⟩
theorem bF1 (s:List UInt8):buildA Try.prog 53 [(0,.str s),(4,.agg [.int .i64 1,.int .i64 0,.str [],.int .i64 0,.nilS])]=some (.agg [.str s,.nilS,.nilS,.nilS,.int .i64 1,.int .i64 0,.str [],.int .i64 0,.nilS]):=by kernel_rfl
theorem bE1:buildA Try.prog 51 [(0,.int .i64 1)]=some (.agg [.int .i64 1,.int .i64 0,.str [],.int .i64 0,.nilS]):=by kernel_rfl
theorem bP1 (a:AV) (xs:List (List AV)) (h:a=.lst xs):buildA Try.prog 42 [(0,a)]=some (.agg [a,.nilS]):=by subst h;kernel_rfl
theorem bsF1 (H:Hp) (s:List UInt8):buildSliceA Try.prog H 40 1 [(0,.agg [.str s,.nilS,.nilS,.nilS,.int .i64 1,.int .i64 0,.str [],.int .i64 0,.nilS])]=some (.sl H.next 0 1 9,H.alloc (.cells [.str s,.nilS,.nilS,.nilS,.int .i64 1,.int .i64 0,.str [],.int .i64 0,.nilS] 0 true)):=by kernel_rfl
theorem grF_row {S:Nat → Prop} {H:Hp} (g:Gr):CellsW S 2 H [.str g.name,.nilS,.nilS,.nilS,.int .i64 1,.int .i64 0,.str [],.int .i64 0,.nilS] (grF g).cells:=
 .cons (.str _) (.cons .nilS (.cons .nilS (.cons .nilS (.cons (.int _ _) (.cons (.int _ _) (.cons (.str _) (.cons (.int _ _) (.cons .nilS .nil))))))))
set_option maxRecDepth 100000 in
theorem ivalid_con (ρ : Nat → Int) (u : Un) (hu : UnOk u) : Con Try.prog ρ 11 [.agg u.cells] (.bool (unitI u)) := Con.lev fit (pls := pls) (levU_ok ρ) (.cons (.agg (Un.pure _)) .nil) (.bool _) (by
  obtain ⟨ha,hf,hg,hz⟩:=hu
  have hw:Plain (cfgN pls levU) 11:=plainN (fun _=>rfl) rfl
  have hkeep:(cfgN pls levU).keep 11=false:=rfl
  have bP:=bP1 (.lst (u.arrays.map Ar.cells)) _ rfl
  refine WpCall.slim (M:=43) (rs:=[.tmp 2]) (hw.call _) hw.ice hw.froz Try.func11 rfl rfl code11.2 rfl ?_;dsimp only [code11,envOf,Nat.reduceAdd]
  repeat' (first
     | (apply Rx.nl ?_;clear hK K)|apply Rx.o ?_|apply Rx.on ?_|apply Wp.seq ?_|(apply Wp.ops' fun K hK=>?_)|apply Wp.block ?_|apply Rx.sk ?_|apply Rx.rt ?_|apply Rx.xt ?_)
  refine Wp.forI [1,2,3,12,13] [0] 14 u.funcs.length (fun i E Hi=>∃ fv,Hi.get 1=some (.cells [.lst (u.arrays.map Ar.cells),fv] 0 true) ∧ RowOwn (fun k=>2 ≤ k) 2 Hi 9 fv (((u.funcs.map grF).take i).map Fu.cells)) eE ⟨.nilS,by rw [Hp.get_set,if_pos (by rfl)],.inl ⟨rfl,rfl⟩⟩ ?_
  rintro i E Hi hi hcE hrH hnH hsI ⟨fv,g1,rf⟩
  (try simp only [forall_cons,forall_nil,and_true,sB,sO,Nat.reduceBEq,Nat.reduceAdd,Nat.reduceLeDiff,tyF, *] at hcE)
  (try simp only [forall_cons,forall_nil,and_true,sB,sO,Nat.reduceBEq,Nat.reduceAdd,Nat.reduceLeDiff,tyF, *] at hrH)
  (try simp only [Hp.next_alloc,Hp.next_set,H0_next,Nat.zero_add,Nat.reduceAdd] at hnH)
  have hB0:(0 == Hi.next)=false:=ne_beq (by omega)
  have hC0:(Hi.next == 0)=false:=ne_beq (by omega)
  have ni:2 ≤ Hi.next:=hnH
  obtain ⟨hf1,hf2⟩:=rf.one
  by_cases hlt:i < u.funcs.length
  · have hlt' : (i : Int) < u.funcs.length := by omega
    have hgx:u.funcs[i]?=some u.funcs[i]:=List.getElem?_eq_getElem hlt
    have htk:((u.funcs.map grF).take (i + 1)).map Fu.cells=((u.funcs.map grF).take i).map Fu.cells ++ [(grF u.funcs[i]).cells]:=by
      rw [List.take_add_one,List.getElem?_map,hgx,List.map_append];rfl
    have hlen:(((u.funcs.map grF).take i).map Fu.cells).length=i:=by rw [List.length_map,List.length_take,List.length_map];omega
    generalize u.funcs[i]=g at *
    have g1a:∀ b c,((Hi.alloc b).set Hi.next c).get 1=some (.cells [.lst (u.arrays.map Ar.cells),fv] 0 true):=fun b c=>by rw [Hp.get_set,if_neg (by omega),Hp.get_alloc,if_neg (by omega)];exact g1
    generalize hcells:((u.funcs.map grF).take i).map Fu.cells=fs at *
    have gh0:=@bE1
    have gh1:=@bF1
    have gh2:=@bsF1
    repeat' (first
       | (apply Rx.nl ?_;clear hK K)|apply Ry.o ?_|apply Ry.on ?_|(apply Ry.cd (fun hb hbp=>?_) (fun hb hbp=>?_) <;> try (cases hb;done))|apply Wp.seq ?_|(apply Wp.ops' fun K hK=>?_)|apply Wp.block ?_|apply Rx.sk ?_|apply Rx.rt ?_|apply Rx.xt ?_)
    generalize hHb:Hp.alloc (Hp.set (Hi.alloc _) _ _) _=Hb
    have nb:Hb.next=Hi.next + 2:=by rw [← hHb];rfl
    have old:∀ k,k < Hi.next → Hb.get k=Hi.get k:=fun k hk=>by rw [← hHb,Hp.get_alloc,if_neg (by simp only [Hp.next_alloc,Hp.next_set];omega),Hp.get_set,if_neg (by omega),Hp.get_alloc,if_neg (by omega)]
    have gr:Hb.get (Hi.next + 1)=some (.cells [.str g.name,.nilS,.nilS,.nilS,.int .i64 1,.int .i64 0,.str [],.int .i64 0,.nilS] 0 true):=by rw [← hHb,Hp.get_alloc,if_pos (by rfl)]
    clear hHb
    have hfq:∀ k,k ≤ 1 → ∀ o m z',fv ≠ .sl k o m z':=fun k hk o m z' e=>by
      rcases rf with ⟨h1,_⟩|⟨q,im,rows,h1,h2,h3,_⟩
      · rw [h1] at e;cases e
      · rw [h1] at e
        simp only [AV.sl.injEq] at e
        omega
    obtain ⟨H7,a7,r7,n7,q7⟩:=RowOwn.pushN (P:=Try.prog) (t:=40) Try.underlying40 sz53 bt53 zr53 rfl (by kernel_rfl) (S':=fun k=>2 ≤ k)
      (rf.keep (S':=fun k=>2 ≤ k) (H':=Hb) (fun _ _ h=>h) (by omega) fun k _ hk=>old k hk) (fun _ _ h=>h) (by omega) (r:=Hi.next + 1) (imm:=0) (row:=[.str g.name,.nilS,.nilS,.nilS,.int .i64 1,.int .i64 0,.str [],.int .i64 0,.nilS]) (w:=(grF g).cells) gr rfl rfl (grF_row g)
      (by rw [hlen,show maxRoom=70368744177664 from rfl];omega) (by rw [hlen,show maxRoom=70368744177664 from rfl];omega)
    rw [hlen] at a7 r7
    have g17:H7.get 1=some (.cells [.lst (u.arrays.map Ar.cells),fv] 0 true):=by rw [q7 1 (by omega) (hfq 1 (by omega)),old 1 (by omega)];exact g1
    have g07:H7.get 0=Hi.get 0:=by rw [q7 0 (by omega) (hfq 0 (by omega)),old 0 (by omega)]
    have n7':Hi.next ≤ H7.next:=by omega
    clear old gr q7 hfq nb
    repeat' (first
       | (apply Rx.nl ?_;clear hK K)|apply Rx.o ?_|apply Rx.on ?_|apply Wp.seq ?_|(apply Wp.ops' fun K hK=>?_)|apply Wp.block ?_|apply Rx.sk ?_|apply Rx.rt ?_|apply Rx.xt ?_)
    refine ⟨by omega,eL,eL,eN,(by simp only [sB,Nat.reduceBEq, *];exact i64_succ (n:=u.funcs.length) (by omega) (by omega)),?_⟩
    refine ⟨.sl Hb.next 0 (i + 1) 9,by rw [Hp.get_set,if_pos (by rfl)],?_⟩
    rw [htk]
    exact r7.keep (fun _ _ h=>h) (Nat.le_refl _) fun k hk _=>by rw [Hp.get_set,if_neg (by omega)]
  · have hlt' : ¬ (i : Int) < u.funcs.length := by omega
    have hti:(u.funcs.map grF).take i=u.funcs.map grF:=List.take_of_length_le (by rw [List.length_map];omega)
    rw [hti] at rf
    have hcw:CellsW (fun k=>2 ≤ k) 3 Hi [.lst (u.arrays.map Ar.cells),fv] (pOf u).cells:=.cons (.flat ⟨.map fun x _=>x.pure,trivial⟩ fun m=>wk_rows (f:=Ar.cells) Ar.wk u.arrays m) (.cons rf.rd .nil)
    have ag:aggA 2 [.lst (u.arrays.map Ar.cells),fv]=some (.agg [.lst (u.arrays.map Ar.cells),fv]):=rfl
    repeat' (first
       | (apply Rx.nl ?_;clear hK K)|apply Ry.o ?_|apply Ry.on ?_|(apply Ry.cd (fun hb hbp=>?_) (fun hb hbp=>?_) <;> try (cases hb;done))|apply Wp.seq ?_|(apply Wp.ops' fun K hK=>?_)|apply Wp.block ?_|apply Rx.sk ?_|apply Rx.rt ?_|apply Rx.xt ?_)
    refine WpL.call rfl eVk eAk ?_;simp only [List.cons_append,List.nil_append,List.append_nil]
    refine WpCall.mono ?_ (chkX (l:=levU) (fun _=>rfl) rfl (by omega) hcw hz)
    rintro v H4 ⟨rfl,hy⟩
    have g04:H4.get 0=Hi.get 0:=hy.out 0 (by omega)
    have n4:=hy.next
    clear hcw g1 rf
    dsimp only [setO]
    by_cases hc:refCheck (pOf u)=0
    · have hU : unitI u = u.funcs.all (vgI u) := by rw [unitI, hc]; rfl
      repeat' (first
         | (apply Rx.nl ?_;clear hK K)|apply Ry.o ?_|apply Ry.on ?_|(apply Ry.cd (fun hb hbp=>?_) (fun hb hbp=>?_) <;> try (cases hb;done))|apply Wp.seq ?_|(apply Wp.ops' fun K hK=>?_)|apply Wp.block ?_|apply Rx.sk ?_|apply Rx.rt ?_|apply Rx.xt ?_)
      refine Wp.forI [1,32,33] [0] 34 u.funcs.length (fun j E Hj=>∀ k,k < j → ∀ g,u.funcs[k]?=some g → vgI u g=true) eE (fun k hk=>by omega) ?_
      rintro j E3 Hj hj hcE hrH hnH hsI hJ
      (try simp only [forall_cons,forall_nil,and_true,sB,sO,Nat.reduceBEq,Nat.reduceAdd,Nat.reduceLeDiff,tyF, *] at hcE)
      (try simp only [forall_cons,forall_nil,and_true,sB,sO,Nat.reduceBEq,Nat.reduceAdd,Nat.reduceLeDiff,tyF, *] at hrH)
      (try simp only [Hp.next_alloc,Hp.next_set,H0_next,Nat.zero_add,Nat.reduceAdd] at hnH)
      have hB0:(0 == Hj.next)=false:=ne_beq (by omega)
      have hC0:(Hj.next == 0)=false:=ne_beq (by omega)
      by_cases hlt3:j < u.funcs.length
      · have hlt3' : (j : Int) < u.funcs.length := by omega
        have hgx:u.funcs[j]?=some u.funcs[j]:=List.getElem?_eq_getElem hlt3
        have hmem:=List.getElem_mem hlt3
        have hgk:=hg _ hmem
        generalize u.funcs[j]=g at *
        have kv:∀ H,WpCall Try.prog (cfgN pls levU) 23 [.agg u.cells,.agg g.cells] H fun v H'=>v=.bool (vgI u g) ∧ H'=H:=fun H=>WpCall.en (enc:=vgE) (ok:=vgOk) (out:=fun x=>.bool (vgI x.u x.g)) vgE_inj (x:=⟨u,g⟩) rfl ⟨hgk,ha,hf⟩
        by_cases hv:vgI u g=true
        · repeat' (first
             | (apply Rx.nl ?_;clear hK K)|apply Ry.o ?_|apply Ry.on ?_|(apply Ry.call ?_;first|refine Rx.k (kv _) ?_)|(apply Ry.cd (fun hb hbp=>?_) (fun hb hbp=>?_) <;> try (cases hb;done))|apply Wp.seq ?_|(apply Wp.ops' fun K hK=>?_)|apply Wp.block ?_|apply Rx.sk ?_|apply Rx.rt ?_|apply Rx.xt ?_)
          refine ⟨by omega,eL,eL,eN,(by simp only [sB,Nat.reduceBEq, *];exact i64_succ (n:=u.funcs.length) (by omega) (by omega)),?_⟩
          intro k hk g' hg'
          by_cases e:k=j
          · subst e
            rw [hgx] at hg'
            cases hg';exact hv
          · exact hJ k (by omega) g' hg'
        · have hv' : vgI u g = false := by simpa using hv
          have hR:u.funcs.all (vgI u)=false:=by
            rw [List.all_eq_false]
            exact ⟨g,hmem,hv⟩
          rw [hR] at hU
          clear hJ hR
          repeat' (first
             | (apply Rx.nl ?_;clear hK K)|apply Ry.o ?_|apply Ry.on ?_|(apply Ry.call ?_;first|refine Rx.k (kv _) ?_)|(apply Ry.cd (fun hb hbp=>?_) (fun hb hbp=>?_) <;> try (cases hb;done))|apply Wp.seq ?_|(apply Wp.ops' fun K hK=>?_)|apply Wp.block ?_|apply Rx.sk ?_|apply Rx.rt ?_|apply Rx.xt ?_)
          all_goals (refine ⟨eI,_,eR,?_⟩;try simp only [oneOr])
          rw [hU]
      · have hlt3' : ¬ (j : Int) < u.funcs.length := by omega
        have hR:u.funcs.all (vgI u)=true:=List.all_eq_true.2 fun g hm=>by
          obtain ⟨k,hk,e⟩:=List.getElem_of_mem hm
          exact hJ k (by omega) g (by rw [List.getElem?_eq_getElem hk,e])
        rw [hR] at hU
        clear hJ hR
        repeat' (first
           | (apply Rx.nl ?_;clear hK K)|apply Ry.o ?_|apply Ry.on ?_|(apply Ry.cd (fun hb hbp=>?_) (fun hb hbp=>?_) <;> try (cases hb;done))|apply Wp.seq ?_|(apply Wp.ops' fun K hK=>?_)|apply Wp.block ?_|apply Rx.sk ?_|apply Rx.rt ?_|apply Rx.xt ?_)
        all_goals (refine ⟨eI,_,eR,?_⟩;try simp only [oneOr])
        rw [hU]
    · have hU : unitI u = false := by rw [unitI, decide_eq_false hc]; rfl
      repeat' (first
         | (apply Rx.nl ?_;clear hK K)|apply Ry.o ?_|apply Ry.on ?_|(apply Ry.cd (fun hb hbp=>?_) (fun hb hbp=>?_) <;> try (cases hb;done))|apply Wp.seq ?_|(apply Wp.ops' fun K hK=>?_)|apply Wp.block ?_|apply Rx.sk ?_|apply Rx.rt ?_|apply Rx.xt ?_)
      all_goals (refine ⟨eI,_,eR,?_⟩;try simp only [oneOr])
      rw [hU])
noncomputable def enIv:En:=⟨11,true,spP UnOk (fun u=>[.agg u.cells]) fun u=>.bool (unitI u)⟩
theorem enIv_ok (ρ:Nat → Int):EnOk Try.prog ρ enIv:=spP_ok fun u hu=>ivalid_con ρ u hu
end Go.Proofs.Ytpbcimfiofmoeaa
namespace Go.Proofs.Ytpbcimfiofmoeaa
set_option maxRecDepth 20000
open Go Go.Ab
theorem bNd (a:Int):buildA Try.prog 25 [(0,.int .i64 a)]=some (.agg [.int .i64 a,.int .i64 0,.nilS]):=by kernel_rfl
theorem bNd2 (a b:Int):buildA Try.prog 25 [(0,.int .i64 a),(1,.int .i64 b)]=some (.agg [.int .i64 a,.int .i64 b,.nilS]):=by kernel_rfl
theorem agN (a b c:AV):aggA 3 [a,b,c]=some (.agg [a,b,c]):=rfl
theorem nd_nil {S:Nat → Prop} {H:Hp} (op imm:Int):CellsW S 2 H [.int .i64 op,.int .i64 imm,.nilS] (Nd.mk op imm []).cells:=.cons (.int _ _) (.cons (.int _ _) (.cons .nilS .nil))
end Go.Proofs.Ytpbcimfiofmoeaa
