/- Parts: P4b, P4c, P4d, P4h, ChkM, GSz, SglM, PgX. -/
import Derived.Test.YtackdnelcpbfjaaSRN
set_option linter.unusedSimpArgs false
set_option linter.unusedVariables false
set_option linter.unusedSectionVars false
set_option linter.defProp false
set_option maxHeartbeats 32000000
namespace Go.Proofs.Ytackdnelcpbfjaa
set_option maxRecDepth 20000
set_option maxRecDepth 20000
open Go Go.Ab
namespace tyP4b
def tyF:=And.intro @tq2 (And.intro @tq3 (And.intro @tq4 (And.intro @tq9 (And.intro @tq36 (And.intro @tq37 (And.intro @tq39 (And.intro @tq46 (@tq171))))))))
end tyP4b
open tyP4b
noncomputable def code75:{ c:SC // slim 111 (Try.f75.body.getD .skip)=c }:=by
 refine ⟨?_,?_⟩
 rotate_left
 · simp only [Try.f75, Option.getD_some, slim, slimR, slimL, slimD, slimG, Nat.blt, Nat.ble]
   rfl
mutual
theorem walkE_wf:∀ (x:Ex) (d:Int),walkE (fun x _=>wfX x) x d=wfE x
 | .mk k n s o ks,d=>by rw [walkE,wfE,walkEs_wf ks,Bool.and_comm]
theorem walkEs_wf:∀ (l:List Ex) (d:Int),walkEs (fun x _=>wfX x) l d=wfEs l
 | [],_=>rfl
 | x :: l,d=>by rw [walkEs,wfEs,walkE_wf x,walkEs_wf l]
end
theorem wfWalk {l:List En} (hv:∀ ar,lookN l 71 ar=enPN.sp ar) (ho:∀ ar,lookN l 114 ar=enPO.sp ar) (hp:(∀ ar,lookN l 74 ar=none) ∧ iceN l 74=false) (hq:(∀ ar,lookN l 73 ar=none) ∧ iceN l 73=false)
   (x:Ex) (hx:x.sz < 2 ^ 60) (H:Hp):WpCall Try.prog (cfgN pls l) 73 [.agg x.cells,.int .i64 0,.clo 74 []] H fun v H'=>v=.bool (wfE x) ∧ FrB 0 H H':=by
 have hI:OfLow 0 fun _:Hp=>True:=fun _ _ _ _=>trivial
 refine WpCall.mono ?_ (walkExpr_wp (plainN hq.1 hq.2) hI (wfeVisit hv ho hp hI) (x.sz + 1) x (Nat.lt_succ_self _) 0 H hx (Nat.zero_le _) trivial)
 rintro v H' ⟨rfl,h2,_⟩
 exact ⟨by rw [walkE_wf],h2⟩
def fieldE (x:Ex) (w:Bool):Bool:=bif w then wfE x else zeroE x
noncomputable def levP1:List En:=[enPN,enPO,enPZ]
theorem levP1_ok (ρ:Nat → Int):EnsOk Try.prog ρ levP1:=⟨enPN_ok ρ,enPO_ok ρ,enPZ_ok ρ,trivial⟩
theorem exprField_con (ρ:Nat → Int) (x:Ex) (w:Bool) (hx:x.sz < 2 ^ 60):Con Try.prog ρ 117 [.agg x.cells,.bool w] (.bool (fieldE x w)):=Con.lev fit (pls:=pls) (levP1_ok ρ) (.cons (.agg x.pure) (.cons (.bool _) .nil)) (.bool _) (by
 have hw:Plain (cfgN pls levP1) 117:=plainN (fun _=>rfl) rfl
 have kz:∀ y:Ex,∀ H,WpCall Try.prog (cfgN pls levP1) 141 [.agg y.cells] H fun v H'=>v=.bool (zeroE y) ∧ H'=H:=fun y H=>WpCall.en (enc:=exE) (out:=fun x=>.bool (zeroE x)) exE_inj (x:=y) rfl trivial
 cases w
 · refine WpCall.slim (M := 10) (rs := [.tmp 4]) (hw.call _) hw.ice hw.froz Try.func117 rfl rfl code117.2 rfl ?_; dsimp only [code117, envOf, Nat.reduceAdd]
   repeat' (first
      | (apply Rx.nl ?_;clear hK K)|apply Rx.o ?_|(apply Rx.call ?_;first|refine Rx.k (kz _ _) ?_)|(apply Rx.cd (fun hb hbp=>?_) (fun hb hbp=>?_) <;> try (cases hb;done))|apply Wp.seq ?_|(apply Wp.ops' fun K hK=>?_)|apply Rx.sk ?_|apply Rx.rt ?_)
   all_goals (refine ⟨eI,_,eR,?_⟩;try simp only [oneOr])
   rfl
 · refine WpCall.slim (M := 10) (rs := [.tmp 4]) (hw.call _) hw.ice hw.froz Try.func117 rfl rfl code117.2 rfl ?_; dsimp only [code117, envOf, Nat.reduceAdd]
   repeat' (first
      | (apply Rx.nl ?_;clear hK K)|apply Rx.o ?_|(apply Rx.cd (fun hb hbp=>?_) (fun hb hbp=>?_) <;> try (cases hb;done))|apply Wp.seq ?_|(apply Wp.ops' fun K hK=>?_)|apply Rx.sk ?_|apply Rx.rt ?_)
   refine WpL.call rfl eVk eAk ?_;simp only [List.cons_append,List.nil_append,List.append_nil]
   refine WpCall.mono ?_ (wfWalk (fun _=>rfl) (fun _=>rfl) ⟨fun _=>rfl,rfl⟩ ⟨fun _=>rfl,rfl⟩ x hx _)
   rintro v H ⟨rfl,_⟩
   dsimp only [setO]
   repeat' (first
      | (apply Rx.nl ?_;clear hK K)|apply Rx.o ?_|(apply Rx.cd (fun hb hbp=>?_) (fun hb hbp=>?_) <;> try (cases hb;done))|apply Wp.seq ?_|(apply Wp.ops' fun K hK=>?_)|apply Rx.sk ?_|apply Rx.rt ?_)
   all_goals (refine ⟨eI,_,eR,?_⟩;try simp only [oneOr])
   rfl)
def fld (k:Int) (i:Nat):Bool:=(fldB k).getD i false
theorem fld_eq (k:Int):(fldB k).map AV.bool=[.bool (fld k 0),.bool (fld k 1),.bool (fld k 2),.bool (fld k 3),.bool (fld k 4),.bool (fld k 5),.bool (fld k 6),.bool (fld k 7)]:=by
 have h:∃ a b c d e f g h,fldB k=[a,b,c,d,e,f,g,h]:=by
   unfold fldB
   repeat' split
   all_goals exact ⟨_,_,_,_,_,_,_,_,rfl⟩
 obtain ⟨a,b,c,d,e,f,g,h,e1⟩:=h
 simp only [fld,e1];rfl
def wfSp (x:St):Bool:=
 fldOk x.kind && nameF x.name (fld x.kind 0) && nameF x.to (fld x.kind 1) && fieldE x.at_ (fld x.kind 3) && fieldE x.value (fld x.kind 4) &&
 !decide (x.n < 0) && !decide (1000000 < x.n) && (fld x.kind 2 || decide (x.n=0)) && (fld x.kind 5 || !decide ((0:Int) < x.args.length)) && (fld x.kind 6 || !decide ((0:Int) < x.thn.length)) && (fld x.kind 7 || !decide ((0:Int) < x.els.length)) && wfEs x.args
def badB (x:St):Bool:=decide (x.n < 0) || decide (1000000 < x.n) || (!fld x.kind 2 && !decide (x.n=0)) || (!fld x.kind 5 && decide ((0:Int) < x.args.length)) || (!fld x.kind 6 && decide ((0:Int) < x.thn.length)) || (!fld x.kind 7 && decide ((0:Int) < x.els.length))
noncomputable def enPF:En:=⟨115,false,spP (fun _=>True) (fun n:Int=>[.int .i64 n]) fldA⟩
theorem enPF_ok (ρ:Nat → Int):EnOk Try.prog ρ enPF:=spP_ok fun x _=>fields_con ρ x
def sbE (x:List UInt8 × Bool):List AV:=[.str x.1,.bool x.2]
theorem sbE_inj (x y:List UInt8 × Bool) (h:sbE x=sbE y):x=y:=by
 simp only [sbE,List.cons.injEq,AV.str.injEq,AV.bool.injEq,and_true] at h
 exact Prod.ext h.1 h.2
noncomputable def enPM:En:=⟨116,false,spP (fun x=>x.1.length < 2 ^ 60) sbE fun x=>.bool (nameF x.1 x.2)⟩
theorem enPM_ok (ρ:Nat → Int):EnOk Try.prog ρ enPM:=spP_ok fun x hx=>pfield_con ρ x.1 x.2 hx
def ebE (x:Ex × Bool):List AV:=[.agg x.1.cells,.bool x.2]
theorem ebE_inj (x y:Ex × Bool) (h:ebE x=ebE y):x=y:=by
 simp only [ebE,List.cons.injEq,AV.agg.injEq,AV.bool.injEq,and_true] at h
 exact Prod.ext (Ex.inj h.1) h.2
noncomputable def enPX:En:=⟨117,false,spP (fun x=>x.1.sz < 2 ^ 60) ebE fun x=>.bool (fieldE x.1 x.2)⟩
theorem enPX_ok (ρ:Nat → Int):EnOk Try.prog ρ enPX:=spP_ok fun x hx=>exprField_con ρ x.1 x.2 hx
noncomputable def enPS:En:=⟨72,false,spP (fun l=>strsSz l < 2 ^ 60) (fun l:List (List UInt8)=>[lstS l]) fun l=>.bool (l.all nameB)⟩
theorem enPS_ok (ρ:Nat → Int):EnOk Try.prog ρ enPS:=spP_ok fun x hx=>pnames_con ρ x hx
theorem lsE_inj (x y:List (List UInt8)) (h:([lstS x]:List AV)=[lstS y]):x=y:=by
 simp only [List.cons.injEq,AV.lst.injEq,and_true] at h
 exact strs_inj h
noncomputable def levP2:List En:=[enPN,enPO,enPF,enPM,enPX,enPS]
theorem levP2_ok (ρ:Nat → Int):EnsOk Try.prog ρ levP2:=⟨enPN_ok ρ,enPO_ok ρ,enPF_ok ρ,enPM_ok ρ,enPX_ok ρ,enPS_ok ρ,trivial⟩
theorem fldv1:fld 1 0=true ∧ fld 1 1=false ∧ fld 1 2=false ∧ fld 1 3=false ∧ fld 1 4=true ∧ fld 1 5=false ∧ fld 1 6=false ∧ fld 1 7=false ∧ fldOk 1=true:=by refine ⟨rfl,rfl,rfl,rfl,rfl,rfl,rfl,rfl,rfl⟩
theorem fldv2:fld 2 0=true ∧ fld 2 1=false ∧ fld 2 2=false ∧ fld 2 3=true ∧ fld 2 4=true ∧ fld 2 5=false ∧ fld 2 6=false ∧ fld 2 7=false ∧ fldOk 2=true:=by refine ⟨rfl,rfl,rfl,rfl,rfl,rfl,rfl,rfl,rfl⟩
theorem fldv3:fld 3 0=false ∧ fld 3 1=false ∧ fld 3 2=false ∧ fld 3 3=false ∧ fld 3 4=true ∧ fld 3 5=false ∧ fld 3 6=true ∧ fld 3 7=true ∧ fldOk 3=true:=by refine ⟨rfl,rfl,rfl,rfl,rfl,rfl,rfl,rfl,rfl⟩
theorem fldv4:fld 4 0=false ∧ fld 4 1=false ∧ fld 4 2=false ∧ fld 4 3=false ∧ fld 4 4=true ∧ fld 4 5=false ∧ fld 4 6=true ∧ fld 4 7=false ∧ fldOk 4=true:=by refine ⟨rfl,rfl,rfl,rfl,rfl,rfl,rfl,rfl,rfl⟩
theorem fldv5:fld 5 0=false ∧ fld 5 1=false ∧ fld 5 2=false ∧ fld 5 3=false ∧ fld 5 4=true ∧ fld 5 5=false ∧ fld 5 6=false ∧ fld 5 7=false ∧ fldOk 5=true:=by refine ⟨rfl,rfl,rfl,rfl,rfl,rfl,rfl,rfl,rfl⟩
theorem fldv6:fld 6 0=true ∧ fld 6 1=true ∧ fld 6 2=false ∧ fld 6 3=false ∧ fld 6 4=false ∧ fld 6 5=true ∧ fld 6 6=false ∧ fld 6 7=false ∧ fldOk 6=true:=by refine ⟨rfl,rfl,rfl,rfl,rfl,rfl,rfl,rfl,rfl⟩
theorem fldv7:fld 7 0=false ∧ fld 7 1=false ∧ fld 7 2=true ∧ fld 7 3=false ∧ fld 7 4=false ∧ fld 7 5=false ∧ fld 7 6=false ∧ fld 7 7=false ∧ fldOk 7=true:=by refine ⟨rfl,rfl,rfl,rfl,rfl,rfl,rfl,rfl,rfl⟩
set_option maxRecDepth 100000 in
theorem wfsVisit : VisitS (cfgN pls levP2) 0 (fun (_ : Unit) _ => True) 75 [] fun x _ s => (wfSp x, s) := by
  intro x d s H hz _ _
  have hw:Plain (cfgN pls levP2) 75:=plainN (fun _=>rfl) rfl
  have kf:∀ k H,WpCall Try.prog (cfgN pls levP2) 115 [.int .i64 k] H fun v H'=>v=.tup [.agg [.bool (fld k 0),.bool (fld k 1),.bool (fld k 2),.bool (fld k 3),.bool (fld k 4),.bool (fld k 5),.bool (fld k 6),.bool (fld k 7)],.bool (fldOk k)] ∧ H'=H:=fun k H=>by
    have:=WpCall.en (P:=Try.prog) (pls:=pls) (l:=levP2) (enc:=fun n:Int=>[.int .i64 n]) (ok:=fun _=>True) (out:=fldA) intE_inj (g:=115) (x:=k) rfl trivial (H:=H)
    unfold fldA at this
    rw [fld_eq] at this
    exact this
  have km:∀ (s:List UInt8) (w:Bool),s.length < 2 ^ 60 → ∀ H,WpCall Try.prog (cfgN pls levP2) 116 [.str s,.bool w] H fun v H'=>v=.bool (nameF s w) ∧ H'=H:=fun s w h H=>WpCall.en (enc:=sbE) (out:=fun x=>.bool (nameF x.1 x.2)) sbE_inj (x:=(s,w)) rfl h
  have kx:∀ (y:Ex) (w:Bool),y.sz < 2 ^ 60 → ∀ H,WpCall Try.prog (cfgN pls levP2) 117 [.agg y.cells,.bool w] H fun v H'=>v=.bool (fieldE y w) ∧ H'=H:=fun y w h H=>WpCall.en (enc:=ebE) (out:=fun x=>.bool (fieldE x.1 x.2)) ebE_inj (x:=(y,w)) rfl h
  have hsz:=x.sz_eq
  have hlen:=exprsSz_len x.args
  have hx0:∀ a b,Ab.extract (.tup [a,b]) 0=some a:=fun _ _=>rfl
  have hx1:∀ a b,Ab.extract (.tup [a,b]) 1=some b:=fun _ _=>rfl
  refine WpCall.slim (M:=111) (rs:=[.tmp 4]) (hw.call _) hw.ice hw.froz Try.func75 rfl rfl code75.2 rfl ?_;dsimp only [code75,envOf,Nat.reduceAdd]
  repeat' (first
     | (apply Rx.nl ?_;clear hK K)|apply Rx.o ?_|apply Rx.on ?_|(apply Rx.call ?_;first|refine Rx.k (kf _ _) ?_|refine Rx.k (km _ _ (by omega) _) ?_|refine Rx.k (kx _ _ (by omega) _) ?_)|apply Rx.gu ?_|(apply Rx.gd (fun hg hgp=>?_) (fun hg hgp=>?_) <;> try (cases hg;done))|apply Wp.seq ?_|(apply Wp.ops' fun K hK=>?_)|apply Wp.block ?_|apply Rx.sk ?_|apply Rx.rt ?_|apply Rx.xt ?_)
  all_goals (first|(refine Rx.cd (t:=true) (h1:=fun _ _=>?_) (h2:=fun hzz _=>?_) <;> try (cases hzz;done))|skip)
  all_goals
    repeat' (first
       | (apply Rx.nl ?_;clear hK K)|apply Rx.o ?_|apply Rx.on ?_|apply Rx.gu ?_|(apply Rx.gd (fun hg hgp=>?_) (fun hg hgp=>?_) <;> try (cases hg;done))|apply Wp.seq ?_|(apply Wp.ops' fun K hK=>?_)|apply Wp.block ?_|apply Rx.sk ?_|apply Rx.rt ?_|apply Rx.xt ?_)
  all_goals (first|(refine ⟨eI,_,eR,?_⟩;(try simp only [oneOr]);refine ⟨by rw [wfSp];(try simp only [Bool.not_eq_true',Bool.not_eq_false'] at *);simp only [*,decide_true,decide_false,Bool.false_or,Bool.or_false,Bool.true_or,Bool.or_true,Bool.false_and,Bool.and_false,Bool.true_and,Bool.and_true,Bool.not_true,Bool.not_false,if_true,if_false,Int.reduceEq],(((FrB.refl _ _).alloc _).alloc _).set (.inl (by (try simp only [Hp.next_alloc]);omega)) _,trivial⟩;done)|skip)
  have hfr:FrB 0 H (((H.alloc (.cells x.cells 0 true)).alloc (.cells [.bool false,.bool false,.bool false,.bool false,.bool false,.bool false,.bool false,.bool false] 0 true)).set (H.next + 1) (.cells [.bool (fld x.kind 0),.bool (fld x.kind 1),.bool (fld x.kind 2),.bool (fld x.kind 3),.bool (fld x.kind 4),.bool (fld x.kind 5),.bool (fld x.kind 6),.bool (fld x.kind 7)] 0 true)):=(((FrB.refl _ _).alloc _).alloc _).set (.inl (by omega)) _
  refine Wp.fresh [2,4,5,48] fun E' hcE=>?_
  (try simp only [forall_cons,forall_nil,and_true,sB,sO,Nat.reduceBEq,Nat.reduceAdd,Nat.reduceLeDiff,tyF, *] at hcE)
  generalize hHb:Hp.set _ (H.next + 1) _=Hb at hfr ⊢
  have gb:Hb.get H.next=some (.cells x.cells 0 true):=by rw [← hHb,Hp.get_set,if_neg (by omega),Hp.get_alloc,if_neg (by simp only [Hp.next_alloc];omega),Hp.get_alloc,if_pos rfl]
  have gf:Hb.get (H.next + 1)=some (.cells [.bool (fld x.kind 0),.bool (fld x.kind 1),.bool (fld x.kind 2),.bool (fld x.kind 3),.bool (fld x.kind 4),.bool (fld x.kind 5),.bool (fld x.kind 6),.bool (fld x.kind 7)] 0 true):=by rw [← hHb,Hp.get_set,if_pos rfl]
  have nb:H.next + 2 ≤ Hb.next:=by rw [← hHb];exact Nat.le_refl _
  clear hHb
  refine Rx.cd (h1:=fun hb hbp=>?_) (h2:=fun hb hbp=>?_)
  · repeat' (first
       | (apply Rx.nl ?_;clear hK K)|apply Rx.o ?_|apply Rx.on ?_|apply Rx.gu ?_|(apply Rx.gd (fun hg hgp=>?_) (fun hg hgp=>?_) <;> try (cases hg;done))|apply Wp.seq ?_|(apply Wp.ops' fun K hK=>?_)|apply Wp.block ?_|apply Rx.sk ?_|apply Rx.rt ?_|apply Rx.xt ?_)
    all_goals (refine ⟨eI,_,eR,?_⟩;try simp only [oneOr])
    refine ⟨by rw [wfSp];(try simp only [Bool.not_eq_true',Bool.not_eq_false'] at *);simp only [*,decide_true,decide_false,Bool.false_or,Bool.or_false,Bool.true_or,Bool.or_true,Bool.false_and,Bool.and_false,Bool.true_and,Bool.and_true,Bool.not_true,Bool.not_false,if_true,if_false,Int.reduceEq],hfr,trivial⟩
  refine Wp.skip ?_
  dsimp only [thenQ,blockQ]
  refine Wp.seq ?_
  first
  | refine Wp.ops' fun K hK0=>?_
  | (simp only [slimR,slimL,slimD,slimG,Nat.blt,Nat.ble];refine Wp.ops' fun K hK0=>?_)
  | (refine Wp.seq ?_;refine Wp.ops' fun K hK0=>?_)
  have hK : ∀ E2 H2, (E2.at 2 = .ptr H.next 0 ∧ E2.at 4 = .bool false ∧ E2.at 99 = .bool (badB x) ∧ H2 = Hb) → K E2 H2 := by
    rintro E2 H2 ⟨k2,k4,k99,rfl⟩
    apply hK0
    clear hK0 K
    dsimp only [thenQ,blockQ]
    have hgood:(fldOk x.kind && nameF x.name (fld x.kind 0) && nameF x.to (fld x.kind 1) && fieldE x.at_ (fld x.kind 3) && fieldE x.value (fld x.kind 4))=true:=by (try simp only [Bool.not_eq_true',Bool.not_eq_false'] at *);simp only [*,decide_true,decide_false,Bool.false_or,Bool.or_false,Bool.true_or,Bool.or_true,Bool.false_and,Bool.and_false,Bool.true_and,Bool.and_true,Bool.not_true,Bool.not_false,if_true,if_false,Int.reduceEq]
    have hsp:wfSp x=(!badB x && wfEs x.args):=by
      have e:wfSp x=((fldOk x.kind && nameF x.name (fld x.kind 0) && nameF x.to (fld x.kind 1) && fieldE x.at_ (fld x.kind 3) && fieldE x.value (fld x.kind 4)) && (!badB x && wfEs x.args)):=by
        simp only [wfSp,badB,Bool.not_or,Bool.not_and,Bool.not_not,Bool.and_assoc]
      rw [e,hgood,Bool.true_and]
    repeat' (first
       | (apply Rx.nl ?_;clear hK K)|apply Rx.o ?_|apply Rx.on ?_|apply Rx.gu ?_|(apply Rx.gd (fun hg hgp=>?_) (fun hg hgp=>?_) <;> try (cases hg;done))|(apply Rx.cd (fun hb hbp=>?_) (fun hb hbp=>?_) <;> try (cases hb;done))|apply Wp.seq ?_|(apply Wp.ops' fun K hK=>?_)|apply Wp.block ?_|apply Rx.sk ?_|apply Rx.rt ?_|apply Rx.xt ?_)
    · all_goals (refine ⟨eI, _, eR, ?_⟩; try simp only [oneOr])
      refine ⟨by rw [hsp];(try simp only [Bool.not_eq_true',Bool.not_eq_false'] at *);simp only [*,decide_true,decide_false,Bool.false_or,Bool.or_false,Bool.true_or,Bool.or_true,Bool.false_and,Bool.and_false,Bool.true_and,Bool.and_true,Bool.not_true,Bool.not_false,if_true,if_false,Int.reduceEq],hfr,trivial⟩
    refine Wp.forI [2,4,101,102] [] 103 x.args.length (fun i E H2=>wfEs x.args=wfEs (x.args.drop i) ∧ FrB 0 H H2) eE ⟨by simp,hfr⟩ ?_
    rintro i E H3 hi hcE hrH hnH hsI ⟨hJ,hf2⟩
    (try simp only [forall_cons,forall_nil,and_true,sB,sO,Nat.reduceBEq,Nat.reduceAdd,Nat.reduceLeDiff,tyF, *] at hcE)
    (try simp only [forall_cons,forall_nil,and_true,sB,sO,Nat.reduceBEq,Nat.reduceAdd,Nat.reduceLeDiff,tyF, *] at hrH)
    (try simp only [Hp.next_alloc,Hp.next_set,H0_next,Nat.zero_add,Nat.reduceAdd] at hnH)
    repeat' (first
       | (apply Rx.nl ?_;clear hK K)|apply Rx.o ?_|apply Rx.on ?_|apply Rx.gu ?_|(apply Rx.gd (fun hg hgp=>?_) (fun hg hgp=>?_) <;> try (cases hg;done))|(apply Rx.cd (fun hb hbp=>?_) (fun hb hbp=>?_) <;> try (cases hb;done))|apply Wp.seq ?_|(apply Wp.ops' fun K hK=>?_)|apply Wp.block ?_|apply Rx.sk ?_|apply Rx.rt ?_|apply Rx.xt ?_)
    · have hlt : i < x.args.length := by simpa using hb
      have hgx:x.args[i]?=some x.args[i]:=List.getElem?_eq_getElem hlt
      have hsm:=exprsSz_mem (List.getElem_mem hlt)
      have hdr:wfEs (x.args.drop i)=(wfE x.args[i] && wfEs (x.args.drop (i + 1))):=by rw [List.drop_eq_getElem_cons hlt];rfl
      repeat' (first
         | (apply Rx.nl ?_;clear hK K)|apply Rx.o ?_|apply Rx.on ?_|apply Rx.gu ?_|(apply Rx.gd (fun hg hgp=>?_) (fun hg hgp=>?_) <;> try (cases hg;done))|(apply Rx.cd (fun hb hbp=>?_) (fun hb hbp=>?_) <;> try (cases hb;done))|apply Wp.seq ?_|(apply Wp.ops' fun K hK=>?_)|apply Wp.block ?_|apply Rx.sk ?_|apply Rx.rt ?_|apply Rx.xt ?_)
      refine WpL.call rfl eVk eAk ?_;simp only [List.cons_append,List.nil_append,List.append_nil]
      refine WpCall.mono ?_ (wfWalk (fun _=>rfl) (fun _=>rfl) ⟨fun _=>rfl,rfl⟩ ⟨fun _=>rfl,rfl⟩ x.args[i] (by omega) _)
      rintro v H4 ⟨rfl,hf4⟩
      dsimp only [setO]
      have hf5:FrB 0 H H4:=hf2.trans ((((FrB.refl _ _).alloc _).set (.inl (Nat.le_refl _)) _).trans hf4)
      have n4:=hf4.next
      simp only [Hp.next_set,Hp.next_alloc] at n4
      repeat' (first
         | (apply Rx.nl ?_;clear hK K)|apply Rx.o ?_|apply Rx.on ?_|apply Rx.gu ?_|(apply Rx.gd (fun hg hgp=>?_) (fun hg hgp=>?_) <;> try (cases hg;done))|(apply Rx.cd (fun hb hbp=>?_) (fun hb hbp=>?_) <;> try (cases hb;done))|apply Wp.seq ?_|(apply Wp.ops' fun K hK=>?_)|apply Wp.block ?_|apply Rx.sk ?_|apply Rx.rt ?_|apply Rx.xt ?_)
      all_goals (first|(refine ⟨eI,_,eR,?_⟩;(try simp only [oneOr]);refine ⟨by rw [hsp,hJ,hdr];(try simp only [Bool.not_eq_true',Bool.not_eq_false'] at *);simp only [*,decide_true,decide_false,Bool.false_or,Bool.or_false,Bool.true_or,Bool.or_true,Bool.false_and,Bool.and_false,Bool.true_and,Bool.and_true,Bool.not_true,Bool.not_false,if_true,if_false,Int.reduceEq],hf5,trivial⟩;done)|skip)
      refine ⟨by omega,eL,eL,eN,(by simp only [sB,Nat.reduceBEq, *];exact i64_succ (n:=x.args.length) (by omega) (by omega)),?_⟩
      exact ⟨by rw [hJ,hdr];(try simp only [Bool.not_eq_true',Bool.not_eq_false'] at *);simp only [*,decide_true,decide_false,Bool.false_or,Bool.or_false,Bool.true_or,Bool.or_true,Bool.false_and,Bool.and_false,Bool.true_and,Bool.and_true,Bool.not_true,Bool.not_false,if_true,if_false,Int.reduceEq],hf5⟩
    · all_goals (refine ⟨eI, _, eR, ?_⟩; try simp only [oneOr])
      refine ⟨by rw [hsp,hJ,show i=x.args.length by simp at hb;omega,List.drop_length];(try simp only [Bool.not_eq_true',Bool.not_eq_false'] at *);simp only [wfEs, *,decide_true,decide_false,Bool.false_or,Bool.or_false,Bool.true_or,Bool.or_true,Bool.false_and,Bool.and_false,Bool.true_and,Bool.and_true,Bool.not_true,Bool.not_false,if_true,if_false,Int.reduceEq],hf2,trivial⟩
  clear hK0
  repeat' (first
     | (apply Rx.nl ?_;clear hK K)|apply Rx.o ?_|apply Rx.on ?_|apply Rx.gu ?_|(apply Rx.gd (fun hg hgp=>?_) (fun hg hgp=>?_) <;> try (cases hg;done))|apply Wp.seq ?_|(apply Wp.ops' fun K hK=>?_)|apply Wp.block ?_|apply Rx.sk ?_|apply Rx.rt ?_|apply Rx.xt ?_)
  all_goals
    refine ⟨eE,eE,?_,rfl⟩
    rw [badB]
    (try simp only [Bool.not_eq_true',Bool.not_eq_false'] at *)
    simp only [sB,Nat.reduceBEq, *,decide_true,decide_false,Bool.false_or,Bool.or_false,Bool.true_or,Bool.or_true,Bool.false_and,Bool.and_false,Bool.true_and,Bool.and_true,Bool.not_true,Bool.not_false]
end Go.Proofs.Ytackdnelcpbfjaa
namespace Go.Proofs.Ytackdnelcpbfjaa
set_option maxRecDepth 20000
open Go Go.Ab
theorem len0 (n:Nat):(!decide ((0:Int) < n))=decide ((n:Int)=0):=by
 cases n with
 | zero=>rfl
 | succ n=>simp;omega
theorem rng0 (n:Int):(!decide (n < 0) && !decide (1000000 < n) && decide (n=0))=decide (n=0):=by
 by_cases h:n=0
 · subst h;rfl
 · simp [h]
theorem neg0 (n:Int):(!decide (n < 0))=decide (0 ≤ n):=by
 by_cases h:n < 0
 · simp [h]
 · simp [h];omega
theorem big0 (n:Int):(!decide (1000000 < n))=decide (n ≤ 1000000):=by
 by_cases h:1000000 < n
 · simp [h]
 · simp [h];omega
theorem wfSp_eq (x:St):wfSp x=wfStX x:=by
 have hk:x.kind=1 ∨ x.kind=2 ∨ x.kind=3 ∨ x.kind=4 ∨ x.kind=5 ∨ x.kind=6 ∨ x.kind=7 ∨ fldOk x.kind=false:=by
   simp only [fldOk,Bool.and_eq_false_iff,decide_eq_false_iff_not];omega
 rcases hk with hk|hk|hk|hk|hk|hk|hk|hk
 case inr.inr.inr.inr.inr.inr.inr =>
   have h:wfStK x=false:=by
     simp only [fldOk,Bool.and_eq_false_iff,decide_eq_false_iff_not] at hk
     unfold wfStK
     rw [if_neg (by omega),if_neg (by omega),if_neg (by omega),if_neg (by omega),if_neg (by omega),if_neg (by omega),if_neg (by omega)]
   rw [wfSp,wfStX,hk,h]
   simp
 all_goals
   have hr:=rng0 x.n
   simp only [wfSp,wfStX,wfStK,hk,fldv1,fldv2,fldv3,fldv4,fldv5,fldv6,fldv7,flatB,onlyB,nameF,fieldE,cond_true,cond_false,if_true,if_false,Int.reduceEq,Bool.true_and,Bool.and_true,Bool.false_or,Bool.true_or,len0,Bool.false_eq_true,reduceCtorEq]
   first
   | (rw [neg0,big0];ac_rfl)
   | (rw [← hr];ac_rfl)
mutual
theorem walk1_wf:∀ (x:St) (d:Int),walk1 (fun x _ (s:Unit)=>(wfSp x,s)) x d ()=(wfSt x,())
 | .mk k nm to n a v args th el, d => by
   rw [walk1,wfSt,wfSp_eq]
   cases h:wfStX (.mk k nm to n a v args th el) with
   | false=>simp
   | true =>
     simp only [walkS_wf th,Bool.true_and]
     cases h2:wfSs th with
     | false=>simp
     | true=>simp only [walkS_wf el,Bool.true_and]
theorem walkS_wf:∀ (l:List St) (d:Int),walkS (fun x _ (s:Unit)=>(wfSp x,s)) l d ()=(wfSs l,())
 | [],_=>rfl
 | x :: l, d => by
   rw [walkS,wfSs,walk1_wf x]
   cases h:wfSt x with
   | false=>simp
   | true=>simp only [walkS_wf l,Bool.true_and]
end
end Go.Proofs.Ytackdnelcpbfjaa
namespace Go.Proofs.Ytackdnelcpbfjaa
set_option maxRecDepth 20000
set_option maxRecDepth 20000
open Go Go.Ab
namespace tyP4d
def tyF:=And.intro @tq2 (And.intro @tq3 (And.intro @tq9 (And.intro @tq22 (And.intro @tq23 (And.intro @tq25 (And.intro @tq35 (And.intro @tq36 (And.intro @tq37 (And.intro @tq39 (And.intro @tq41 (And.intro @tq44 (@tq46))))))))))))
end tyP4d
open tyP4d
noncomputable def code37:{ c:SC // slim 55 (Try.f37.body.getD .skip)=c }:=by
 refine ⟨?_,?_⟩
 rotate_left
 · simp only [Try.f37, Option.getD_some, slim, slimR, slimL, slimD, slimG, Nat.blt, Nat.ble]
   rfl
theorem fnNames_all (f:Fu) (b:List UInt8 → Bool):(fnNames f).all b=(b f.name && f.params.all b && f.locals.all b):=by
 rw [fnNames,List.all_append,List.all_append,List.all_cons,List.all_nil,Bool.and_true]
set_option maxRecDepth 100000 in
theorem wellFormed_con (ρ : Nat → Int) (p : Pr) (hz : p.sz < 2 ^ 36) : Con Try.prog ρ 37 [.agg p.cells] (.bool (wfP p)) := Con.lev fit (pls := pls) (levP2_ok ρ) (.cons (.agg p.pure) .nil) (.bool _) (by
  have hw:Plain (cfgN pls levP2) 37:=plainN (fun _=>rfl) rfl
  have kn:∀ s:List UInt8,s.length < 2 ^ 60 → ∀ H,WpCall Try.prog (cfgN pls levP2) 71 [.str s] H fun v H'=>v=.bool (nameB s) ∧ H'=H:=fun s h1 H=>WpCall.en (enc:=bsE) (out:=fun x=>.bool (nameB x)) bsE_inj (x:=s) rfl h1
  have ks:∀ l:List (List UInt8),strsSz l < 2 ^ 60 → ∀ H,WpCall Try.prog (cfgN pls levP2) 72 [lstS l] H fun v H'=>v=.bool (l.all nameB) ∧ H'=H:=fun l h1 H=>WpCall.en (enc:=fun l:List (List UInt8)=>[lstS l]) (out:=fun l=>.bool (l.all nameB)) lsE_inj (x:=l) rfl h1
  have hpz:p.sz=1 + arrsSz p.arrays + fnsSz p.funcs:=rfl
  have hla:=arrsSz_len p.arrays
  have hlf:=fnsSz_len p.funcs
  refine WpCall.slim (M:=55) (rs:=[.tmp 2]) (hw.call _) hw.ice hw.froz Try.func37 rfl rfl code37.2 rfl ?_;dsimp only [code37,envOf,Nat.reduceAdd]
  repeat' (first
     | (apply Rx.nl ?_;clear hK K)|apply Rx.o ?_|apply Rx.on ?_|(apply Rx.gd (fun hg hgp=>?_) (fun hg hgp=>?_) <;> try (cases hg;done))|(apply Rx.cd (fun hb hbp=>?_) (fun hb hbp=>?_) <;> try (cases hb;done))|apply Wp.seq ?_|(apply Wp.ops' fun K hK=>?_)|apply Wp.block ?_|apply Rx.sk ?_|apply Rx.rt ?_|apply Rx.xt ?_)
  refine Wp.forI [1,8,9] [0] 10 p.arrays.length (fun i E H=>p.arrays.all (fun a=>nameB a.name)=(p.arrays.drop i).all (fun a=>nameB a.name)) eE (by simp) ?_
  rintro i E H2 hi hcE hrH hnH hsI hJ
  (try simp only [forall_cons,forall_nil,and_true,sB,sO,Nat.reduceBEq,Nat.reduceAdd,Nat.reduceLeDiff,tyF, *] at hcE)
  (try simp only [forall_cons,forall_nil,and_true,sB,sO,Nat.reduceBEq,Nat.reduceAdd,Nat.reduceLeDiff,tyF, *] at hrH)
  (try simp only [Hp.next_alloc,Hp.next_set,H0_next,Nat.zero_add,Nat.reduceAdd] at hnH)
  have hB0:(0 == H2.next)=false:=ne_beq (by omega)
  have hC0:(H2.next == 0)=false:=ne_beq (by omega)
  repeat' (first
     | (apply Rx.nl ?_;clear hK K)|apply Rx.o ?_|apply Rx.on ?_|(apply Rx.gd (fun hg hgp=>?_) (fun hg hgp=>?_) <;> try (cases hg;done))|(apply Rx.cd (fun hb hbp=>?_) (fun hb hbp=>?_) <;> try (cases hb;done))|apply Wp.seq ?_|(apply Wp.ops' fun K hK=>?_)|apply Wp.block ?_|apply Rx.sk ?_|apply Rx.rt ?_|apply Rx.xt ?_)
  · have hlt : i < p.arrays.length := by simpa using hb
    have hgx:p.arrays[i]?=some p.arrays[i]:=List.getElem?_eq_getElem hlt
    have hsm:=arrsSz_mem (List.getElem_mem hlt)
    have hdr:(p.arrays.drop i).all (fun a=>nameB a.name)=(nameB p.arrays[i].name && (p.arrays.drop (i + 1)).all (fun a=>nameB a.name)):=by rw [List.drop_eq_getElem_cons hlt,List.all_cons]
    repeat' (first
       | (apply Rx.nl ?_;clear hK K)|apply Rx.o ?_|apply Rx.on ?_|(apply Rx.call ?_;first|refine Rx.k (kn _ (by omega) _) ?_)|(apply Rx.gd (fun hg hgp=>?_) (fun hg hgp=>?_) <;> try (cases hg;done))|(apply Rx.cd (fun hb hbp=>?_) (fun hb hbp=>?_) <;> try (cases hb;done))|apply Wp.seq ?_|(apply Wp.ops' fun K hK=>?_)|apply Wp.block ?_|apply Rx.sk ?_|apply Rx.rt ?_|apply Rx.xt ?_)
    all_goals (first|(refine ⟨eI,_,eR,?_⟩;(try simp only [oneOr]);rw [wfP,hJ,hdr];(try simp only [Bool.not_eq_true',Bool.not_eq_false'] at *);simp only [*,decide_true,decide_false,Bool.false_or,Bool.or_false,Bool.true_or,Bool.or_true,Bool.false_and,Bool.and_false,Bool.true_and,Bool.and_true,Bool.not_true,Bool.not_false,if_true,if_false,Int.reduceEq];done)|skip)
    refine ⟨by omega,eL,eL,eN,(by simp only [sB,Nat.reduceBEq, *];exact i64_succ (n:=p.arrays.length) (by omega) (by omega)),?_⟩
    rw [hJ,hdr];(try simp only [Bool.not_eq_true',Bool.not_eq_false'] at *);simp only [*,decide_true,decide_false,Bool.false_or,Bool.or_false,Bool.true_or,Bool.or_true,Bool.false_and,Bool.and_false,Bool.true_and,Bool.and_true,Bool.not_true,Bool.not_false,if_true,if_false,Int.reduceEq]
  · have hie : i = p.arrays.length := by simp at hb; omega
    rw [hie,List.drop_length] at hJ
    have hJ':p.arrays.all (fun a=>nameB a.name)=true:=hJ
    clear hJ hie hsI hi
    refine Wp.forI [20,21] [0] 22 p.funcs.length (fun i E H=>p.funcs.all wfFn=(p.funcs.drop i).all wfFn) eE (by simp) ?_
    rintro i E H3 hi hcE hrH hnH hsI hJ
    (try simp only [forall_cons,forall_nil,and_true,sB,sO,Nat.reduceBEq,Nat.reduceAdd,Nat.reduceLeDiff,tyF, *] at hcE)
    (try simp only [forall_cons,forall_nil,and_true,sB,sO,Nat.reduceBEq,Nat.reduceAdd,Nat.reduceLeDiff,tyF, *] at hrH)
    (try simp only [Hp.next_alloc,Hp.next_set,H0_next,Nat.zero_add,Nat.reduceAdd] at hnH)
    have hB0:(0 == H3.next)=false:=ne_beq (by omega)
    have hC0:(H3.next == 0)=false:=ne_beq (by omega)
    repeat' (first
       | (apply Rx.nl ?_;clear hK K)|apply Rx.o ?_|apply Rx.on ?_|(apply Rx.gd (fun hg hgp=>?_) (fun hg hgp=>?_) <;> try (cases hg;done))|(apply Rx.cd (fun hb hbp=>?_) (fun hb hbp=>?_) <;> try (cases hb;done))|apply Wp.seq ?_|(apply Wp.ops' fun K hK=>?_)|apply Wp.block ?_|apply Rx.sk ?_|apply Rx.rt ?_|apply Rx.xt ?_)
    · have hlt : i < p.funcs.length := by simpa using hb
      have hgx:p.funcs[i]?=some p.funcs[i]:=List.getElem?_eq_getElem hlt
      have hsm:=fnsSz_mem (List.getElem_mem hlt)
      have hsz:p.funcs[i].sz=1 + p.funcs[i].name.length + strsSz p.funcs[i].params + strsSz p.funcs[i].locals + stmtsSz p.funcs[i].body + p.funcs[i].value.sz:=rfl
      have hdr:(p.funcs.drop i).all wfFn=(wfFn p.funcs[i] && (p.funcs.drop (i + 1)).all wfFn):=by rw [List.drop_eq_getElem_cons hlt,List.all_cons]
      have hfn:wfFn p.funcs[i]=(nameB p.funcs[i].name && p.funcs[i].params.all nameB && p.funcs[i].locals.all nameB && wfSs p.funcs[i].body && wfE p.funcs[i].value):=by rw [wfFn,fnNames_all]
      repeat' (first
         | (apply Rx.nl ?_;clear hK K)|apply Rx.o ?_|apply Rx.on ?_|(apply Rx.call ?_;first|refine Rx.k (kn _ (by omega) _) ?_|refine Rx.k (ks _ (by omega) _) ?_)|(apply Rx.gd (fun hg hgp=>?_) (fun hg hgp=>?_) <;> try (cases hg;done))|(apply Rx.cd (fun hb hbp=>?_) (fun hb hbp=>?_) <;> try (cases hb;done))|apply Wp.seq ?_|(apply Wp.ops' fun K hK=>?_)|apply Wp.block ?_|apply Rx.sk ?_|apply Rx.rt ?_|apply Rx.xt ?_)
      · refine WpL.call rfl eVk eAk ?_; simp only [List.cons_append, List.nil_append, List.append_nil]
        refine WpCall.mono ?_ (wfWalk (fun _=>rfl) (fun _=>rfl) ⟨fun _=>rfl,rfl⟩ ⟨fun _=>rfl,rfl⟩ p.funcs[i].value (by omega) _)
        rintro v H4 ⟨rfl,hf4⟩
        have hn4:=hf4.next
        simp only [Hp.next_set,Hp.next_alloc] at hn4
        have g4:H4.get H3.next=some (.cells p.funcs[i].cells 0 true):=by rw [hf4.get _ (Nat.zero_le _) (by simp only [Hp.next_set,Hp.next_alloc];omega),Hp.get_set,if_pos rfl]
        have g40:H4.get 0=some (.cells p.cells 0 true):=by rw [hf4.get _ (Nat.zero_le _) (by simp only [Hp.next_set,Hp.next_alloc];omega),Hp.get_set,if_neg (by omega),Hp.get_alloc,if_neg (by omega)];exact hrH
        dsimp only [setO]
        repeat' (first
           | (apply Rx.nl ?_;clear hK K)|apply Rx.o ?_|apply Rx.on ?_|(apply Rx.gd (fun hg hgp=>?_) (fun hg hgp=>?_) <;> try (cases hg;done))|(apply Rx.cd (fun hb hbp=>?_) (fun hb hbp=>?_) <;> try (cases hb;done))|apply Wp.seq ?_|(apply Wp.ops' fun K hK=>?_)|apply Wp.block ?_|apply Rx.sk ?_|apply Rx.rt ?_|apply Rx.xt ?_)
        · refine WpL.call rfl eVk eAk ?_; simp only [List.cons_append, List.nil_append, List.append_nil]
          refine WpCall.mono ?_ (walkStmts_wp (plainN (fun _=>rfl) rfl) (I:=fun (_:Unit) _=>True) (fun _ _ _ _ _=>trivial) wfsVisit (stmtsSz p.funcs[i].body + 1) p.funcs[i].body (by omega) 0 () H4 (by omega) (Nat.zero_le _) trivial)
          rintro v H5 ⟨rfl,hf5,_⟩
          have hn5:=hf5.next
          have g50:H5.get 0=some (.cells p.cells 0 true):=by rw [hf5.get _ (Nat.zero_le _) (by omega)];exact g40
          rw [walkS_wf]
          dsimp only [setO]
          repeat' (first
             | (apply Rx.nl ?_;clear hK K)|apply Rx.o ?_|apply Rx.on ?_|(apply Rx.gd (fun hg hgp=>?_) (fun hg hgp=>?_) <;> try (cases hg;done))|(apply Rx.cd (fun hb hbp=>?_) (fun hb hbp=>?_) <;> try (cases hb;done))|apply Wp.seq ?_|(apply Wp.ops' fun K hK=>?_)|apply Wp.block ?_|apply Rx.sk ?_|apply Rx.rt ?_|apply Rx.xt ?_)
          all_goals (first|(refine ⟨eI,_,eR,?_⟩;(try simp only [oneOr]);rw [wfP,hJ',hJ,hdr,hfn];(try simp only [Bool.not_eq_true',Bool.not_eq_false'] at *);simp only [*,decide_true,decide_false,Bool.false_or,Bool.or_false,Bool.true_or,Bool.or_true,Bool.false_and,Bool.and_false,Bool.true_and,Bool.and_true,Bool.not_true,Bool.not_false,if_true,if_false,Int.reduceEq];done)|skip)
          refine ⟨by omega,eL,eL,eN,(by simp only [sB,Nat.reduceBEq, *];exact i64_succ (n:=p.funcs.length) (by omega) (by omega)),?_⟩
          rw [hJ,hdr,hfn];(try simp only [Bool.not_eq_true',Bool.not_eq_false'] at *);simp only [*,decide_true,decide_false,Bool.false_or,Bool.or_false,Bool.true_or,Bool.or_true,Bool.false_and,Bool.and_false,Bool.true_and,Bool.and_true,Bool.not_true,Bool.not_false,if_true,if_false,Int.reduceEq]
        all_goals skip
        all_goals (first|(refine ⟨eI,_,eR,?_⟩;(try simp only [oneOr]);rw [wfP,hJ',hJ,hdr,hfn];(try simp only [Bool.not_eq_true',Bool.not_eq_false'] at *);simp only [*,decide_true,decide_false,Bool.false_or,Bool.or_false,Bool.true_or,Bool.or_true,Bool.false_and,Bool.and_false,Bool.true_and,Bool.and_true,Bool.not_true,Bool.not_false,if_true,if_false,Int.reduceEq];done)|skip)
      all_goals skip
      all_goals (first|(refine ⟨eI,_,eR,?_⟩;(try simp only [oneOr]);rw [wfP,hJ',hJ,hdr,hfn];(try simp only [Bool.not_eq_true',Bool.not_eq_false'] at *);simp only [*,decide_true,decide_false,Bool.false_or,Bool.or_false,Bool.true_or,Bool.or_true,Bool.false_and,Bool.and_false,Bool.true_and,Bool.and_true,Bool.not_true,Bool.not_false,if_true,if_false,Int.reduceEq];done)|skip)
    · all_goals (refine ⟨eI, _, eR, ?_⟩; try simp only [oneOr])
      have hie:i=p.funcs.length:=by simp at hb;omega
      rw [hie,List.drop_length] at hJ
      have hJ2:p.funcs.all wfFn=true:=hJ
      rw [wfP,hJ',hJ2];rfl)
end Go.Proofs.Ytackdnelcpbfjaa
namespace Go.Proofs.Ytackdnelcpbfjaa
set_option maxRecDepth 20000
set_option maxRecDepth 20000
open Go Go.Ab
namespace tyP4h
def tyF:=And.intro @tq22 (And.intro @tq23 (@tq25))
end tyP4h
open tyP4h
noncomputable def code13:{ c:SC // slim 16 (Try.f13.body.getD .skip)=c }:=by
 refine ⟨?_,?_⟩
 rotate_left
 · simp only [Try.f13, Option.getD_some, slim, slimR, slimL, slimD, slimG, Nat.blt, Nat.ble]
   rfl
noncomputable def enLim:En:=⟨36,false,spP (fun p=>p.sz < 2 ^ 36) prE fun p=>.bool (limP p)⟩
theorem limits_con (ρ:Nat → Int) (p:Pr) (hz:p.sz < 2 ^ 36):Con Try.prog ρ 36 (prE p) (.bool (limP p)):=Con.lev fit (pls:=pls) (l:=[]) trivial (.cons (.agg p.pure) .nil) (.bool _) (limits_wp ⟨plain0 _,plain0 _,plain0 _,plain0 _⟩ (plain0 _) (plain0 _) (plain0 _) p (by omega))
theorem enLim_ok (ρ:Nat → Int):EnOk Try.prog ρ enLim:=spP_ok fun p hp=>limits_con ρ p hp
noncomputable def enWfP:En:=⟨37,false,spP (fun p=>p.sz < 2 ^ 36) prE fun p=>.bool (wfP p)⟩
theorem enWfP_ok (ρ:Nat → Int):EnOk Try.prog ρ enWfP:=spP_ok fun p hp=>wellFormed_con ρ p hp
noncomputable def enDups:En:=⟨38,false,spP (fun p=>p.sz < 2 ^ 36) prE fun p=>.bool (dupB p)⟩
theorem enDups_ok (ρ:Nat → Int):EnOk Try.prog ρ enDups:=spP_ok fun p hp=>duplicates_con ρ p hp
noncomputable def enRsl:En:=⟨39,false,spP (fun p=>p.sz < 2 ^ 36) prE fun p=>.int .i64 (resP p)⟩
theorem enRsl_ok (ρ:Nat → Int):EnOk Try.prog ρ enRsl:=spP_ok fun p hp=>resolve_con ρ p hp
noncomputable def levChk:List En:=[enLim,enWfP,enDups,enRsl]
theorem levChk_ok (ρ:Nat → Int):EnsOk Try.prog ρ levChk:=⟨enLim_ok ρ,enWfP_ok ρ,enDups_ok ρ,enRsl_ok ρ,trivial⟩
theorem pcheck_con (ρ:Nat → Int) (p:Pr) (hz:p.sz < 2 ^ 36):Con Try.prog ρ 13 (prE p) (.int .i64 (refCheck p)):=Con.lev fit (pls:=pls) (levChk_ok ρ) (.cons (.agg p.pure) .nil) (.int _ _) (by
 have hw:Plain (cfgN pls levChk) 13:=plainN (fun _=>rfl) rfl
 have kl:∀ H,WpCall Try.prog (cfgN pls levChk) 36 [.agg p.cells] H fun v H'=>v=.bool (limP p) ∧ H'=H:=fun H=>WpCall.en (enc:=prE) (out:=fun p=>.bool (limP p)) prE_inj (x:=p) rfl hz
 have kw:∀ H,WpCall Try.prog (cfgN pls levChk) 37 [.agg p.cells] H fun v H'=>v=.bool (wfP p) ∧ H'=H:=fun H=>WpCall.en (enc:=prE) (out:=fun p=>.bool (wfP p)) prE_inj (x:=p) rfl hz
 have kd:∀ H,WpCall Try.prog (cfgN pls levChk) 38 [.agg p.cells] H fun v H'=>v=.bool (dupB p) ∧ H'=H:=fun H=>WpCall.en (enc:=prE) (out:=fun p=>.bool (dupB p)) prE_inj (x:=p) rfl hz
 have kr:∀ H,WpCall Try.prog (cfgN pls levChk) 39 [.agg p.cells] H fun v H'=>v=.int .i64 (resP p) ∧ H'=H:=fun H=>WpCall.en (enc:=prE) (out:=fun p=>.int .i64 (resP p)) prE_inj (x:=p) rfl hz
 rw [prE,← proCheck_eq]
 refine WpCall.slim (M:=16) (rs:=[.tmp 2]) (hw.call _) hw.ice hw.froz Try.func13 rfl rfl code13.2 rfl ?_;dsimp only [code13,envOf,Nat.reduceAdd]
 repeat' (first
    | (apply Rx.nl ?_;clear hK K)|apply Rx.o ?_|(apply Rx.call ?_;first|refine Rx.k (kl _) ?_|refine Rx.k (kw _) ?_|refine Rx.k (kd _) ?_|refine Rx.k (kr _) ?_)|(apply Rx.cd (fun hb hbp=>?_) (fun hb hbp=>?_) <;> try (cases hb;done))|apply Wp.seq ?_|(apply Wp.ops' fun K hK=>?_)|apply Wp.block ?_|apply Rx.sk ?_|apply Rx.rt ?_)
 all_goals
   all_goals (refine ⟨eI,_,eR,?_⟩;try simp only [oneOr])
   rw [proCheck]
   (try simp only [Bool.not_eq_true',Bool.not_eq_false'] at *);simp only [Bool.true_eq_false,Bool.false_eq_true, *,decide_true,decide_false,Bool.false_or,Bool.or_false,Bool.true_or,Bool.or_true,Bool.false_and,Bool.and_false,Bool.true_and,Bool.and_true,Bool.not_true,Bool.not_false,if_true,if_false,Int.reduceEq])
end Go.Proofs.Ytackdnelcpbfjaa
namespace Go.Proofs.Ytackdnelcpbfjaa
set_option maxRecDepth 20000
open Go Go.Ab
noncomputable def enChkP:En:=⟨13,true,spP (fun p=>p.sz < 2 ^ 36) prE fun p=>.int .i64 (refCheck p)⟩
theorem enChkP_ok (ρ:Nat → Int):EnOk Try.prog ρ enChkP:=spP_ok fun p hp=>pcheck_con ρ p hp
end Go.Proofs.Ytackdnelcpbfjaa
namespace Go.Proofs.Ytackdnelcpbfjaa
set_option maxRecDepth 20000
open Go Go.Ab
theorem nm_len (f:Int) (i:Nat):((nmsG f).getD i []).length ≤ 1:=by
 have h:∀ s ∈ nmsG f,s.length ≤ 1:=by
   intro s hs
   unfold nmsG at hs
   split at hs <;> simp only [List.mem_cons,List.not_mem_nil,or_false] at hs
   · rcases hs with rfl|rfl|rfl|rfl <;> simp
   · rcases hs with rfl|rfl <;> simp
 rw [List.getD_eq_getElem?_getD]
 cases e:(nmsG f)[i]? with
 | none=>simp
 | some s=>exact h s (List.mem_of_getElem? e)
theorem arr_len (m:Int):(arrG m).length=1:=by unfold arrG;split <;> rfl
theorem fg_len (m:Int):(fgG m).length=1:=by unfold fgG;split <;> rfl
def bE:Nat → Nat
 | 0=>2
 | k + 1=>5 + 3 * bE k
theorem exprG_sz (f : Int) : ∀ (k deep : Nat) (L : List Int), (exprG f k deep L).1.sz ≤ bE k
  | 0,deep,L=>by simp [exprG,Ex.sz,exprsSz,bE]
  | k + 1, deep, L => by
    have ih:=exprG_sz f k (deep + 1)
    simp only [exprG,bE]
    generalize pickG (nextG L).1 16=q
    generalize pickG (w64 ((nextG L).1.tdiv 16)) 1000=m
    split
    · split
      · have := nm_len f (m.tmod (nmsG f).length).toNat
        simp only [Ex.sz,exprsSz];omega
      · simp only [Ex.sz,exprsSz,List.length_nil];omega
    · split
      · have := arr_len m
        have:=ih (nextG L).2
        simp only [Ex.sz,exprsSz];omega
      · split
        · have := ih (nextG L).2
          have:=ih (exprG f k (deep + 1) (nextG L).2).2
          have:=ih (exprG f k (deep + 1) (exprG f k (deep + 1) (nextG L).2).2).2
          simp only [Ex.sz,exprsSz,List.length_nil];omega
        · split
          · have := ih (nextG L).2
            simp only [Ex.sz,exprsSz,List.length_nil];omega
          · have := ih (nextG L).2
            have:=ih (exprG f k (deep + 1) (nextG L).2).2
            simp only [Ex.sz,exprsSz,List.length_nil];omega
theorem argsG_sz (f:Int):∀ (n:Nat) (L:List Int),exprsSz (argsG f n L).1 ≤ 200 * n
 | 0,_=>by simp [argsG,exprsSz]
 | n + 1, L => by
   have:=argsG_sz f n (exprG f 3 2 L).2
   have:=exprG_sz f 3 2 L
   have:bE 3 ≤ 150:=by decide
   rw [argsG,exprsSz];omega
theorem stmtT_sz {sub:Int → Sd → List St × Sd} (hs:∀ most s,stmtsSz (sub most s).1 ≤ 10000 * nS (sub most s).1) (f:Int) (L1:List Int) (c q m:Int):(stmtT sub f L1 c q m).1.sz + 1 ≤ 10000 * n1 (stmtT sub f L1 c q m).1:=by
 have e5:bE 5 ≤ 1200:=by decide
 have e4:bE 4 ≤ 1200:=by decide
 have e3:bE 3 ≤ 1200:=by decide
 have e50:=exprG_sz f 5 0 L1
 have e32:=exprG_sz f 3 2 L1
 have e41:=exprG_sz f 4 1 L1
 have e43:=exprG_sz f 4 1 (exprG f 3 2 L1).2
 have z:zE.sz=1:=rfl
 have n1':=nm_len f (m.tmod (nmsG f).length).toNat
 have a1:=arr_len m
 have g1:=fg_len m
 have r:=argsG_sz f (2 - m.tmod 2).toNat L1
 have r2:(2 - m.tmod 2).toNat ≤ 4:=by
   have:-2 < m.tmod 2:=by
     have:=Int.tmod_lt_of_pos (-m) (show (0:Int) < 2 by omega)
     rw [Int.neg_tmod] at this
     omega
   omega
 rw [stmtT]
 split
 · simp only [St.sz,n1,nS,exprsSz,stmtsSz,List.length_nil];omega
 split
 · simp only [St.sz,n1,nS,exprsSz,stmtsSz,List.length_nil];omega
 split
 · have s1 := hs 3 ((exprG f 4 1 L1).2, c)
   have s2:=hs 2 (sub 3 ((exprG f 4 1 L1).2,c)).2
   simp only [St.sz,n1,nS,exprsSz,stmtsSz,List.length_nil];omega
 split
 · have s1 := hs 3 ((exprG f 4 1 L1).2, w64 (c + 1))
   simp only [St.sz,n1,nS,exprsSz,stmtsSz,List.length_nil];omega
 split
 · simp only [St.sz,n1,nS,exprsSz,stmtsSz,List.length_nil];omega
 split
 · simp only [St.sz,n1,nS,exprsSz,stmtsSz,List.length_nil];omega
 · simp only [St.sz,n1,nS,exprsSz,stmtsSz,List.length_nil];omega
theorem stsG_sz {step:Sd → St × Sd} (h:∀ s,(step s).1.sz + 1 ≤ 10000 * n1 (step s).1):∀ (n:Nat) (s:Sd),stmtsSz (stsG step n s).1 ≤ 10000 * nS (stsG step n s).1
 | 0,s=>by simp [stsG,stmtsSz,nS]
 | n + 1, s => by
   rw [stsG]
   split
   · simp [stmtsSz,nS]
   · have := h s
     have:=stsG_sz h n (step s).2
     simp only [stmtsSz,nS];omega
theorem stmtG_sz (f:Int):∀ (k deep:Nat) (s:Sd),(stmtG f k deep s).1.sz + 1 ≤ 10000 * n1 (stmtG f k deep s).1
 | 0, deep, s => by
   have z:zE.sz=1:=rfl
   simp only [stmtG,St.sz,n1,nS,exprsSz,stmtsSz,List.length_nil];omega
 | k + 1, deep, s => by
   rw [stmtG,stmtB]
   exact stmtT_sz (fun most s=>stsG_sz (stmtG_sz f k (deep + 1)) _ _) f _ _ _ _
theorem stmtsG_sz (f:Int) (k deep:Nat) (most:Int) (s:Sd):stmtsSz (stmtsG f k deep most s).1 ≤ 10000 * nS (stmtsG f k deep most s).1:=stsG_sz (stmtG_sz f k deep) _ _
theorem genP_szS (l:List Int):(genP l).sz < 2 ^ 24:=by
 have hex:exB (genP l)=false:=by
   have h:=genP_ok l
   rw [refCheck] at h
   cases e:exB (genP l) with
   | false=>rfl
   | true=>rw [if_pos e] at h;omega
 have b1:=stmtsG_sz 0 4 0 5 ((nextG (l.take 60)).2,0)
 have b2:=stmtsG_sz 1 3 1 3 ((genV1 (l.take 60)).2,(genB1 (l.take 60)).2.2)
 have v1:(genV1 (l.take 60)).1.sz ≤ bE 4:=exprG_sz 0 4 1 _
 have v2:(genV2 (l.take 60)).1.sz ≤ bE 4:=exprG_sz 1 4 1 _
 have e4:bE 4 ≤ 1200:=by decide
 rw [genP] at hex ⊢
 generalize l.take 60=L at *
 change stmtsSz (genB1 L).1 ≤ 10000 * nS (genB1 L).1 at b1
 change stmtsSz (genB2 L).1 ≤ 10000 * nS (genB2 L).1 at b2
 simp only [exB,List.any_cons,List.any_nil,Bool.or_false,Bool.or_eq_false_iff,exFn,genF,genGf,decide_eq_false_iff_not] at hex
 obtain ⟨_,h1,h2⟩:=hex
 have n1:¬ (200:Int) < nS (genB1 L).1:=h1.1.1.1.1.2
 have n2:¬ (200:Int) < nS (genB2 L).1:=h2.1.1.1.1.2
 simp only [Pr.sz,arrsSz,fnsSz,genAr,genF,genGf,Fu.sz,strsSz,List.length_cons,List.length_nil]
 omega
theorem genP_sz (l:List Int):(genP l).sz < 2 ^ 36:=Nat.lt_trans (genP_szS l) (by decide)
end Go.Proofs.Ytackdnelcpbfjaa
namespace Go.Proofs.Ytackdnelcpbfjaa
set_option maxRecDepth 20000
open Go Go.Ab
theorem FnL.clen {pt:Nat → Nat} {b n:Nat} {H:Hp} {f:Fu} {p l bo:AV} {v:List AV} (h:FnL pt b n H f p l bo v) (nm:List UInt8):(fnC nm p l bo v).length=9:=by
 show ([_,_,_,_] ++ v).length=9
 rw [List.length_append,h.len];rfl
theorem app_cat {P:Program} {t e:TypeId} {z b:Nat} {zz:List AV} (ht:P.underlying t=some (.slice e)) (hs:sizeA P e=some z) (hb:bytesA P e=some b) (hz:zeroA P e=some zz) (hzz:zz.length=z) (hsrc:srcType P t=true)
   {H:Hp} {q m k:Nat} {cs row:List AV} {v:AV} (hg:H.get q=some (.cells cs 0 true)) (hl:cs.length=m * z) (hx:srcCells H z v=some (k + 1,row)) (hone:row.all AV.one=true) (hb1:(m + (k + 1)) * b ≤ maxRoom) (hb2:m + (k + 1) ≤ maxRoom) :
   appendA P false H t t (.sl q 0 m z) v=some (.sl H.next 0 (m + (k + 1)) z,(H.kill q).alloc (.cells (cs ++ row) 0 true)):=by
 have htr:trimA false H z (.sl q 0 m z)=H:=by
   unfold trimA
   simp only [hg,Nat.zero_add]
   have:Nat.blt (m * z) cs.length=false:=by
     cases hb:Nat.blt (m * z) cs.length with
     | false=>rfl
     | true=>rw [Nat.blt_eq] at hb;omega
   simp only [Bool.not_false,Bool.true_and,this,Bool.false_and]
 simp only [appendA,ht,hs,hb,hz,hsrc,hx,hone,htr,hzz,and_self,if_true,appendOnto,hg,Nat.zero_add,List.drop_zero,Bool.false_eq_true,if_false]
 rw [if_pos ⟨hb1,hb2,by omega,trivial,by omega⟩]
theorem stmtsSz_app:∀ a b:List St,stmtsSz (a ++ b)=stmtsSz a + stmtsSz b
 | [],b=>by rw [List.nil_append,stmtsSz];omega
 | x :: a,b=>by rw [List.cons_append,stmtsSz,stmtsSz,stmtsSz_app a b];omega
end Go.Proofs.Ytackdnelcpbfjaa
namespace Go.Proofs.Ytackdnelcpbfjaa
set_option maxRecDepth 20000
open Go Go.Ab
theorem RowOwn.at {S:Nat → Prop} {n z:Nat} {H:Hp} {v:AV} {ws:List (List AV)} (h:RowOwn S n H z v ws) {k o m z':Nat} (e:v=.sl k o m z'):S k ∧ k < H.next:=by
 rcases h with ⟨rfl,_⟩|⟨q,imm,rows,rfl,h1,h2,_⟩
 · cases e
 · simp only [AV.sl.injEq] at e
   obtain ⟨rfl,_⟩:=e
   exact ⟨h1,h2⟩
theorem RowOwn.pushX {P : Program} {t e : TypeId} {z b : Nat} {zz : List AV} (ht : P.underlying t = some (.slice e)) (hs : sizeA P e = some z) (hb : bytesA P e = some b) (hz : zeroA P e = some zz) (hzz : zz.length = z) (hsrc : srcType P t = true)
    {pt:Nat → Nat} {L n:Nat} {H Hb:Hp} {v:AV} {ws:List (List AV)} (h:RowOwn (fun q=>pt q=L) n H z v ws) (hn:H.next ≤ Hb.next) (hk:∀ q,q < H.next → pt q=L → Hb.get q=H.get q) {r imm:Nat} {row:List AV} (hg:Hb.get r=some (.cells row imm true)) (hrow:row.length=z) (hone:row.all AV.one=true)
    (hb1:(ws.length + 1) * b ≤ maxRoom) (hb2:ws.length + 1 ≤ maxRoom) :
    ∃ H' flat imm', appendA P false Hb t t v (.sl r 0 1 z) = some (.sl Hb.next 0 (ws.length + 1) z, H') ∧ flat.length = ws.length * z ∧ imm' ≤ ws.length * z ∧ H'.get Hb.next = some (.cells (flat ++ row) imm' true) ∧ H'.next = Hb.next + 1 ∧ (∀ q, q < Hb.next → (H.next ≤ q ∨ pt q ≠ L) → H'.get q = Hb.get q) ∧
      ∀ (H'' : Hp) (rf : Nat) (row' w : List AV), Hb.next < H''.next → (∀ q, q ≠ rf → q < Hb.next → H''.get q = H'.get q) → pt rf ≠ L → rf < H.next → H''.get Hb.next = some (.cells (flat ++ row') imm' true) → row'.length = z → CellsW (fun q => H.next ≤ q ∧ q < Hb.next) n Hb row' w →
        RowOwn (fun q=>(if H.next ≤ q then L else pt q)=L) n H'' z (.sl Hb.next 0 (ws.length + 1) z) (ws ++ [w]):=by
  have h':RowOwn (fun q=>q < H.next ∧ pt q=L) n Hb z v ws:=h.keep (fun k h1 h2=>⟨h1,h2⟩) hn fun k h1 h2=>hk k h2 h1
  obtain ⟨H',rows,imm',a1,a2,a3,a4,a5,a6,a7,a8⟩:=RowOwn.pushS ht hs hb hz hzz hsrc (S':=fun q=>(if H.next ≤ q then L else pt q)=L) h' (fun k _ hS=>by show (if _ then _ else _)=L;rw [if_neg (by omega)];exact hS.2) (by show (if _ then _ else _)=L;rw [if_pos hn]) hg hrow hone hb1 hb2
  have fr:∀ q,q < Hb.next → (H.next ≤ q ∨ pt q ≠ L) → H'.get q=Hb.get q:=fun q h1 h2=>a7 q h1 fun o m z' e=>by
    have h3:=(h'.at e).1
    rcases h2 with h2|h2
    · omega
    · exact h2 h3.2
  have hfl:rows.flatten.length=ws.length * z:=by rw [rows_len a3,a2]
  refine ⟨H',rows.flatten,imm',a1,hfl,by rw [← hfl];exact a5,a4,a6,fr,fun H'' rf row' w h1 h2 h3 h4 h5 h6 hw=>?_⟩
  have ne:∀ k,(if H.next ≤ k then L else pt k)=L → k ≠ rf:=fun k h7 e=>by
    subst e
    rw [if_neg (by omega)] at h7
    exact h3 h7
  refine RowOwn.of (S:=fun q=>(if H.next ≤ q then L else pt q)=L) (if_pos hn) h1 a3 h6 h5 a5 (a8.keep2 (fun k _ h8=>h8) (by omega) fun k h7 h8=>h2 k (ne k h7.1) (by have:=h7.2;omega)) ?_
  exact hw.keep2 (fun k h7 h8=>⟨if_pos h8.1,by omega⟩) (by omega) fun k h7 h8=>by rw [h2 k (by omega) h8,fr k h8 (.inl h7.1)]
def ordC (i:Nat) (a b:List AV):List AV:=match i with
 | 0=>a ++ b
 | _ + 1=>b ++ a
def ordP (i:Nat) (x y:Int) (f g:Fu):Pr:=match i with
 | 0=>pr2 x y f g
 | _ + 1=>pr2 x y g f
theorem FnL.mv {pt pt':Nat → Nat} {b n n':Nat} {H H':Hp} {f:Fu} {p l bo:AV} {v:List AV} (h:FnL pt b n H f p l bo v) (hn':n ≤ n') (hS:∀ q,q < H.next → b ≤ pt q → pt q < b + 4 → pt' q=pt q) (hn:H.next ≤ H'.next) (hf:∀ q,q < H.next → b ≤ pt q → pt q < b + 4 → H'.get q=H.get q):FnL pt' b n' H' f p l bo v:=
 ⟨h.len,h.one,(h.ps.keep (fun k h1 h2=>by rw [hS k h1 (by omega) (by omega)];exact h2) hn fun k h1 h2=>hf k h2 (by omega) (by omega)).up hn',
   (h.ls.keep (fun k h1 h2=>by rw [hS k h1 (by omega) (by omega)];exact h2) hn fun k h1 h2=>hf k h2 (by omega) (by omega)).up hn',
   (h.bo.keep (fun k h1 h2=>by rw [hS k h1 (by omega) (by omega)];exact h2) hn fun k h1 h2=>hf k h2 (by omega) (by omega)).up hn',
   (h.vw.keep2 (fun k h1 h2=>by rw [hS k h1 (by omega) (by omega)];exact h2) hn fun k h1 h2=>hf k h2 (by omega) (by omega)).up hn'⟩
structure ProgX (i:Nat) (pt:Nat → Nat) (lo b b' n:Nat) (H:Hp) (ra rf:Nat) (x y:Int) (f g:Fu) (pf lf bf:AV) (vf:List AV) (pg lg bg:AV) (vg:List AV):Prop where
 hb:3 ≤ b ∧ 3 ≤ b' ∧ (b + 4 ≤ b' ∨ b' + 4 ≤ b)
 hlo:lo ≤ H.next
 lab:∀ q,q < lo → pt q=0
 ga:H.get ra=some (.cells [.str [97],.int .i64 x,.str [98],.int .i64 y] 0 true)
 gf:H.get rf=some (.cells (ordC i (fnC f.name pf lf bf vf) (fnC g.name pg lg bg vg)) 0 true)
 ltA:ra < H.next
 ltF:rf < H.next
 lra:pt ra=1
 lrf:pt rf=2
 F:FnL pt b n H f pf lf bf vf
 G:FnL pt b' n H g pg lg bg vg
theorem ProgL.toX {pt:Nat → Nat} {lo n:Nat} {H:Hp} {ra rf:Nat} {x y:Int} {f g:Fu} {pf lf bf:AV} {vf:List AV} {pg lg bg:AV} {vg:List AV} (h:ProgL pt n H ra rf x y f g pf lf bf vf pg lg bg vg) (hlo:lo ≤ H.next) (hl:∀ q,q < lo → pt q=0) :
   ProgX 0 pt lo 3 7 n H ra rf x y f g pf lf bf vf pg lg bg vg ∧ ProgX 1 pt lo 7 3 n H ra rf x y g f pg lg bg vg pf lf bf vf:=
 ⟨⟨by omega,hlo,hl,h.ga,h.gf,h.ltA,h.ltF,h.lra,h.lrf,h.F,h.G⟩,⟨by omega,hlo,hl,h.ga,h.gf,h.ltA,h.ltF,h.lra,h.lrf,h.G,h.F⟩⟩
section
variable {i:Nat} {pt:Nat → Nat} {lo b b' n:Nat} {H:Hp} {ra rf:Nat} {x y:Int} {f g:Fu} {pf lf bf:AV} {vf:List AV} {pg lg bg:AV} {vg:List AV} (h:ProgX i pt lo b b' n H ra rf x y f g pf lf bf vf pg lg bg vg)
include h
theorem ProgX.lo_of {q:Nat} (h1:pt q ≠ 0):lo ≤ q:=by
 by_cases h2:q < lo
 · exact absurd (h.lab q h2) h1
 · omega
theorem ProgX.ne:ra ≠ rf:=fun e=>by
 have h1:=h.lra;have h2:=h.lrf;rw [e] at h1;omega
theorem ProgX.upd {H':Hp} {L n':Nat} {f':Fu} {pf' lf' bf':AV} {vf':List AV} (hL:b ≤ L ∧ L < b + 4) (hn:H.next ≤ H'.next) (hn':n ≤ n') (hk:∀ q,lo ≤ q → q < H.next → q ≠ rf → pt q ≠ L → H'.get q=H.get q) (gf:H'.get rf=some (.cells (ordC i (fnC f'.name pf' lf' bf' vf') (fnC g.name pg lg bg vg)) 0 true))
   (F:FnL (fun q=>if H.next ≤ q then L else pt q) b n' H' f' pf' lf' bf' vf'):ProgX i (fun q=>if H.next ≤ q then L else pt q) lo b b' n' H' ra rf x y f' g pf' lf' bf' vf' pg lg bg vg:=by
 obtain ⟨b1,b2,b3⟩:=h.hb
 have h1:=h.ltA
 have h2:=h.ltF
 have h3:=h.hlo
 have la:=h.lra
 have lf:=h.lrf
 refine ⟨h.hb,by omega,fun q hq=>by show (if _ then _ else _)=0;rw [if_neg (by omega)];exact h.lab q hq,?_,gf,by omega,by omega,by show (if _ then _ else _)=1;rw [if_neg (by omega)];exact la,by show (if _ then _ else _)=2;rw [if_neg (by omega)];exact lf,F,?_⟩
 · rw [hk ra (h.lo_of (by omega)) h1 h.ne (by omega)];exact h.ga
 · exact h.G.mv hn' (fun q h4 _ _=>if_neg (by omega)) hn fun q h4 h5 h6=>hk q (h.lo_of (by omega)) h4 (fun e=>by rw [e] at h5 h6;omega) (by omega)
theorem ProgX.setP {H':Hp} {n':Nat} {pf':AV} (ps:List (List UInt8)) (hn:H.next ≤ H'.next) (hn':n ≤ n') (hk:∀ q,lo ≤ q → q < H.next → q ≠ rf → pt q ≠ b → H'.get q=H.get q) (gf:H'.get rf=some (.cells (ordC i (fnC f.name pf' lf bf vf) (fnC g.name pg lg bg vg)) 0 true))
   (hr:RowOwn (fun q=>(if H.next ≤ q then b else pt q)=b) n' H' 1 pf' (ps.map fun s=>[AV.str s])):ProgX i (fun q=>if H.next ≤ q then b else pt q) lo b b' n' H' ra rf x y { f with params:=ps } g pf' lf bf vf pg lg bg vg:=by
 have hb:=h.hb
 have lr:=h.lrf
 have kp:∀ q,q < H.next → b ≤ pt q → pt q ≠ b → H'.get q=H.get q:=fun q h1 h2 h3=>hk q (h.lo_of (by omega)) h1 (fun e=>by rw [e] at h2;omega) h3
 refine h.upd ⟨by omega,by omega⟩ hn hn' hk gf ⟨h.F.len,h.F.one,hr,(h.F.ls.keep (fun k h1 h2=>by show (if _ then _ else _)=b + 1;rw [if_neg (by omega)];exact h2) hn fun k h1 h2=>kp k h2 (by omega) (by omega)).up hn',(h.F.bo.keep (fun k h1 h2=>by show (if _ then _ else _)=b + 2;rw [if_neg (by omega)];exact h2) hn fun k h1 h2=>kp k h2 (by omega) (by omega)).up hn',(h.F.vw.keep2 (fun k h1 h2=>by show (if _ then _ else _)=b + 3;rw [if_neg (by omega)];exact h2) hn fun k h1 h2=>kp k h2 (by omega) (by omega)).up hn'⟩
theorem ProgX.setL {H':Hp} {n':Nat} {lf':AV} (ls:List (List UInt8)) (hn:H.next ≤ H'.next) (hn':n ≤ n') (hk:∀ q,lo ≤ q → q < H.next → q ≠ rf → pt q ≠ b + 1 → H'.get q=H.get q) (gf:H'.get rf=some (.cells (ordC i (fnC f.name pf lf' bf vf) (fnC g.name pg lg bg vg)) 0 true))
   (hr:RowOwn (fun q=>(if H.next ≤ q then b + 1 else pt q)=b + 1) n' H' 1 lf' (ls.map fun s=>[AV.str s])):ProgX i (fun q=>if H.next ≤ q then b + 1 else pt q) lo b b' n' H' ra rf x y { f with locals:=ls } g pf lf' bf vf pg lg bg vg:=by
 have hb:=h.hb
 have lr:=h.lrf
 have kp:∀ q,q < H.next → b ≤ pt q → pt q ≠ b + 1 → H'.get q=H.get q:=fun q h1 h2 h3=>hk q (h.lo_of (by omega)) h1 (fun e=>by rw [e] at h2;omega) h3
 refine h.upd ⟨by omega,by omega⟩ hn hn' hk gf ⟨h.F.len,h.F.one,(h.F.ps.keep (fun k h1 h2=>by show (if _ then _ else _)=b;rw [if_neg (by omega)];exact h2) hn fun k h1 h2=>kp k h2 (by omega) (by omega)).up hn',hr,(h.F.bo.keep (fun k h1 h2=>by show (if _ then _ else _)=b + 2;rw [if_neg (by omega)];exact h2) hn fun k h1 h2=>kp k h2 (by omega) (by omega)).up hn',(h.F.vw.keep2 (fun k h1 h2=>by show (if _ then _ else _)=b + 3;rw [if_neg (by omega)];exact h2) hn fun k h1 h2=>kp k h2 (by omega) (by omega)).up hn'⟩
theorem ProgX.setB {H':Hp} {n':Nat} {bf':AV} (bs:List St) (hn:H.next ≤ H'.next) (hn':n ≤ n') (hk:∀ q,lo ≤ q → q < H.next → q ≠ rf → pt q ≠ b + 2 → H'.get q=H.get q) (gf:H'.get rf=some (.cells (ordC i (fnC f.name pf lf bf' vf) (fnC g.name pg lg bg vg)) 0 true))
   (hr:RowOwn (fun q=>(if H.next ≤ q then b + 2 else pt q)=b + 2) n' H' 17 bf' (bs.map St.cells)):ProgX i (fun q=>if H.next ≤ q then b + 2 else pt q) lo b b' n' H' ra rf x y { f with body:=bs } g pf lf bf' vf pg lg bg vg:=by
 have hb:=h.hb
 have lr:=h.lrf
 have kp:∀ q,q < H.next → b ≤ pt q → pt q ≠ b + 2 → H'.get q=H.get q:=fun q h1 h2 h3=>hk q (h.lo_of (by omega)) h1 (fun e=>by rw [e] at h2;omega) h3
 refine h.upd ⟨by omega,by omega⟩ hn hn' hk gf ⟨h.F.len,h.F.one,(h.F.ps.keep (fun k h1 h2=>by show (if _ then _ else _)=b;rw [if_neg (by omega)];exact h2) hn fun k h1 h2=>kp k h2 (by omega) (by omega)).up hn',(h.F.ls.keep (fun k h1 h2=>by show (if _ then _ else _)=b + 1;rw [if_neg (by omega)];exact h2) hn fun k h1 h2=>kp k h2 (by omega) (by omega)).up hn',hr,(h.F.vw.keep2 (fun k h1 h2=>by show (if _ then _ else _)=b + 3;rw [if_neg (by omega)];exact h2) hn fun k h1 h2=>kp k h2 (by omega) (by omega)).up hn'⟩
theorem ProgX.setA {H':Hp} {x' y':Int} {nf:List UInt8} (hn:H.next ≤ H'.next) (hk:∀ q,lo ≤ q → q < H.next → q ≠ ra → q ≠ rf → H'.get q=H.get q) (ga:H'.get ra=some (.cells [.str [97],.int .i64 x',.str [98],.int .i64 y'] 0 true)) (gf:H'.get rf=some (.cells (ordC i (fnC nf pf lf bf vf) (fnC g.name pg lg bg vg)) 0 true)) :
   ProgX i pt lo b b' n H' ra rf x' y' { f with name:=nf } g pf lf bf vf pg lg bg vg:=by
 have la:=h.lra
 have lr:=h.lrf
 have hb:=h.hb
 have h1:=h.ltA
 have h2:=h.ltF
 have h3:=h.hlo
 have hF:=h.F.mv (pt':=pt) (H':=H') (Nat.le_refl n) (fun _ _ _ _=>rfl) hn fun q h1 h2 h3=>hk q (h.lo_of (by omega)) h1 (fun e=>by rw [e] at h2;omega) (fun e=>by rw [e] at h2;omega)
 have hG:=h.G.mv (pt':=pt) (H':=H') (Nat.le_refl n) (fun _ _ _ _=>rfl) hn fun q h1 h2 h3=>hk q (h.lo_of (by omega)) h1 (fun e=>by rw [e] at h2;omega) (fun e=>by rw [e] at h2;omega)
 exact ⟨h.hb,by omega,h.lab,ga,gf,by omega,by omega,la,lr,⟨hF.len,hF.one,hF.ps,hF.ls,hF.bo,hF.vw⟩,hG⟩
omit h in
theorem FnL.row {pt:Nat → Nat} {b n:Nat} {H:Hp} {f:Fu} {p l bo:AV} {v:List AV} (h:FnL pt b n H f p l bo v) {S:Nat → Prop} (hS:∀ q,q < H.next → b ≤ pt q → pt q < b + 4 → S q):CellsW S (n + 1) H (fnC f.name p l bo v) f.cells:=
 fu_node f.name rfl (h.ps.rd.keep2 (fun k h1 h2=>hS k h1 (by omega) (by omega)) (Nat.le_refl _) fun _ _ _=>rfl) (h.ls.rd.keep2 (fun k h1 h2=>hS k h1 (by omega) (by omega)) (Nat.le_refl _) fun _ _ _=>rfl) (h.bo.rd.keep2 (fun k h1 h2=>hS k h1 (by omega) (by omega)) (Nat.le_refl _) fun _ _ _=>rfl) ((h.vw.up (Nat.le_succ _)).keep2 (fun k h1 h2=>hS k h1 (by omega) (by omega)) (Nat.le_refl _) fun _ _ _=>rfl)
end
theorem aZ17 (E:Env):aeval E (.const (.agg #[.int .i64 0,.string ⟨#[]⟩,.string ⟨#[]⟩,.int .i64 0,.int .i64 0,.int .i64 0,.string ⟨#[]⟩,.int .i64 0,.slice none 0 0,.int .i64 0,.int .i64 0,.string ⟨#[]⟩,.int .i64 0,.slice none 0 0,.slice none 0 0,.slice none 0 0,.slice none 0 0]))=some (.agg [.int .i64 0,.str [],.str [],.int .i64 0,.int .i64 0,.int .i64 0,.str [],.int .i64 0,.nilS,.int .i64 0,.int .i64 0,.str [],.int .i64 0,.nilS,.nilS,.nilS,.nilS]):=by kernel_rfl
theorem bsE1x (H:Hp) (a b c d e:AV):buildSliceA Try.prog H 37 1 [(0,.agg [a,b,c,d,e])]=some (.sl H.next 0 1 5,H.alloc (.cells [a,b,c,d,e] 0 true)):=by kernel_rfl
theorem bNx (q:Nat) (o:Int):buildA Try.prog 39 [(0,.int .i64 4),(3,.int .i64 o),(4,.sl q 0 1 5)]=some (.agg [.int .i64 4,.int .i64 0,.str [],.int .i64 o,.sl q 0 1 5]):=by kernel_rfl
theorem alloc_old {H:Hp} {b:HB} {q:Nat} (h:q < H.next):(H.alloc b).get q=H.get q:=by rw [Hp.get_alloc,if_neg (by omega)]
end Go.Proofs.Ytackdnelcpbfjaa
