/- Parts: R3a, R3b, R3c, R3d, R3e, Strs, R3f. -/
import Derived.Test.YtackdnelcpbfjaaSRG
set_option linter.unusedSimpArgs false
set_option linter.unusedVariables false
set_option linter.unusedSectionVars false
set_option linter.defProp false
set_option maxHeartbeats 32000000
namespace Go.Proofs.Ytackdnelcpbfjaa
set_option maxRecDepth 20000
set_option maxRecDepth 20000
open Go Go.Ab
namespace tyR3a
def tyF:=And.intro @tq3 (And.intro @tq9 (And.intro @tq35 (And.intro @tq22 (And.intro @tq23 (And.intro @tq25 (And.intro @tq36 (And.intro @tq39 (And.intro @tq41 (And.intro @tq5 (And.intro @tq2 (@tq37)))))))))))
end tyR3a
open tyR3a
theorem plain0 (f:FuncId):Plain (cfgN pls []) f:=⟨fun _=>rfl,rfl,rfl⟩
theorem plainN {l:List En} {f:FuncId} (h1:∀ args,lookN l f args=none) (h2:iceN l f=false):Plain (cfgN pls l) f:=⟨h1,h2,rfl⟩
structure PlainA (cfg:Cfg) (f:FuncId) (args:List AV):Prop where
 call:cfg.call f args=none
 ice:cfg.ice f=false
 froz:cfg.froz f=false
theorem plainR {α:Type} {sz:α → Nat} {ok:α → Prop} {enc:α → List AV} {out:α → AV} (inj:∀ x y,enc x=enc y → x=y) {f:FuncId} {l:List En} (x:α) :
   PlainA (cfgN pls (⟨f,false,spP (fun y=>ok y ∧ sz y < sz x) enc out⟩ :: l)) f (enc x):=by
 have hf:Nat.beq f f=true:=Nat.beq_refl f
 refine ⟨?_,?_,rfl⟩
 · show lookN _ f (enc x) = none
   simp only [lookN,hf]
   exact spP_none fun y hy e=>by rw [inj _ _ e] at hy;exact Nat.lt_irrefl _ hy.2
 · show iceN _ f = false
   simp only [iceN,hf]
noncomputable def code90:{ c:SC // slim 21 (Try.f90.body.getD .skip)=c }:=by
 refine ⟨?_,?_⟩
 rotate_left
 · simp only [Try.f90, Option.getD_some, slim, slimR, slimL, slimD, slimG, Nat.blt, Nat.ble]
   rfl
noncomputable def code91:{ c:SC // slim 9 (Try.f91.body.getD .skip)=c }:=by
 refine ⟨?_,?_⟩
 rotate_left
 · simp only [Try.f91, Option.getD_some, slim, slimR, slimL, slimD, slimG, Nat.blt, Nat.ble]
   rfl
noncomputable def code118:{ c:SC // slim 34 (Try.f118.body.getD .skip)=c }:=by
 refine ⟨?_,?_⟩
 rotate_left
 · simp only [Try.f118, Option.getD_some, slim, slimR, slimL, slimD, slimG, Nat.blt, Nat.ble]
   rfl
noncomputable def code119:{ c:SC // slim 18 (Try.f119.body.getD .skip)=c }:=by
 refine ⟨?_,?_⟩
 rotate_left
 · simp only [Try.f119, Option.getD_some, slim, slimR, slimL, slimD, slimG, Nat.blt, Nat.ble]
   rfl
noncomputable def code84:{ c:SC // slim 10 (Try.f84.body.getD .skip)=c }:=by
 refine ⟨?_,?_⟩
 rotate_left
 · simp only [Try.f84, Option.getD_some, slim, slimR, slimL, slimD, slimG, Nat.blt, Nat.ble]
   rfl
noncomputable def code87:{ c:SC // slim 18 (Try.f87.body.getD .skip)=c }:=by
 refine ⟨?_,?_⟩
 rotate_left
 · simp only [Try.f87, Option.getD_some, slim, slimR, slimL, slimD, slimG, Nat.blt, Nat.ble]
   rfl
noncomputable def code121:{ c:SC // slim 9 (Try.f121.body.getD .skip)=c }:=by
 refine ⟨?_,?_⟩
 rotate_left
 · simp only [Try.f121, Option.getD_some, slim, slimR, slimL, slimD, slimG, Nat.blt, Nat.ble]
   rfl
noncomputable def code142:{ c:SC // slim 27 (Try.f142.body.getD .skip)=c }:=by
 refine ⟨?_,?_⟩
 rotate_left
 · simp only [Try.f142, Option.getD_some, slim, slimR, slimL, slimD, slimG, Nat.blt, Nat.ble]
   rfl
noncomputable def code88:{ c:SC // slim 22 (Try.f88.body.getD .skip)=c }:=by
 refine ⟨?_,?_⟩
 rotate_left
 · simp only [Try.f88, Option.getD_some, slim, slimR, slimL, slimD, slimG, Nat.blt, Nat.ble]
   rfl
theorem isLetter_con (ρ:Nat → Int) (n:Int):Con Try.prog ρ 90 [.int .u8 n] (.bool (letterI n)):=Con.lev fit (pls:=pls) (l:=[]) trivial (.cons (.int _ _) .nil) (.bool _) (by
 have hw:=plain0 90
 refine WpCall.slim (M:=21) (rs:=[.tmp 2]) (hw.call _) hw.ice hw.froz Try.func90 rfl rfl code90.2 rfl ?_;dsimp only [code90,envOf,Nat.reduceAdd]
 repeat' (first
    | (apply Rx.nl ?_;clear hK K)|apply Rx.o ?_|apply Rx.gu ?_|(apply Rx.gd (fun hg hgp=>?_) (fun hg hgp=>?_) <;> try (cases hg;done))|apply Wp.seq ?_|(apply Wp.ops' fun K hK=>?_)|apply Rx.rt ?_)
 all_goals (refine ⟨eI,_,eR,?_⟩;try simp only [oneOr])
 all_goals (simp_all [letterI] <;> omega))
theorem isDigit_con (ρ:Nat → Int) (n:Int):Con Try.prog ρ 91 [.int .u8 n] (.bool (digitI n)):=Con.lev fit (pls:=pls) (l:=[]) trivial (.cons (.int _ _) .nil) (.bool _) (by
 have hw:=plain0 91
 refine WpCall.slim (M:=9) (rs:=[.tmp 2]) (hw.call _) hw.ice hw.froz Try.func91 rfl rfl code91.2 rfl ?_;dsimp only [code91,envOf,Nat.reduceAdd]
 repeat' (first
    | (apply Rx.nl ?_;clear hK K)|apply Rx.o ?_|(apply Rx.gd (fun hg hgp=>?_) (fun hg hgp=>?_) <;> try (cases hg;done))|apply Wp.seq ?_|(apply Wp.ops' fun K hK=>?_)|apply Rx.rt ?_)
 all_goals (refine ⟨eI,_,eR,?_⟩;try simp only [oneOr])
 all_goals (simp_all [digitI] <;> omega))
def u8E (n:Int):List AV:=[.int .u8 n]
theorem u8E_inj (x y:Int) (h:u8E x=u8E y):x=y:=by simpa [u8E] using h
noncomputable def enLet:En:=⟨90,false,spP (fun _=>True) u8E fun n=>.bool (letterI n)⟩
noncomputable def enDig:En:=⟨91,false,spP (fun _=>True) u8E fun n=>.bool (digitI n)⟩
theorem enLet_ok (ρ:Nat → Int):EnOk Try.prog ρ enLet:=spP_ok fun n _=>isLetter_con ρ n
theorem enDig_ok (ρ:Nat → Int):EnOk Try.prog ρ enDig:=spP_ok fun n _=>isDigit_con ρ n
theorem isName_con (ρ : Nat → Int) (s : List UInt8) (hs : s.length < 2 ^ 60) : Con Try.prog ρ 118 [.str s] (.bool (nmB s)) := Con.lev fit (pls := pls) (l := [enLet, enDig]) ⟨enLet_ok ρ, enDig_ok ρ, trivial⟩ (.cons (.str _) .nil) (.bool _) (by
  have hw:Plain (cfgN pls [enLet,enDig]) 118:=plainN (fun _=>rfl) rfl
  have kl:∀ (n:Int) (H:Hp),WpCall Try.prog (cfgN pls [enLet,enDig]) 90 [.int .u8 n] H fun v H'=>v=.bool (letterI n) ∧ H'=H:=fun n H=>WpCall.en (enc:=u8E) (out:=fun n=>.bool (letterI n)) u8E_inj (x:=n) rfl trivial
  have kd:∀ (n:Int) (H:Hp),WpCall Try.prog (cfgN pls [enLet,enDig]) 91 [.int .u8 n] H fun v H'=>v=.bool (digitI n) ∧ H'=H:=fun n H=>WpCall.en (enc:=u8E) (out:=fun n=>.bool (digitI n)) u8E_inj (x:=n) rfl trivial
  refine WpCall.slim (M:=34) (rs:=[.tmp 2]) (hw.call _) hw.ice hw.froz Try.func118 rfl rfl code118.2 rfl ?_;dsimp only [code118,envOf,Nat.reduceAdd]
  repeat' (first
     | (apply Rx.nl ?_;clear hK K)|apply Rx.o ?_|apply Rx.gu ?_|(apply Rx.gd (fun hg hgp=>?_) (fun hg hgp=>?_) <;> try (cases hg;done))|(apply Rx.cd (fun hb hbp=>?_) (fun hb hbp=>?_) <;> try (cases hb;done))|apply Wp.seq ?_|(apply Wp.ops' fun K hK=>?_)|apply Wp.block ?_|apply Rx.sk ?_|apply Rx.rt ?_|apply Rx.xt ?_)
  refine Wp.forI [0] [] 3 s.length (fun i E H=>wordN s=i + wordN (s.drop i) ∧ (0 < i → ∀ b,s[0]?=some b → digitI b.toNat=false)) eE (by simp) ?_
  rintro i E H2 hi hcE hrH hnH hsI ⟨hJ,hK1⟩
  (try simp only [forall_cons,forall_nil,and_true,sB,sO,Nat.reduceBEq,Nat.reduceAdd,Nat.reduceLeDiff,tyF, *] at hcE)
  (try simp only [forall_cons,forall_nil,and_true,sB,sO,Nat.reduceBEq,Nat.reduceAdd,Nat.reduceLeDiff,tyF, *] at hrH)
  (try simp only [Hp.next_alloc,Hp.next_set,H0_next,Nat.zero_add,Nat.reduceAdd] at hnH)
  repeat' (first
     | (apply Rx.nl ?_;clear hK K)|apply Rx.o ?_|apply Rx.gu ?_|(apply Rx.gd (fun hg hgp=>?_) (fun hg hgp=>?_) <;> try (cases hg;done))|(apply Rx.cd (fun hb hbp=>?_) (fun hb hbp=>?_) <;> try (cases hb;done))|apply Wp.seq ?_|(apply Wp.ops' fun K hK=>?_)|apply Wp.block ?_|apply Rx.sk ?_|apply Rx.rt ?_|apply Rx.xt ?_)
  · have hlt : i < s.length := by simpa using hb
    have hgx:s[i]?=some s[i]:=List.getElem?_eq_getElem hlt
    have hdr:wordN (s.drop i)=if wordB s[i] then wordN (s.drop (i + 1)) + 1 else 0:=by rw [List.drop_eq_getElem_cons hlt,wordN]
    repeat' (first
       | (apply Rx.nl ?_;clear hK K)|apply Rx.o ?_|(apply Rx.call ?_;first|refine Rx.k (kl _ _) ?_|refine Rx.k (kd _ _) ?_)|apply Rx.gu ?_|(apply Rx.gd (fun hg hgp=>?_) (fun hg hgp=>?_) <;> try (cases hg;done))|(apply Rx.cd (fun hb hbp=>?_) (fun hb hbp=>?_) <;> try (cases hb;done))|apply Wp.seq ?_|(apply Wp.ops' fun K hK=>?_)|apply Wp.block ?_|apply Rx.sk ?_|apply Rx.rt ?_|apply Rx.xt ?_)
    · all_goals (refine ⟨eI, _, eR, ?_⟩; try simp only [oneOr])
      have hi0:i=0:=by omega
      subst hi0
      unfold nmB
      cases s <;> simp_all
    · refine ⟨by omega, eL, eL, eN, (by simp only [sB, Nat.reduceBEq, *]; exact i64_succ (n := s.length) (by omega) (by omega)), ?_⟩
      have hwb:wordB s[i]=true:=by simp_all [wordB]
      refine ⟨by rw [hJ,hdr,hwb];simp;omega,fun _ b hb0=>hK1 (by omega) b hb0⟩
    · all_goals (refine ⟨eI, _, eR, ?_⟩; try simp only [oneOr])
      have hwb:wordB s[i]=false:=by simp_all [wordB]
      rw [hwb] at hdr
      simp at hdr
      unfold nmB
      simp [show ¬ wordN s=s.length by omega]
    · refine ⟨by omega, eL, eL, eN, (by simp only [sB, Nat.reduceBEq, *]; exact i64_succ (n := s.length) (by omega) (by omega)), ?_⟩
      have hwb:wordB s[i]=true:=by simp_all [wordB]
      refine ⟨by rw [hJ,hdr,hwb];simp;omega,fun _ b hb0=>?_⟩
      by_cases h0:0 < i
      · exact hK1 h0 b hb0
      · have hi0 : i = 0 := by omega
        subst hi0
        rw [hgx] at hb0
        have:s[0]=b:=by simpa using hb0
        subst this
        have hle:letterI s[0].toNat=true:=by simp_all
        simp only [letterI,digitI] at *
        simp only [Bool.or_eq_true,Bool.and_eq_true,decide_eq_true_eq] at hle
        simp only [Bool.and_eq_false_iff,decide_eq_false_iff_not]
        omega
  all_goals
    have hie:i=s.length:=by omega
    all_goals (refine ⟨eI,_,eR,?_⟩;try simp only [oneOr])
    rw [hie] at hJ
    simp [wordN] at hJ
    unfold nmB
    cases s <;> simp_all <;> omega)
def hasS (l:List (List UInt8)) (s:List UInt8):Bool:=l.any fun x=>decide (x=s)
theorem contains_con (ρ:Nat → Int) (l:List (List UInt8)) (s:List UInt8) (hl:l.length < 2 ^ 60):Con Try.prog ρ 87 [lstS l,.str s] (.bool (hasS l s)):=Con.lev fit (pls:=pls) (l:=[]) trivial (.cons (strs_pure _) (.cons (.str _) .nil)) (.bool _) (by
 have hw:=plain0 87
 refine WpCall.slim (M:=18) (rs:=[.tmp 4]) (hw.call _) hw.ice hw.froz Try.func87 rfl rfl code87.2 rfl ?_;dsimp only [code87,envOf,Nat.reduceAdd]
 repeat' (first
    | (apply Rx.nl ?_;clear hK K)|apply Rx.o ?_|(apply Rx.cd (fun hb hbp=>?_) (fun hb hbp=>?_) <;> try (cases hb;done))|apply Wp.seq ?_|(apply Wp.ops' fun K hK=>?_)|apply Wp.block ?_|apply Rx.sk ?_|apply Rx.rt ?_|apply Rx.xt ?_)
 refine Wp.forI [0,1] [] 5 l.length (fun i E H=>hasS l s=hasS (l.drop i) s) eE (by simp) ?_
 rintro i E H2 hi hcE hrH hnH hsI hJ
 (try simp only [forall_cons,forall_nil,and_true,sB,sO,Nat.reduceBEq,Nat.reduceAdd,Nat.reduceLeDiff,tyF, *] at hcE)
 (try simp only [forall_cons,forall_nil,and_true,sB,sO,Nat.reduceBEq,Nat.reduceAdd,Nat.reduceLeDiff,tyF, *] at hrH)
 (try simp only [Hp.next_alloc,Hp.next_set,H0_next,Nat.zero_add,Nat.reduceAdd] at hnH)
 repeat' (first
    | (apply Rx.nl ?_;clear hK K)|apply Rx.o ?_|(apply Rx.cd (fun hb hbp=>?_) (fun hb hbp=>?_) <;> try (cases hb;done))|apply Wp.seq ?_|(apply Wp.ops' fun K hK=>?_)|apply Wp.block ?_|apply Rx.sk ?_|apply Rx.rt ?_|apply Rx.xt ?_)
 · have hlt : i < l.length := by simpa using hb
   have hgx:l[i]?=some l[i]:=List.getElem?_eq_getElem hlt
   have hdr:hasS (l.drop i) s=(decide (l[i]=s) || hasS (l.drop (i + 1)) s):=by rw [List.drop_eq_getElem_cons hlt];rfl
   repeat' (first
      | (apply Rx.nl ?_;clear hK K)|apply Rx.o ?_|(apply Rx.cd (fun hb hbp=>?_) (fun hb hbp=>?_) <;> try (cases hb;done))|apply Wp.seq ?_|(apply Wp.ops' fun K hK=>?_)|apply Wp.block ?_|apply Rx.sk ?_|apply Rx.rt ?_|apply Rx.xt ?_)
   · all_goals (refine ⟨eI, _, eR, ?_⟩; try simp only [oneOr])
     rw [hJ,hdr];simp_all
   · refine ⟨by omega, eL, eL, eN, (by simp only [sB, Nat.reduceBEq, *]; exact i64_succ (n := l.length) (by omega) (by omega)), ?_⟩
     rw [hJ,hdr];simp_all
 · all_goals (refine ⟨eI, _, eR, ?_⟩; try simp only [oneOr])
   rw [hJ,show i=l.length by simp at hb;omega];simp [hasS])
def isBinB (op:Int):Bool:=decide (4 ≤ op) && decide (op ≤ 18)
theorem isBin_con (ρ:Nat → Int) (op:Int):Con Try.prog ρ 121 [.int .i64 op] (.bool (isBinB op)):=Con.lev fit (pls:=pls) (l:=[]) trivial (.cons (.int _ _) .nil) (.bool _) (by
 have hw:=plain0 121
 refine WpCall.slim (M:=9) (rs:=[.tmp 2]) (hw.call _) hw.ice hw.froz Try.func121 rfl rfl code121.2 rfl ?_;dsimp only [code121,envOf,Nat.reduceAdd]
 repeat' (first
    | (apply Rx.nl ?_;clear hK K)|apply Rx.o ?_|(apply Rx.gd (fun hg hgp=>?_) (fun hg hgp=>?_) <;> try (cases hg;done))|apply Wp.seq ?_|(apply Wp.ops' fun K hK=>?_)|apply Rx.rt ?_)
 all_goals (refine ⟨eI,_,eR,?_⟩;try simp only [oneOr])
 all_goals (simp_all [isBinB] <;> omega))
def zeroE (x:Ex):Bool:=decide (x.kind=0) && decide (x.n=0) && decide (x.name=[]) && decide (x.op=0) && decide (x.kids.length=0)
theorem rzero_con (ρ:Nat → Int) (x:Ex):Con Try.prog ρ 142 [.agg x.cells] (.bool (zeroE x)):=Con.lev fit (pls:=pls) (l:=[]) trivial (.cons (.agg x.pure) .nil) (.bool _) (by
 have hw:=plain0 142
 refine WpCall.slim (M:=27) (rs:=[.tmp 2]) (hw.call _) hw.ice hw.froz Try.func142 rfl rfl code142.2 rfl ?_;dsimp only [code142,envOf,Nat.reduceAdd]
 repeat' (first
    | (apply Rx.nl ?_;clear hK K)|apply Rx.o ?_|(apply Rx.gd (fun hg hgp=>?_) (fun hg hgp=>?_) <;> try (cases hg;done))|apply Wp.seq ?_|(apply Wp.ops' fun K hK=>?_)|apply Rx.rt ?_)
 all_goals
   all_goals (refine ⟨eI,_,eR,?_⟩;try simp only [oneOr])
 all_goals simp_all [zeroE])
def findF:List Fu → List UInt8 → Int → Int
 | [],_,_=>-1
 | f :: l,s,i=>if f.name=s then i else findF l s (i + 1)
theorem find_con (ρ:Nat → Int) (p:Pr) (s:List UInt8) (hl:p.funcs.length < 2 ^ 60):Con Try.prog ρ 88 [.agg p.cells,.str s] (.int .i64 (findF p.funcs s 0)):=Con.lev fit (pls:=pls) (l:=[]) trivial (.cons (.agg p.pure) (.cons (.str _) .nil)) (.int _ _) (by
 have hw:=plain0 88
 refine WpCall.slim (M:=22) (rs:=[.tmp 4]) (hw.call _) hw.ice hw.froz Try.func88 rfl rfl code88.2 rfl ?_;dsimp only [code88,envOf,Nat.reduceAdd]
 repeat' (first
    | (apply Rx.nl ?_;clear hK K)|apply Rx.o ?_|(apply Rx.cd (fun hb hbp=>?_) (fun hb hbp=>?_) <;> try (cases hb;done))|apply Wp.seq ?_|(apply Wp.ops' fun K hK=>?_)|apply Wp.block ?_|apply Rx.sk ?_|apply Rx.rt ?_|apply Rx.xt ?_)
 refine Wp.forI [1,2] [0] 5 p.funcs.length (fun i E H=>findF p.funcs s 0=findF (p.funcs.drop i) s i) eE (by simp) ?_
 rintro i E H2 hi hcE hrH hnH hsI hJ
 (try simp only [forall_cons,forall_nil,and_true,sB,sO,Nat.reduceBEq,Nat.reduceAdd,Nat.reduceLeDiff,tyF, *] at hcE)
 (try simp only [forall_cons,forall_nil,and_true,sB,sO,Nat.reduceBEq,Nat.reduceAdd,Nat.reduceLeDiff,tyF, *] at hrH)
 (try simp only [Hp.next_alloc,Hp.next_set,H0_next,Nat.zero_add,Nat.reduceAdd] at hnH)
 have hB0:(0 == H2.next)=false:=ne_beq (by omega)
 have hC0:(H2.next == 0)=false:=ne_beq (by omega)
 repeat' (first
    | (apply Rx.nl ?_;clear hK K)|apply Rx.o ?_|(apply Rx.cd (fun hb hbp=>?_) (fun hb hbp=>?_) <;> try (cases hb;done))|apply Wp.seq ?_|(apply Wp.ops' fun K hK=>?_)|apply Wp.block ?_|apply Rx.sk ?_|apply Rx.rt ?_|apply Rx.xt ?_)
 · have hlt : i < p.funcs.length := by simpa using hb
   have hgx:p.funcs[i]?=some p.funcs[i]:=List.getElem?_eq_getElem hlt
   have hdr:findF (p.funcs.drop i) s i=if p.funcs[i].name=s then (i:Int) else findF (p.funcs.drop (i + 1)) s (i + 1):=by rw [List.drop_eq_getElem_cons hlt];rfl
   repeat' (first
      | (apply Rx.nl ?_;clear hK K)|apply Rx.o ?_|(apply Rx.cd (fun hb hbp=>?_) (fun hb hbp=>?_) <;> try (cases hb;done))|apply Wp.seq ?_|(apply Wp.ops' fun K hK=>?_)|apply Wp.block ?_|apply Rx.sk ?_|apply Rx.rt ?_|apply Rx.xt ?_)
   · all_goals (refine ⟨eI, _, eR, ?_⟩; try simp only [oneOr])
     rw [hJ,hdr,if_pos (by simp_all)]
   · refine ⟨by omega, eL, eL, eN, (by simp only [sB, Nat.reduceBEq, *]; exact i64_succ (n := p.funcs.length) (by omega) (by omega)), ?_⟩
     rw [hJ,hdr,if_neg (by simp_all)];rfl
 · all_goals (refine ⟨eI, _, eR, ?_⟩; try simp only [oneOr])
   rw [hJ,show i=p.funcs.length by simp at hb;omega];simp [findF])
def resL:List (List UInt8):=[[97,114,114,97,121],[102,117,110,99],[118,97,114],[114,101,116,117,114,110],[105,102],[101,108,115,101],[119,104,105,108,101],[111,117,116],[116,114,97,112]]
theorem resL_has (s:List UInt8):hasS resL s=resB s:=by
 simp only [hasS,resL,resB,List.any_cons,List.any_nil,Bool.or_false,← Bool.or_assoc]
 simp only [eq_comm]
theorem bsRes (H:Hp) (a b c d e f g h i:List UInt8):buildSliceA Try.prog H 35 9 [(0,.str a),(1,.str b),(2,.str c),(3,.str d),(4,.str e),(5,.str f),(6,.str g),(7,.str h),(8,.str i)]=some (.sl H.next 0 9 1,H.alloc (.cells ([a,b,c,d,e,f,g,h,i].map .str) 0 true)):=by kernel_rfl
theorem reserved_con (ρ:Nat → Int) (s:List UInt8):Con Try.prog ρ 119 [.str s] (.bool (resB s)):=Con.lev fit (pls:=pls) (l:=[]) trivial (.cons (.str _) .nil) (.bool _) (by
 have hw:=plain0 119
 refine WpCall.slim (M:=18) (rs:=[.tmp 2]) (hw.call _) hw.ice hw.froz Try.func119 rfl rfl code119.2 rfl ?_;dsimp only [code119,envOf,Nat.reduceAdd]
 have gh0:=@bsRes
 repeat' (first
    | (apply Rx.nl ?_;clear hK K)|apply Rx.o ?_|(apply Rx.cd (fun hb hbp=>?_) (fun hb hbp=>?_) <;> try (cases hb;done))|apply Wp.seq ?_|(apply Wp.ops' fun K hK=>?_)|apply Wp.block ?_|apply Rx.sk ?_|apply Rx.rt ?_|apply Rx.xt ?_)
 refine Wp.forI [0,3] [0] 4 9 (fun i E H=>hasS resL s=hasS (resL.drop i) s) eE (by simp) ?_
 rintro i E H2 hi hcE hrH hnH hsI hJ
 (try simp only [forall_cons,forall_nil,and_true,sB,sO,Nat.reduceBEq,Nat.reduceAdd,Nat.reduceLeDiff,tyF, *] at hcE)
 (try simp only [forall_cons,forall_nil,and_true,sB,sO,Nat.reduceBEq,Nat.reduceAdd,Nat.reduceLeDiff,tyF, *] at hrH)
 (try simp only [Hp.next_alloc,Hp.next_set,H0_next,Nat.zero_add,Nat.reduceAdd] at hnH)
 have hB0:(0 == H2.next)=false:=ne_beq (by omega)
 have hC0:(H2.next == 0)=false:=ne_beq (by omega)
 change H2.get 0=some (.cells (resL.map .str) 0 true) at hrH
 have hr9:resL.length=9:=rfl
 repeat' (first
    | (apply Rx.nl ?_;clear hK K)|apply Rx.o ?_|(apply Rx.cd (fun hb hbp=>?_) (fun hb hbp=>?_) <;> try (cases hb;done))|apply Wp.seq ?_|(apply Wp.ops' fun K hK=>?_)|apply Wp.block ?_|apply Rx.sk ?_|apply Rx.rt ?_|apply Rx.xt ?_)
 · have hlt : i < resL.length := by omega
   have hgx:resL[i]?=some resL[i]:=List.getElem?_eq_getElem hlt
   have hdr:hasS (resL.drop i) s=(decide (resL[i]=s) || hasS (resL.drop (i + 1)) s):=by rw [List.drop_eq_getElem_cons hlt];rfl
   have hi9:decide (i < 9)=true:=by simp;omega
   repeat' (first
      | (apply Rx.nl ?_;clear hK K)|apply Ry.o ?_|(apply Ry.cd (fun hb hbp=>?_) (fun hb hbp=>?_) <;> try (cases hb;done))|apply Wp.seq ?_|(apply Wp.ops' fun K hK=>?_)|apply Wp.block ?_|apply Rx.sk ?_|apply Rx.rt ?_|apply Rx.xt ?_)
   · all_goals (refine ⟨eI, _, eR, ?_⟩; try simp only [oneOr])
     rw [← resL_has,hJ,hdr];simp_all
   · refine ⟨by omega, (by simp only [forall_cons, forall_nil, and_true, sB, sO, Nat.reduceBEq, Nat.reduceAdd, Nat.reduceLeDiff, tyF, resL, *]), (by simp only [forall_cons, forall_nil, and_true, sB, sO, Nat.reduceBEq, Nat.reduceAdd, Nat.reduceLeDiff, tyF, resL, *]), eN, (by simp only [sB, Nat.reduceBEq, *]; exact i64_succ (n := 9) (by omega) (by omega)), ?_⟩
     rw [hJ,hdr];simp_all
 · all_goals (refine ⟨eI, _, eR, ?_⟩; try simp only [oneOr])
   rw [← resL_has,hJ,show i=9 by omega];rfl)
def bsE (s:List UInt8):List AV:=[.str s]
theorem bsE_inj (x y:List UInt8) (h:bsE x=bsE y):x=y:=by simpa [bsE] using h
noncomputable def enIsName:En:=⟨118,false,spP (fun s=>s.length < 2 ^ 60) bsE fun s=>.bool (nmB s)⟩
noncomputable def enRes:En:=⟨119,false,spP (fun _=>True) bsE fun s=>.bool (resB s)⟩
theorem enIsName_ok (ρ:Nat → Int):EnOk Try.prog ρ enIsName:=spP_ok fun s hs=>isName_con ρ s hs
theorem enRes_ok (ρ:Nat → Int):EnOk Try.prog ρ enRes:=spP_ok fun s _=>reserved_con ρ s
theorem rvalid_con (ρ:Nat → Int) (s:List UInt8) (hs:s.length < 2 ^ 60):Con Try.prog ρ 84 [.str s] (.bool (nameB s)):=Con.lev fit (pls:=pls) (l:=[enIsName,enRes]) ⟨enIsName_ok ρ,enRes_ok ρ,trivial⟩ (.cons (.str _) .nil) (.bool _) (by
 have hw:Plain (cfgN pls [enIsName,enRes]) 84:=plainN (fun _=>rfl) rfl
 have kl:∀ (H:Hp),WpCall Try.prog (cfgN pls [enIsName,enRes]) 118 [.str s] H fun v H'=>v=.bool (nmB s) ∧ H'=H:=fun H=>WpCall.en (enc:=bsE) (out:=fun n=>.bool (nmB n)) bsE_inj (x:=s) rfl hs
 have kd:∀ (H:Hp),WpCall Try.prog (cfgN pls [enIsName,enRes]) 119 [.str s] H fun v H'=>v=.bool (resB s) ∧ H'=H:=fun H=>WpCall.en (enc:=bsE) (out:=fun n=>.bool (resB n)) bsE_inj (x:=s) rfl trivial
 refine WpCall.slim (M:=10) (rs:=[.tmp 2]) (hw.call _) hw.ice hw.froz Try.func84 rfl rfl code84.2 rfl ?_;dsimp only [code84,envOf,Nat.reduceAdd]
 repeat' (first
    | (apply Rx.nl ?_;clear hK K)|apply Rx.o ?_|(apply Rx.call ?_;first|refine Rx.k (kl _) ?_|refine Rx.k (kd _) ?_)|(apply Rx.gd (fun hg hgp=>?_) (fun hg hgp=>?_) <;> try (cases hg;done))|apply Wp.seq ?_|(apply Wp.ops' fun K hK=>?_)|apply Rx.rt ?_)
 all_goals (refine ⟨eI,_,eR,?_⟩;try simp only [oneOr])
 all_goals (simp_all [nameB]))
end Go.Proofs.Ytackdnelcpbfjaa
namespace Go.Proofs.Ytackdnelcpbfjaa
set_option maxRecDepth 20000
set_option maxRecDepth 20000
open Go Go.Ab
namespace tyR3b
def tyF:=And.intro @tq3 (And.intro @tq9 (And.intro @tq36 (And.intro @tq37 (And.intro @tq39 (And.intro @tq46 (@tq2))))))
end tyR3b
open tyR3b
noncomputable def code83:{ c:SC // slim 22 (Try.f83.body.getD .skip)=c }:=by
 refine ⟨?_,?_⟩
 rotate_left
 · simp only [Try.f83, Option.getD_some, slim, slimR, slimL, slimD, slimG, Nat.blt, Nat.ble]
   rfl
noncomputable def code81:{ c:SC // slim 78 (Try.f81.body.getD .skip)=c }:=by
 refine ⟨?_,?_⟩
 rotate_left
 · simp only [Try.f81, Option.getD_some, slim, slimR, slimL, slimD, slimG, Nat.blt, Nat.ble]
   rfl
mutual
def depE:Ex → Nat
 | .mk _ _ _ _ ks=>depEs ks
def depEs:List Ex → Nat
 | []=>0
 | e :: es=>max (1 + depE e) (depEs es)
end
theorem depE_eq (x:Ex):depE x=depEs x.kids:=by cases x;rw [depE];rfl
mutual
theorem depE_le:∀ x:Ex,depE x ≤ x.sz
 | .mk _ _ _ _ ks=>by have:=depEs_le ks;simp only [depE,Ex.sz];omega
theorem depEs_le:∀ l:List Ex,depEs l ≤ exprsSz l
 | []=>Nat.le_refl _
 | e :: es=>by have:=depE_le e;have:=depEs_le es;simp only [depEs,exprsSz];omega
end
def exE (x:Ex):List AV:=[.agg x.cells]
theorem exE_inj (x y:Ex) (h:exE x=exE y):x=y:=by simp only [exE,List.cons.injEq,AV.agg.injEq,and_true] at h;exact Ex.inj h
def stsE (l:List St):List AV:=[.lst (l.map St.cells)]
theorem stsE_inj (x y:List St) (h:stsE x=stsE y):x=y:=by simp only [stsE,List.cons.injEq,AV.lst.injEq,and_true] at h;exact sts_inj h
theorem depth_con (ρ:Nat → Int):∀ x:Ex,x.sz < 2 ^ 60 → Con Try.prog ρ 83 [.agg x.cells] (.int .i64 (depE x)):=
 Con.recN fit (pls:=pls) (l:=[]) trivial (fun x=>x.sz) (ok:=fun x=>x.sz < 2 ^ 60) (enc:=exE) (out:=fun x=>.int .i64 (depE x)) (fun x _=>.cons (.agg x.pure) .nil) (fun x _=>.int _ _) (fun x hx=>by
 have hw:=plainR (sz:=fun x:Ex=>x.sz) (ok:=fun x=>x.sz < 2 ^ 60) (out:=fun x=>.int .i64 (depE x)) exE_inj (f:=83) (l:=[]) x
 generalize hl:(⟨83,false,spP (fun y=>y.sz < 2 ^ 60 ∧ y.sz < x.sz) exE fun x=>.int .i64 (depE x)⟩:En) :: []=l at hw ⊢
 have kr:∀ y:Ex,y.sz < 2 ^ 60 → y.sz < x.sz → ∀ H,WpCall Try.prog (cfgN pls l) 83 [.agg y.cells] H fun v H'=>v=.int .i64 (depE y) ∧ H'=H:=fun y h1 h2 H=>by
   subst hl;exact WpCall.en (enc:=exE) (out:=fun x=>.int .i64 (depE x)) exE_inj (x:=y) rfl ⟨h1,h2⟩
 have hsz:=x.sz_eq
 have hlen:=exprsSz_len x.kids
 have hlk:x.kids.length < 2 ^ 60:=by omega
 have hdl:=depE_le x
 change WpCall _ _ _ [.agg x.cells] _ _
 refine WpCall.slim (M:=22) (rs:=[.tmp 2]) hw.call hw.ice hw.froz Try.func83 rfl rfl code83.2 rfl ?_;dsimp only [code83,envOf,Nat.reduceAdd]
 repeat' (first
    | (apply Rx.nl ?_;clear hK K)|apply Rx.o ?_|(apply Rx.cd (fun hb hbp=>?_) (fun hb hbp=>?_) <;> try (cases hb;done))|apply Wp.seq ?_|(apply Wp.ops' fun K hK=>?_)|apply Wp.block ?_|apply Rx.sk ?_|apply Rx.rt ?_|apply Rx.xt ?_)
 refine Wp.forI [1] [0] 4 x.kids.length (fun i E H=>∃ m:Nat,E.at 3=.int .i64 m ∧ max m (depEs (x.kids.drop i))=depE x) eE ⟨0,eE,by simp [depE_eq]⟩ ?_
 rintro i E H2 hi hcE hrH hnH hsI ⟨m,k3,hJ⟩
 (try simp only [forall_cons,forall_nil,and_true,sB,sO,Nat.reduceBEq,Nat.reduceAdd,Nat.reduceLeDiff,tyF, *] at hcE)
 (try simp only [forall_cons,forall_nil,and_true,sB,sO,Nat.reduceBEq,Nat.reduceAdd,Nat.reduceLeDiff,tyF, *] at hrH)
 (try simp only [Hp.next_alloc,Hp.next_set,H0_next,Nat.zero_add,Nat.reduceAdd] at hnH)
 have hB0:(0 == H2.next)=false:=ne_beq (by omega)
 have hC0:(H2.next == 0)=false:=ne_beq (by omega)
 repeat' (first
    | (apply Rx.nl ?_;clear hK K)|apply Rx.o ?_|(apply Rx.cd (fun hb hbp=>?_) (fun hb hbp=>?_) <;> try (cases hb;done))|apply Wp.seq ?_|(apply Wp.ops' fun K hK=>?_)|apply Wp.block ?_|apply Rx.sk ?_|apply Rx.rt ?_|apply Rx.xt ?_)
 · have hlt : i < x.kids.length := by simpa using hb
   have hgx:x.kids[i]?=some x.kids[i]:=List.getElem?_eq_getElem hlt
   have hm:=exprsSz_mem (List.getElem_mem hlt)
   have hdr:depEs (x.kids.drop i)=max (1 + depE x.kids[i]) (depEs (x.kids.drop (i + 1))):=by rw [List.drop_eq_getElem_cons hlt];rfl
   have hwr:IntKind.wrap .i64 (1 + (depE x.kids[i]:Int))=((1 + depE x.kids[i]:Nat):Int):=by rw [IntWalk.i64_in _ (by omega)];omega
   repeat' (first
      | (apply Rx.nl ?_;clear hK K)|apply Rx.o ?_|(apply Rx.call ?_;first|refine Rx.k (kr _ (by omega) (by omega) _) ?_)|(apply Rx.cd (fun hb hbp=>?_) (fun hb hbp=>?_) <;> try (cases hb;done))|apply Wp.seq ?_|(apply Wp.ops' fun K hK=>?_)|apply Wp.block ?_|apply Rx.sk ?_|apply Rx.rt ?_|apply Rx.xt ?_)
   refine ⟨by omega,eL,eL,eN,(by simp only [sB,Nat.reduceBEq, *];exact i64_succ (n:=x.kids.length) (by omega) (by omega)),?_⟩
   exact ⟨max m (1 + depE x.kids[i]),by simp only [sB,Nat.reduceBEq];congr 1;omega,by rw [← hJ,hdr];omega⟩
 · all_goals (refine ⟨eI, _, eR, ?_⟩; try simp only [oneOr])
   rw [show i=x.kids.length by simp at hb;omega,List.drop_length] at hJ
   simp [depEs] at hJ
   rw [hJ])
mutual
def n1:St → Nat
 | .mk _ _ _ _ _ _ _ th el=>1 + nS th + nS el
def nS:List St → Nat
 | []=>0
 | x :: l=>n1 x + nS l
end
mutual
def w1:St → Nat
 | .mk k _ _ _ _ _ _ th el=>(if k=4 then 1 else 0) + wS th + wS el
def wS:List St → Nat
 | []=>0
 | x :: l=>w1 x + wS l
end
mutual
def m1:St → Nat → Nat
 | .mk _ _ _ _ _ _ _ th el,d=>max d (max (mS th (d + 1)) (mS el (d + 1)))
def mS:List St → Nat → Nat
 | [],_=>0
 | x :: l,d=>max (m1 x d) (mS l d)
end
theorem n1_eq (x:St):n1 x=1 + nS x.thn + nS x.els:=by cases x;rw [n1];rfl
theorem w1_eq (x:St):w1 x=(if x.kind=4 then 1 else 0) + wS x.thn + wS x.els:=by cases x;rw [w1];rfl
theorem m1_eq (x:St) (d:Nat):m1 x d=max d (max (mS x.thn (d + 1)) (mS x.els (d + 1))):=by cases x;rw [m1];rfl
mutual
theorem n1_le:∀ x:St,n1 x ≤ x.sz
 | .mk _ _ _ _ _ _ _ th el=>by have:=nS_le th;have:=nS_le el;simp only [n1,St.sz];omega
theorem nS_le:∀ l:List St,nS l ≤ stmtsSz l
 | []=>Nat.le_refl _
 | x :: l=>by have:=n1_le x;have:=nS_le l;simp only [nS,stmtsSz];omega
end
mutual
theorem w1_le:∀ x:St,w1 x ≤ x.sz
 | .mk k _ _ _ _ _ _ th el=>by have:=wS_le th;have:=wS_le el;simp only [w1,St.sz];split <;> omega
theorem wS_le:∀ l:List St,wS l ≤ stmtsSz l
 | []=>Nat.le_refl _
 | x :: l=>by have:=w1_le x;have:=wS_le l;simp only [wS,stmtsSz];omega
end
mutual
theorem m1_le:∀ (x:St) (d:Nat),m1 x d ≤ d + x.sz
 | .mk _ _ _ _ _ _ _ th el,d=>by have:=mS_le th (d + 1);have:=mS_le el (d + 1);simp only [m1,St.sz];omega
theorem mS_le:∀ (l:List St) (d:Nat),mS l d ≤ d + stmtsSz l
 | [],_=>Nat.zero_le _
 | x :: l,d=>by have:=m1_le x d;have:=mS_le l d;simp only [mS,stmtsSz];omega
end
theorem i64_id {z:Int} (h1:-9223372036854775808 ≤ z) (h2:z < 9223372036854775808):IntKind.wrap .i64 z=z:=IntWalk.i64_in _ (by omega)
def sdE (x:List St × Nat):List AV:=[.lst (x.1.map St.cells),.int .i64 x.2]
theorem sdE_inj (x y:List St × Nat) (h:sdE x=sdE y):x=y:=by
 simp only [sdE,List.cons.injEq,AV.lst.injEq,AV.int.injEq,and_true,true_and] at h
 exact Prod.ext (sts_inj h.1) (by omega)
def cntV (x:List St × Nat):AV:=.tup [.int .i64 (nS x.1),.int .i64 (wS x.1),.int .i64 (mS x.1 x.2)]
theorem tup3_0 (a b c:AV):Ab.extract (.tup [a,b,c]) 0=some a:=rfl
theorem tup3_1 (a b c:AV):Ab.extract (.tup [a,b,c]) 1=some b:=rfl
theorem tup3_2 (a b c:AV):Ab.extract (.tup [a,b,c]) 2=some c:=rfl
theorem count_con (ρ : Nat → Int) : ∀ x : List St × Nat, stmtsSz x.1 + x.2 < 2 ^ 60 → Con Try.prog ρ 81 (sdE x) (cntV x) :=
  Con.recN fit (pls:=pls) (l:=[]) trivial (fun x=>stmtsSz x.1) (ok:=fun x=>stmtsSz x.1 + x.2 < 2 ^ 60) (enc:=sdE) (out:=cntV) (fun x _=>.cons (sts_pure _) (.cons (.int _ _) .nil)) (fun x _=>.tup (.cons (.int _ _) (.cons (.int _ _) (.cons (.int _ _) .nil)))) (fun x hx=>by
  have hw:=plainR (sz:=fun x:List St × Nat=>stmtsSz x.1) (ok:=fun x=>stmtsSz x.1 + x.2 < 2 ^ 60) (out:=cntV) sdE_inj (f:=81) (l:=[]) x
  generalize hl:(⟨81,false,spP (fun y=>stmtsSz y.1 + y.2 < 2 ^ 60 ∧ stmtsSz y.1 < stmtsSz x.1) sdE cntV⟩:En) :: []=l at hw ⊢
  obtain ⟨x,d⟩:=x
  have kr:∀ (y:List St),stmtsSz y < stmtsSz x → ∀ H,WpCall Try.prog (cfgN pls l) 81 [.lst (y.map St.cells),.int .i64 ((d + 1:Nat):Int)] H fun v H'=>v=.tup [.int .i64 (nS y),.int .i64 (wS y),.int .i64 (mS y (d + 1))] ∧ H'=H:=fun y h2 H=>by
    subst hl;exact WpCall.en (enc:=sdE) (out:=cntV) sdE_inj (x:=(y,d + 1)) rfl ⟨by simp only [] at hx ⊢;omega,h2⟩
  simp only [] at hx
  have hlen:=stmtsSz_len x
  have hn:=nS_le x
  have hwl:=wS_le x
  have hm:=mS_le x d
  have hwd:IntKind.wrap .i64 ((d:Int) + 1)=((d + 1:Nat):Int):=by rw [IntWalk.i64_in _ (by omega)];omega
  change WpCall _ _ _ [.lst (x.map St.cells),.int .i64 d] _ _
  refine WpCall.slim (M:=78) (rs:=[.tmp 4,.tmp 5,.tmp 6]) hw.call hw.ice hw.froz Try.func81 rfl rfl code81.2 rfl ?_;dsimp only [code81,envOf,Nat.reduceAdd]
  repeat' (first
     | (apply Rx.nl ?_;clear hK K)|apply Rx.o ?_|(apply Rx.cd (fun hb hbp=>?_) (fun hb hbp=>?_) <;> try (cases hb;done))|apply Wp.seq ?_|(apply Wp.ops' fun K hK=>?_)|apply Wp.block ?_|apply Rx.sk ?_|apply Rx.rt ?_|apply Rx.xt ?_)
  refine Wp.forI [0,1] [] 10 x.length (fun i E H=>∃ a b m:Nat,E.at 7=.int .i64 a ∧ E.at 8=.int .i64 b ∧ E.at 9=.int .i64 m ∧ a + nS (x.drop i)=nS x ∧ b + wS (x.drop i)=wS x ∧ max m (mS (x.drop i) d)=mS x d) eE ⟨0,0,0,eE,eE,eE,by simp,by simp,by simp⟩ ?_
  rintro i E H2 hi hcE hrH hnH hsI ⟨a,b,m,k7,k8,k9,hJ1,hJ2,hJ3⟩
  (try simp only [forall_cons,forall_nil,and_true,sB,sO,Nat.reduceBEq,Nat.reduceAdd,Nat.reduceLeDiff,tyF, *] at hcE)
  (try simp only [forall_cons,forall_nil,and_true,sB,sO,Nat.reduceBEq,Nat.reduceAdd,Nat.reduceLeDiff,tyF, *] at hrH)
  (try simp only [Hp.next_alloc,Hp.next_set,H0_next,Nat.zero_add,Nat.reduceAdd] at hnH)
  repeat' (first
     | (apply Rx.nl ?_;clear hK K)|apply Rx.o ?_|(apply Rx.cd (fun hb hbp=>?_) (fun hb hbp=>?_) <;> try (cases hb;done))|apply Wp.seq ?_|(apply Wp.ops' fun K hK=>?_)|apply Wp.block ?_|apply Rx.sk ?_|apply Rx.rt ?_|apply Rx.xt ?_)
  · have hlt : i < x.length := by simpa using hb
    have hgx:x[i]?=some x[i]:=List.getElem?_eq_getElem hlt
    have hsm:=stmtsSz_mem (List.getElem_mem hlt)
    have hsz:=x[i].sz_eq
    have d1:nS (x.drop i)=n1 x[i] + nS (x.drop (i + 1)):=by rw [List.drop_eq_getElem_cons hlt];rfl
    have d2:wS (x.drop i)=w1 x[i] + wS (x.drop (i + 1)):=by rw [List.drop_eq_getElem_cons hlt];rfl
    have d3:mS (x.drop i) d=max (m1 x[i] d) (mS (x.drop (i + 1)) d):=by rw [List.drop_eq_getElem_cons hlt];rfl
    rw [n1_eq] at d1
    rw [w1_eq] at d2
    rw [m1_eq] at d3
    have gh0:=@tup3_0
    have gh1:=@tup3_1
    have gh2:=@tup3_2
    repeat' (first
       | (apply Rx.nl ?_;clear hK K)|apply Rx.o ?_|(apply Rx.call ?_;first|refine Rx.k (kr _ (by omega) _) ?_)|(apply Rx.cd (fun hb hbp=>?_) (fun hb hbp=>?_) <;> try (cases hb;done))|apply Wp.seq ?_|(apply Wp.ops' fun K hK=>?_)|apply Wp.block ?_|apply Rx.sk ?_|apply Rx.rt ?_|apply Rx.xt ?_)
    all_goals
      refine ⟨by omega,eL,eL,eN,(by simp only [sB,Nat.reduceBEq, *];exact i64_succ (n:=x.length) (by omega) (by omega)),?_⟩
      refine ⟨a + 1 + nS x[i].thn + nS x[i].els,b + (if x[i].kind=4 then 1 else 0) + wS x[i].thn + wS x[i].els,max (max m d) (max (mS x[i].thn (d + 1)) (mS x[i].els (d + 1))),?_,?_,?_,by omega,by omega,by omega⟩
      · simp only [sB, Nat.reduceBEq]
        congr 1
        simp (disch:=omega) only [i64_id]
        omega
      · simp only [sB, Nat.reduceBEq]
        congr 1
        simp (disch:=omega) only [i64_id, *]
        simp
        try omega
      · simp only [sB, Nat.reduceBEq]
        congr 1
        omega
  · all_goals (refine ⟨eI, _, eR, ?_⟩; try simp only [oneOr])
    rw [show i=x.length by simp at hb;omega,List.drop_length] at hJ1 hJ2 hJ3
    simp [nS,wS,mS] at hJ1 hJ2 hJ3
    simp only [cntV,hJ1,hJ2,hJ3])
end Go.Proofs.Ytackdnelcpbfjaa
namespace Go.Proofs.Ytackdnelcpbfjaa
set_option maxRecDepth 20000
set_option maxRecDepth 20000
open Go Go.Ab
namespace tyR3c
def tyF:=And.intro @tq2 (And.intro @tq3 (And.intro @tq9 (And.intro @tq22 (And.intro @tq23 (And.intro @tq25 (And.intro @tq35 (And.intro @tq36 (And.intro @tq37 (And.intro @tq39 (And.intro @tq41 (And.intro @tq44 (And.intro @tq46 (And.intro @tup3_0 (And.intro @tup3_1 (@tup3_2)))))))))))))))
end tyR3c
open tyR3c
noncomputable def code82:{ c:SC // slim 50 (Try.f82.body.getD .skip)=c }:=by
 refine ⟨?_,?_⟩
 rotate_left
 · simp only [Try.f82, Option.getD_some, slim, slimR, slimL, slimD, slimG, Nat.blt, Nat.ble]
   rfl
noncomputable def code40:{ c:SC // slim 94 (Try.f40.body.getD .skip)=c }:=by
 refine ⟨?_,?_⟩
 rotate_left
 · simp only [Try.f40, Option.getD_some, slim, slimR, slimL, slimD, slimG, Nat.blt, Nat.ble]
   rfl
mutual
def deep1:St → Bool
 | .mk _ _ _ _ a v args th el=>decide ((20:Int) < depE a) || decide ((20:Int) < depE v) || deepS th || deepS el || args.any fun e=>decide ((20:Int) < depE e)
def deepS:List St → Bool
 | []=>false
 | x :: l=>deep1 x || deepS l
end
theorem deep1_eq (x:St):deep1 x=(decide ((20:Int) < depE x.at_) || decide ((20:Int) < depE x.value) || deepS x.thn || deepS x.els || x.args.any fun e=>decide ((20:Int) < depE e)):=by cases x;rw [deep1];rfl
noncomputable def enDepth:En:=⟨83,false,spP (fun x=>x.sz < 2 ^ 60) exE fun x=>.int .i64 (depE x)⟩
theorem enDepth_ok (ρ:Nat → Int):EnOk Try.prog ρ enDepth:=spP_ok fun x hx=>depth_con ρ x hx
theorem tooDeep_con (ρ : Nat → Int) : ∀ x : List St, stmtsSz x < 2 ^ 60 → Con Try.prog ρ 82 (stsE x) (.bool (deepS x)) :=
  Con.recN fit (pls:=pls) (l:=[enDepth]) ⟨enDepth_ok ρ,trivial⟩ (fun x=>stmtsSz x) (ok:=fun x=>stmtsSz x < 2 ^ 60) (enc:=stsE) (out:=fun x=>.bool (deepS x)) (fun x _=>.cons (sts_pure _) .nil) (fun x _=>.bool _) (fun x hx=>by
  have hw:=plainR (sz:=fun x:List St=>stmtsSz x) (ok:=fun x=>stmtsSz x < 2 ^ 60) (out:=fun x=>.bool (deepS x)) stsE_inj (f:=82) (l:=[enDepth]) x
  generalize hl:(⟨82,false,spP (fun y=>stmtsSz y < 2 ^ 60 ∧ stmtsSz y < stmtsSz x) stsE fun x=>.bool (deepS x)⟩:En) :: [enDepth]=l at hw ⊢
  have kr:∀ (y:List St),stmtsSz y < stmtsSz x → ∀ H,WpCall Try.prog (cfgN pls l) 82 [.lst (y.map St.cells)] H fun v H'=>v=.bool (deepS y) ∧ H'=H:=fun y h2 H=>by
    subst hl;exact WpCall.en (enc:=stsE) (out:=fun x=>.bool (deepS x)) stsE_inj (x:=y) rfl ⟨by omega,h2⟩
  have kd:∀ y:Ex,y.sz < 2 ^ 60 → ∀ H,WpCall Try.prog (cfgN pls l) 83 [.agg y.cells] H fun v H'=>v=.int .i64 (depE y) ∧ H'=H:=fun y h1 H=>by
    subst hl;exact WpCall.en (enc:=exE) (out:=fun x=>.int .i64 (depE x)) exE_inj (x:=y) rfl h1
  have hlen:=stmtsSz_len x
  change WpCall _ _ _ [.lst (x.map St.cells)] _ _
  refine WpCall.slim (M:=50) (rs:=[.tmp 2]) hw.call hw.ice hw.froz Try.func82 rfl rfl code82.2 rfl ?_;dsimp only [code82,envOf,Nat.reduceAdd]
  repeat' (first
     | (apply Rx.nl ?_;clear hK K)|apply Rx.o ?_|apply Rx.on ?_|(apply Rx.gd (fun hg hgp=>?_) (fun hg hgp=>?_) <;> try (cases hg;done))|(apply Rx.cd (fun hb hbp=>?_) (fun hb hbp=>?_) <;> try (cases hb;done))|apply Wp.seq ?_|(apply Wp.ops' fun K hK=>?_)|apply Wp.block ?_|apply Rx.sk ?_|apply Rx.rt ?_|apply Rx.xt ?_)
  refine Wp.forI [0] [] 3 x.length (fun i E H=>deepS x=deepS (x.drop i)) eE (by simp) ?_
  rintro i E H2 hi hcE hrH hnH hsI hJ
  (try simp only [forall_cons,forall_nil,and_true,sB,sO,Nat.reduceBEq,Nat.reduceAdd,Nat.reduceLeDiff,tyF, *] at hcE)
  (try simp only [forall_cons,forall_nil,and_true,sB,sO,Nat.reduceBEq,Nat.reduceAdd,Nat.reduceLeDiff,tyF, *] at hrH)
  (try simp only [Hp.next_alloc,Hp.next_set,H0_next,Nat.zero_add,Nat.reduceAdd] at hnH)
  repeat' (first
     | (apply Rx.nl ?_;clear hK K)|apply Rx.o ?_|apply Rx.on ?_|(apply Rx.gd (fun hg hgp=>?_) (fun hg hgp=>?_) <;> try (cases hg;done))|(apply Rx.cd (fun hb hbp=>?_) (fun hb hbp=>?_) <;> try (cases hb;done))|apply Wp.seq ?_|(apply Wp.ops' fun K hK=>?_)|apply Wp.block ?_|apply Rx.sk ?_|apply Rx.rt ?_|apply Rx.xt ?_)
  · have hlt : i < x.length := by simpa using hb
    have hgx:x[i]?=some x[i]:=List.getElem?_eq_getElem hlt
    have hsm:=stmtsSz_mem (List.getElem_mem hlt)
    have hsz:=x[i].sz_eq
    have hla:=exprsSz_len x[i].args
    have hdr:deepS (x.drop i)=(deep1 x[i] || deepS (x.drop (i + 1))):=by rw [List.drop_eq_getElem_cons hlt];rfl
    rw [deep1_eq] at hdr
    repeat' (first
       | (apply Rx.nl ?_;clear hK K)|apply Rx.o ?_|apply Rx.on ?_|(apply Rx.call ?_;first|refine Rx.k (kd _ (by omega) _) ?_|refine Rx.k (kr _ (by omega) _) ?_)|(apply Rx.gd (fun hg hgp=>?_) (fun hg hgp=>?_) <;> try (cases hg;done))|(apply Rx.cd (fun hb hbp=>?_) (fun hb hbp=>?_) <;> try (cases hb;done))|apply Wp.seq ?_|(apply Wp.ops' fun K hK=>?_)|apply Wp.block ?_|apply Rx.sk ?_|apply Rx.rt ?_|apply Rx.xt ?_)
    rotate_left
    · refine Wp.forI [0, 3, 4] [H2.next] 5 x[i].args.length (fun j E H => (x[i].args.any fun e => decide ((20 : Int) < depE e)) = (x[i].args.drop j).any fun e => decide ((20 : Int) < depE e)) eE (by simp) ?_
      rintro j E3 H3 hj hcE hrH hnH hsI hJ2
      (try simp only [forall_cons,forall_nil,and_true,sB,sO,Nat.reduceBEq,Nat.reduceAdd,Nat.reduceLeDiff,tyF, *] at hcE)
      (try simp only [forall_cons,forall_nil,and_true,sB,sO,Nat.reduceBEq,Nat.reduceAdd,Nat.reduceLeDiff,tyF, *] at hrH)
      (try simp only [Hp.next_alloc,Hp.next_set,H0_next,Nat.zero_add,Nat.reduceAdd] at hnH)
      have hB0:(H2.next == H3.next)=false:=ne_beq (by omega)
      have hC0:(H3.next == H2.next)=false:=ne_beq (by omega)
      repeat' (first
         | (apply Rx.nl ?_;clear hK K)|apply Rx.o ?_|apply Rx.on ?_|(apply Rx.gd (fun hg hgp=>?_) (fun hg hgp=>?_) <;> try (cases hg;done))|(apply Rx.cd (fun hb hbp=>?_) (fun hb hbp=>?_) <;> try (cases hb;done))|apply Wp.seq ?_|(apply Wp.ops' fun K hK=>?_)|apply Wp.block ?_|apply Rx.sk ?_|apply Rx.rt ?_|apply Rx.xt ?_)
      · have hlt2 : j < x[i].args.length := by simpa using hb
        have hgx2:x[i].args[j]?=some x[i].args[j]:=List.getElem?_eq_getElem hlt2
        have hsm2:=exprsSz_mem (List.getElem_mem hlt2)
        have hdr2:((x[i].args.drop j).any fun e=>decide ((20:Int) < depE e))=(decide ((20:Int) < depE x[i].args[j]) || (x[i].args.drop (j + 1)).any fun e=>decide ((20:Int) < depE e)):=by rw [List.drop_eq_getElem_cons hlt2];rfl
        repeat' (first
           | (apply Rx.nl ?_;clear hK K)|apply Rx.o ?_|apply Rx.on ?_|(apply Rx.call ?_;first|refine Rx.k (kd _ (by omega) _) ?_)|(apply Rx.gd (fun hg hgp=>?_) (fun hg hgp=>?_) <;> try (cases hg;done))|(apply Rx.cd (fun hb hbp=>?_) (fun hb hbp=>?_) <;> try (cases hb;done))|apply Wp.seq ?_|(apply Wp.ops' fun K hK=>?_)|apply Wp.block ?_|apply Rx.sk ?_|apply Rx.rt ?_|apply Rx.xt ?_)
        · all_goals (refine ⟨eI, _, eR, ?_⟩; try simp only [oneOr])
          rw [hJ,hdr,hJ2,hdr2];(try simp only [Bool.not_eq_true',Bool.not_eq_false'] at *);simp only [*,decide_true,decide_false,Bool.false_or,Bool.or_false,Bool.true_or,Bool.or_true,Bool.false_and,Bool.and_false,Bool.true_and,Bool.and_true,Bool.not_true,Bool.not_false,if_true,if_false,Int.reduceEq]
        · refine ⟨by omega, eL, eL, eN, (by simp only [sB, Nat.reduceBEq, *]; exact i64_succ (n := x[i].args.length) (by omega) (by omega)), ?_⟩
          rw [hJ2,hdr2];(try simp only [Bool.not_eq_true',Bool.not_eq_false'] at *);simp only [*,decide_true,decide_false,Bool.false_or,Bool.or_false,Bool.true_or,Bool.or_true,Bool.false_and,Bool.and_false,Bool.true_and,Bool.and_true,Bool.not_true,Bool.not_false,if_true,if_false,Int.reduceEq]
      · refine ⟨by omega, eL, eL, eN, (by simp only [sB, Nat.reduceBEq, *]; exact i64_succ (n := x.length) (by omega) (by omega)), ?_⟩
        have hje:j=x[i].args.length:=by simp at hb;omega
        rw [hje,List.drop_length,List.any_nil] at hJ2
        rw [hJ,hdr,hJ2];(try simp only [Bool.not_eq_true',Bool.not_eq_false'] at *);simp only [*,decide_true,decide_false,Bool.false_or,Bool.or_false,Bool.true_or,Bool.or_true,Bool.false_and,Bool.and_false,Bool.true_and,Bool.and_true,Bool.not_true,Bool.not_false,if_true,if_false,Int.reduceEq]
    all_goals
      all_goals (refine ⟨eI,_,eR,?_⟩;try simp only [oneOr])
      rw [hJ,hdr];(try simp only [Bool.not_eq_true',Bool.not_eq_false'] at *);simp only [*,decide_true,decide_false,Bool.false_or,Bool.or_false,Bool.true_or,Bool.or_true,Bool.false_and,Bool.and_false,Bool.true_and,Bool.and_true,Bool.not_true,Bool.not_false,if_true,if_false,Int.reduceEq]
  · all_goals (refine ⟨eI, _, eR, ?_⟩; try simp only [oneOr])
    rw [hJ,show i=x.length by simp at hb;omega];simp [deepS])
def prE (p:Pr):List AV:=[.agg p.cells]
theorem prE_inj (x y:Pr) (h:prE x=prE y):x=y:=by simp only [prE,List.cons.injEq,AV.agg.injEq,and_true] at h;exact Pr.inj h
noncomputable def enCount:En:=⟨81,false,spP (fun x=>stmtsSz x.1 + x.2 < 2 ^ 60) sdE cntV⟩
theorem enCount_ok (ρ:Nat → Int):EnOk Try.prog ρ enCount:=spP_ok fun x hx=>count_con ρ x hx
noncomputable def enDeep:En:=⟨82,false,spP (fun x=>stmtsSz x < 2 ^ 60) stsE fun x=>.bool (deepS x)⟩
theorem enDeep_ok (ρ:Nat → Int):EnOk Try.prog ρ enDeep:=spP_ok fun x hx=>tooDeep_con ρ x hx
def exFn (f:Fu):Bool:=decide ((6:Int) < f.params.length) || decide ((8:Int) < f.locals.length) || decide ((200:Int) < nS f.body) || decide ((16:Int) < wS f.body) || decide ((20:Int) < mS f.body 0) || deepS f.body || decide ((20:Int) < depE f.value)
def exAr (a:Ar):Bool:=decide (a.len < 1) || decide (16 < a.len)
def exB (p:Pr):Bool:=decide ((4:Int) < p.arrays.length) || decide ((8:Int) < p.funcs.length) || p.arrays.any exAr || p.funcs.any exFn
noncomputable def levC:List En:=[enDepth,enCount,enDeep]
theorem levC_ok (ρ:Nat → Int):EnsOk Try.prog ρ levC:=⟨enDepth_ok ρ,enCount_ok ρ,enDeep_ok ρ,trivial⟩
theorem exceeds_con (ρ : Nat → Int) (p : Pr) (hz : p.sz < 2 ^ 60) : Con Try.prog ρ 40 [.agg p.cells] (.bool (exB p)) := Con.lev fit (pls := pls) (levC_ok ρ) (.cons (.agg p.pure) .nil) (.bool _) (by
  have hw:Plain (cfgN pls levC) 40:=plainN (fun _=>rfl) rfl
  have kd:∀ y:Ex,y.sz < 2 ^ 60 → ∀ H,WpCall Try.prog (cfgN pls levC) 83 [.agg y.cells] H fun v H'=>v=.int .i64 (depE y) ∧ H'=H:=fun y h1 H=>WpCall.en (enc:=exE) (out:=fun x=>.int .i64 (depE x)) exE_inj (x:=y) rfl h1
  have kt:∀ y:List St,stmtsSz y < 2 ^ 60 → ∀ H,WpCall Try.prog (cfgN pls levC) 82 [.lst (y.map St.cells)] H fun v H'=>v=.bool (deepS y) ∧ H'=H:=fun y h1 H=>WpCall.en (enc:=stsE) (out:=fun x=>.bool (deepS x)) stsE_inj (x:=y) rfl h1
  have kc:∀ y:List St,stmtsSz y < 2 ^ 60 → ∀ H,WpCall Try.prog (cfgN pls levC) 81 [.lst (y.map St.cells),.int .i64 0] H fun v H'=>v=.tup [.int .i64 (nS y),.int .i64 (wS y),.int .i64 (mS y 0)] ∧ H'=H:=fun y h1 H=>WpCall.en (enc:=sdE) (out:=cntV) sdE_inj (x:=(y,0)) rfl (by simpa using h1)
  have hpz:p.sz=1 + arrsSz p.arrays + fnsSz p.funcs:=rfl
  have hla:=arrsSz_len p.arrays
  have hlf:=fnsSz_len p.funcs
  refine WpCall.slim (M:=94) (rs:=[.tmp 2]) (hw.call _) hw.ice hw.froz Try.func40 rfl rfl code40.2 rfl ?_;dsimp only [code40,envOf,Nat.reduceAdd]
  repeat' (first
     | (apply Rx.nl ?_;clear hK K)|apply Rx.o ?_|apply Rx.on ?_|(apply Rx.gd (fun hg hgp=>?_) (fun hg hgp=>?_) <;> try (cases hg;done))|(apply Rx.cd (fun hb hbp=>?_) (fun hb hbp=>?_) <;> try (cases hb;done))|apply Wp.seq ?_|(apply Wp.ops' fun K hK=>?_)|apply Wp.block ?_|apply Rx.sk ?_|apply Rx.rt ?_|apply Rx.xt ?_)
  all_goals (first|(refine ⟨eI,_,eR,?_⟩;(try simp only [oneOr]);rw [exB];(try simp only [Bool.not_eq_true',Bool.not_eq_false'] at *);simp only [*,decide_true,decide_false,Bool.false_or,Bool.or_false,Bool.true_or,Bool.or_true,Bool.false_and,Bool.and_false,Bool.true_and,Bool.and_true,Bool.not_true,Bool.not_false,if_true,if_false,Int.reduceEq];done)|skip)
  · refine Wp.forI [1] [0] 3 p.arrays.length (fun i E H => p.arrays.any exAr = (p.arrays.drop i).any exAr) eE (by simp) ?_
    rintro i E H2 hi hcE hrH hnH hsI hJ
    (try simp only [forall_cons,forall_nil,and_true,sB,sO,Nat.reduceBEq,Nat.reduceAdd,Nat.reduceLeDiff,tyF, *] at hcE)
    (try simp only [forall_cons,forall_nil,and_true,sB,sO,Nat.reduceBEq,Nat.reduceAdd,Nat.reduceLeDiff,tyF, *] at hrH)
    (try simp only [Hp.next_alloc,Hp.next_set,H0_next,Nat.zero_add,Nat.reduceAdd] at hnH)
    have hB0:(0 == H2.next)=false:=ne_beq (by omega)
    have hC0:(H2.next == 0)=false:=ne_beq (by omega)
    repeat' (first
       | (apply Rx.nl ?_;clear hK K)|apply Rx.o ?_|apply Rx.on ?_|(apply Rx.gd (fun hg hgp=>?_) (fun hg hgp=>?_) <;> try (cases hg;done))|(apply Rx.cd (fun hb hbp=>?_) (fun hb hbp=>?_) <;> try (cases hb;done))|apply Wp.seq ?_|(apply Wp.ops' fun K hK=>?_)|apply Wp.block ?_|apply Rx.sk ?_|apply Rx.rt ?_|apply Rx.xt ?_)
    · have hlt : i < p.arrays.length := by simpa using hb
      have hgx:p.arrays[i]?=some p.arrays[i]:=List.getElem?_eq_getElem hlt
      have hdr:(p.arrays.drop i).any exAr=(exAr p.arrays[i] || (p.arrays.drop (i + 1)).any exAr):=by rw [List.drop_eq_getElem_cons hlt,List.any_cons]
      rw [exAr] at hdr
      repeat' (first
         | (apply Rx.nl ?_;clear hK K)|apply Rx.o ?_|apply Rx.on ?_|(apply Rx.gd (fun hg hgp=>?_) (fun hg hgp=>?_) <;> try (cases hg;done))|(apply Rx.cd (fun hb hbp=>?_) (fun hb hbp=>?_) <;> try (cases hb;done))|apply Wp.seq ?_|(apply Wp.ops' fun K hK=>?_)|apply Wp.block ?_|apply Rx.sk ?_|apply Rx.rt ?_|apply Rx.xt ?_)
      all_goals (first|(refine ⟨eI,_,eR,?_⟩;(try simp only [oneOr]);rw [exB,hJ,hdr];(try simp only [Bool.not_eq_true',Bool.not_eq_false'] at *);simp only [*,decide_true,decide_false,Bool.false_or,Bool.or_false,Bool.true_or,Bool.or_true,Bool.false_and,Bool.and_false,Bool.true_and,Bool.and_true,Bool.not_true,Bool.not_false,if_true,if_false,Int.reduceEq];done)|skip)
      refine ⟨by omega,eL,eL,eN,(by simp only [sB,Nat.reduceBEq, *];exact i64_succ (n:=p.arrays.length) (by omega) (by omega)),?_⟩
      rw [hJ,hdr];(try simp only [Bool.not_eq_true',Bool.not_eq_false'] at *);simp only [*,decide_true,decide_false,Bool.false_or,Bool.or_false,Bool.true_or,Bool.or_true,Bool.false_and,Bool.and_false,Bool.true_and,Bool.and_true,Bool.not_true,Bool.not_false,if_true,if_false,Int.reduceEq]
    · have hie : i = p.arrays.length := by simp at hb; omega
      rw [hie,List.drop_length,List.any_nil] at hJ
      clear hb hie hsI hi
      refine Wp.forI [1] [0] 4 p.funcs.length (fun i E H=>p.funcs.any exFn=(p.funcs.drop i).any exFn) eE (by simp) ?_
      rintro i E H2 hi hcE hrH hnH hsI hJ2
      (try simp only [forall_cons,forall_nil,and_true,sB,sO,Nat.reduceBEq,Nat.reduceAdd,Nat.reduceLeDiff,tyF, *] at hcE)
      (try simp only [forall_cons,forall_nil,and_true,sB,sO,Nat.reduceBEq,Nat.reduceAdd,Nat.reduceLeDiff,tyF, *] at hrH)
      (try simp only [Hp.next_alloc,Hp.next_set,H0_next,Nat.zero_add,Nat.reduceAdd] at hnH)
      have hB0:(0 == H2.next)=false:=ne_beq (by omega)
      have hC0:(H2.next == 0)=false:=ne_beq (by omega)
      repeat' (first
         | (apply Rx.nl ?_;clear hK K)|apply Rx.o ?_|apply Rx.on ?_|(apply Rx.gd (fun hg hgp=>?_) (fun hg hgp=>?_) <;> try (cases hg;done))|(apply Rx.cd (fun hb hbp=>?_) (fun hb hbp=>?_) <;> try (cases hb;done))|apply Wp.seq ?_|(apply Wp.ops' fun K hK=>?_)|apply Wp.block ?_|apply Rx.sk ?_|apply Rx.rt ?_|apply Rx.xt ?_)
      · have hlt : i < p.funcs.length := by simpa using hb
        have hgx:p.funcs[i]?=some p.funcs[i]:=List.getElem?_eq_getElem hlt
        have hdr:(p.funcs.drop i).any exFn=(exFn p.funcs[i] || (p.funcs.drop (i + 1)).any exFn):=by rw [List.drop_eq_getElem_cons hlt,List.any_cons]
        rw [exFn] at hdr
        have hsm:=fnsSz_mem (List.getElem_mem hlt)
        have hsz:p.funcs[i].sz=1 + p.funcs[i].name.length + strsSz p.funcs[i].params + strsSz p.funcs[i].locals + stmtsSz p.funcs[i].body + p.funcs[i].value.sz:=rfl
        repeat' (first
           | (apply Rx.nl ?_;clear hK K)|apply Rx.o ?_|apply Rx.on ?_|(apply Rx.call ?_;first|refine Rx.k (kd _ (by omega) _) ?_|refine Rx.k (kt _ (by omega) _) ?_|refine Rx.k (kc _ (by omega) _) ?_)|(apply Rx.gd (fun hg hgp=>?_) (fun hg hgp=>?_) <;> try (cases hg;done))|(apply Rx.cd (fun hb hbp=>?_) (fun hb hbp=>?_) <;> try (cases hb;done))|apply Wp.seq ?_|(apply Wp.ops' fun K hK=>?_)|apply Wp.block ?_|apply Rx.sk ?_|apply Rx.rt ?_|apply Rx.xt ?_)
        all_goals (first|(refine ⟨eI,_,eR,?_⟩;(try simp only [oneOr]);rw [exB,hJ,hJ2,hdr];(try simp only [Bool.not_eq_true',Bool.not_eq_false'] at *);simp only [*,decide_true,decide_false,Bool.false_or,Bool.or_false,Bool.true_or,Bool.or_true,Bool.false_and,Bool.and_false,Bool.true_and,Bool.and_true,Bool.not_true,Bool.not_false,if_true,if_false,Int.reduceEq];done)|skip)
        refine ⟨by omega,eL,eL,eN,(by simp only [sB,Nat.reduceBEq, *];exact i64_succ (n:=p.funcs.length) (by omega) (by omega)),?_⟩
        rw [hJ2,hdr];(try simp only [Bool.not_eq_true',Bool.not_eq_false'] at *);simp only [*,decide_true,decide_false,Bool.false_or,Bool.or_false,Bool.true_or,Bool.or_true,Bool.false_and,Bool.and_false,Bool.true_and,Bool.and_true,Bool.not_true,Bool.not_false,if_true,if_false,Int.reduceEq]
      · all_goals (refine ⟨eI, _, eR, ?_⟩; try simp only [oneOr])
        have hie:i=p.funcs.length:=by simp at hb;omega
        rw [hie,List.drop_length,List.any_nil] at hJ2
        rw [exB,hJ,hJ2];(try simp only [Bool.not_eq_true',Bool.not_eq_false'] at *);simp only [*,decide_true,decide_false,Bool.false_or,Bool.or_false,Bool.true_or,Bool.or_true,Bool.false_and,Bool.and_false,Bool.true_and,Bool.and_true,Bool.not_true,Bool.not_false,if_true,if_false,Int.reduceEq])
end Go.Proofs.Ytackdnelcpbfjaa
namespace Go.Proofs.Ytackdnelcpbfjaa
set_option maxRecDepth 20000
set_option maxRecDepth 20000
open Go Go.Ab
namespace tyR3d
def tyF:=And.intro @tq2 (And.intro @tq3 (And.intro @tq9 (And.intro @tq37 (And.intro @tq39 (And.intro @tq36 (@tq46))))))
end tyR3d
open tyR3d
noncomputable def code86:{ c:SC // slim 128 (Try.f86.body.getD .skip)=c }:=by
 refine ⟨?_,?_⟩
 rotate_left
 · simp only [Try.f86, Option.getD_some, slim, slimR, slimL, slimD, slimG, Nat.blt, Nat.ble]
   rfl
noncomputable def code143:{ c:SC // slim 27 (Try.f143.body.getD .skip)=c }:=by
 refine ⟨?_,?_⟩
 rotate_left
 · simp only [Try.f143, Option.getD_some, slim, slimR, slimL, slimD, slimG, Nat.blt, Nat.ble]
   rfl
def wfX (x:Ex):Bool:=
 if x.kind=1 then decide ((x.kids.length:Int)=0) && decide (x.name=[]) && decide (x.op=0)
 else if x.kind=2 then decide ((x.kids.length:Int)=0) && decide (x.n=0) && decide (x.op=0) && nameB x.name
 else if x.kind=3 then decide ((x.kids.length:Int)=1) && decide (x.n=0) && decide (x.op=0) && nameB x.name
 else if x.kind=4 then decide (x.n=0) && decide (x.name=[]) && ((decide ((x.kids.length:Int)=2) && isBinB x.op) || (decide ((x.kids.length:Int)=1) && (decide (x.op=20) || decide (x.op=21))))
 else if x.kind=5 then decide ((x.kids.length:Int)=3) && decide (x.n=0) && decide (x.name=[]) && decide (x.op=0)
 else false
mutual
def wfE:Ex → Bool
 | .mk k n s o ks=>wfEs ks && wfX (.mk k n s o ks)
def wfEs:List Ex → Bool
 | []=>true
 | e :: es=>wfE e && wfEs es
end
theorem wfE_eq (x:Ex):wfE x=(wfEs x.kids && wfX x):=by cases x;rw [wfE];rfl
noncomputable def enValid:En:=⟨84,false,spP (fun s=>s.length < 2 ^ 60) bsE fun s=>.bool (nameB s)⟩
theorem enValid_ok (ρ:Nat → Int):EnOk Try.prog ρ enValid:=spP_ok fun x hx=>rvalid_con ρ x hx
noncomputable def enBin:En:=⟨121,false,spP (fun _=>True) (fun n:Int=>[.int .i64 n]) fun n=>.bool (isBinB n)⟩
theorem enBin_ok (ρ:Nat → Int):EnOk Try.prog ρ enBin:=spP_ok fun x _=>isBin_con ρ x
theorem intE_inj (x y:Int) (h:([.int .i64 x]:List AV)=[.int .i64 y]):x=y:=by simpa using h
noncomputable def enZero:En:=⟨142,false,spP (fun _=>True) exE fun x=>.bool (zeroE x)⟩
theorem enZero_ok (ρ:Nat → Int):EnOk Try.prog ρ enZero:=spP_ok fun x _=>rzero_con ρ x
noncomputable def levD:List En:=[enValid,enBin]
theorem levD_ok (ρ:Nat → Int):EnsOk Try.prog ρ levD:=⟨enValid_ok ρ,enBin_ok ρ,trivial⟩
theorem wfExpr_con (ρ:Nat → Int):∀ x:Ex,x.sz < 2 ^ 60 → Con Try.prog ρ 86 (exE x) (.bool (wfE x)):=
 Con.recN fit (pls:=pls) (levD_ok ρ) (fun x=>x.sz) (ok:=fun x=>x.sz < 2 ^ 60) (enc:=exE) (out:=fun x=>.bool (wfE x)) (fun x _=>.cons (.agg x.pure) .nil) (fun x _=>.bool _) (fun x hx=>by
 have hw:=plainR (sz:=fun x:Ex=>x.sz) (ok:=fun x=>x.sz < 2 ^ 60) (out:=fun x=>.bool (wfE x)) exE_inj (f:=86) (l:=levD) x
 generalize hl:(⟨86,false,spP (fun y=>y.sz < 2 ^ 60 ∧ y.sz < x.sz) exE fun x=>.bool (wfE x)⟩:En) :: levD=l at hw ⊢
 have kr:∀ y:Ex,y.sz < x.sz → ∀ H,WpCall Try.prog (cfgN pls l) 86 [.agg y.cells] H fun v H'=>v=.bool (wfE y) ∧ H'=H:=fun y h2 H=>by
   subst hl;exact WpCall.en (enc:=exE) (out:=fun x=>.bool (wfE x)) exE_inj (x:=y) rfl ⟨by omega,h2⟩
 have kv:∀ s:List UInt8,s.length < 2 ^ 60 → ∀ H,WpCall Try.prog (cfgN pls l) 84 [.str s] H fun v H'=>v=.bool (nameB s) ∧ H'=H:=fun s h1 H=>by
   subst hl;exact WpCall.en (enc:=bsE) (out:=fun x=>.bool (nameB x)) bsE_inj (x:=s) rfl h1
 have kb:∀ n:Int,∀ H,WpCall Try.prog (cfgN pls l) 121 [.int .i64 n] H fun v H'=>v=.bool (isBinB n) ∧ H'=H:=fun n H=>by
   subst hl;exact WpCall.en (enc:=fun n:Int=>[.int .i64 n]) (out:=fun x=>.bool (isBinB x)) intE_inj (x:=n) rfl trivial
 have hsz:=x.sz_eq
 have hlen:=exprsSz_len x.kids
 change WpCall _ _ _ [.agg x.cells] _ _
 refine WpCall.slim (M:=128) (rs:=[.tmp 2]) hw.call hw.ice hw.froz Try.func86 rfl rfl code86.2 rfl ?_;dsimp only [code86,envOf,Nat.reduceAdd]
 repeat' (first
    | (apply Rx.nl ?_;clear hK K)|apply Rx.o ?_|apply Rx.gu ?_|(apply Rx.gd (fun hg hgp=>?_) (fun hg hgp=>?_) <;> try (cases hg;done))|(apply Rx.cd (fun hb hbp=>?_) (fun hb hbp=>?_) <;> try (cases hb;done))|apply Wp.seq ?_|(apply Wp.ops' fun K hK=>?_)|apply Wp.block ?_|apply Rx.sk ?_|apply Rx.rt ?_|apply Rx.xt ?_)
 refine Wp.forI [1] [0] 3 x.kids.length (fun i E H=>wfEs x.kids=wfEs (x.kids.drop i)) eE (by simp) ?_
 rintro i E H2 hi hcE hrH hnH hsI hJ
 (try simp only [forall_cons,forall_nil,and_true,sB,sO,Nat.reduceBEq,Nat.reduceAdd,Nat.reduceLeDiff,tyF, *] at hcE)
 (try simp only [forall_cons,forall_nil,and_true,sB,sO,Nat.reduceBEq,Nat.reduceAdd,Nat.reduceLeDiff,tyF, *] at hrH)
 (try simp only [Hp.next_alloc,Hp.next_set,H0_next,Nat.zero_add,Nat.reduceAdd] at hnH)
 have hB0:(0 == H2.next)=false:=ne_beq (by omega)
 have hC0:(H2.next == 0)=false:=ne_beq (by omega)
 repeat' (first
    | (apply Rx.nl ?_;clear hK K)|apply Rx.o ?_|(apply Rx.call ?_;first|refine Rx.k (kv _ (by omega) _) ?_|refine Rx.k (kb _ _) ?_)|apply Rx.gu ?_|(apply Rx.gd (fun hg hgp=>?_) (fun hg hgp=>?_) <;> try (cases hg;done))|(apply Rx.cd (fun hb hbp=>?_) (fun hb hbp=>?_) <;> try (cases hb;done))|apply Wp.seq ?_|(apply Wp.ops' fun K hK=>?_)|apply Wp.block ?_|apply Rx.sk ?_|apply Rx.rt ?_|apply Rx.xt ?_)
 · have hlt : i < x.kids.length := by simpa using hb
   have hgx:x.kids[i]?=some x.kids[i]:=List.getElem?_eq_getElem hlt
   have hm:=exprsSz_mem (List.getElem_mem hlt)
   have hdr:wfEs (x.kids.drop i)=(wfE x.kids[i] && wfEs (x.kids.drop (i + 1))):=by rw [List.drop_eq_getElem_cons hlt];rfl
   repeat' (first
      | (apply Rx.nl ?_;clear hK K)|apply Rx.o ?_|(apply Rx.call ?_;first|refine Rx.k (kr _ (by omega) _) ?_)|apply Rx.gu ?_|(apply Rx.gd (fun hg hgp=>?_) (fun hg hgp=>?_) <;> try (cases hg;done))|(apply Rx.cd (fun hb hbp=>?_) (fun hb hbp=>?_) <;> try (cases hb;done))|apply Wp.seq ?_|(apply Wp.ops' fun K hK=>?_)|apply Wp.block ?_|apply Rx.sk ?_|apply Rx.rt ?_|apply Rx.xt ?_)
   all_goals (first|(refine ⟨eI,_,eR,?_⟩;(try simp only [oneOr]);rw [wfE_eq,hJ,hdr];(try simp only [Bool.not_eq_true',Bool.not_eq_false'] at *);simp only [*,decide_true,decide_false,Bool.false_or,Bool.or_false,Bool.true_or,Bool.or_true,Bool.false_and,Bool.and_false,Bool.true_and,Bool.and_true,Bool.not_true,Bool.not_false,if_true,if_false,Int.reduceEq];done)|skip)
   refine ⟨by omega,eL,eL,eN,(by simp only [sB,Nat.reduceBEq, *];exact i64_succ (n:=x.kids.length) (by omega) (by omega)),?_⟩
   rw [hJ,hdr];(try simp only [Bool.not_eq_true',Bool.not_eq_false'] at *);simp only [*,decide_true,decide_false,Bool.false_or,Bool.or_false,Bool.true_or,Bool.or_true,Bool.false_and,Bool.and_false,Bool.true_and,Bool.and_true,Bool.not_true,Bool.not_false,if_true,if_false,Int.reduceEq]
 all_goals
   have hie:i=x.kids.length:=by omega
   rw [hie,List.drop_length] at hJ
   have hJ':wfEs x.kids=true:=hJ
   clear hJ
   all_goals (refine ⟨eI,_,eR,?_⟩;try simp only [oneOr])
   rw [wfE_eq,hJ',wfX];(try simp only [Bool.not_eq_true',Bool.not_eq_false'] at *);simp only [*,decide_true,decide_false,Bool.false_or,Bool.or_false,Bool.true_or,Bool.or_true,Bool.false_and,Bool.and_false,Bool.true_and,Bool.and_true,Bool.not_true,Bool.not_false,if_true,if_false,Int.reduceEq])
end Go.Proofs.Ytackdnelcpbfjaa
namespace Go.Proofs.Ytackdnelcpbfjaa
set_option maxRecDepth 20000
set_option maxRecDepth 20000
open Go Go.Ab
namespace tyR3e
def tyF:=And.intro @tq2 (And.intro @tq3 (And.intro @tq9 (And.intro @tq36 (And.intro @tq37 (And.intro @tq39 (@tq46))))))
end tyR3e
open tyR3e
noncomputable def code120:{ c:SC // slim 202 (Try.f120.body.getD .skip)=c }:=by
 refine ⟨?_,?_⟩
 rotate_left
 · simp only [Try.f120, Option.getD_some, slim, slimR, slimL, slimD, slimG, Nat.blt, Nat.ble]
   rfl
def onlyB (x:St):Bool:=decide (x.name=[]) && decide (x.to=[]) && decide (x.n=0) && zeroE x.at_ && decide ((x.args.length:Int)=0)
def flatB (x:St):Bool:=decide ((x.thn.length:Int)=0) && decide ((x.els.length:Int)=0)
def wfStK (x:St):Bool:=
 if x.kind=1 then flatB x && nameB x.name && decide (x.to=[]) && decide (x.n=0) && zeroE x.at_ && decide ((x.args.length:Int)=0) && wfE x.value
 else if x.kind=2 then flatB x && nameB x.name && decide (x.to=[]) && decide (x.n=0) && wfE x.at_ && decide ((x.args.length:Int)=0) && wfE x.value
 else if x.kind=3 then onlyB x && wfE x.value
 else if x.kind=4 then onlyB x && wfE x.value && decide ((x.els.length:Int)=0)
 else if x.kind=5 then flatB x && onlyB x && wfE x.value
 else if x.kind=6 then flatB x && nameB x.name && nameB x.to && decide (x.n=0) && zeroE x.at_ && zeroE x.value
 else if x.kind=7 then flatB x && decide (x.name=[]) && decide (x.to=[]) && decide (0 ≤ x.n) && decide (x.n ≤ 1000000) && zeroE x.at_ && zeroE x.value && decide ((x.args.length:Int)=0)
 else false
def wfStX (x:St):Bool:=wfEs x.args && wfStK x
def stE (x:St):List AV:=[.agg x.cells]
theorem stE_inj (x y:St) (h:stE x=stE y):x=y:=by simp only [stE,List.cons.injEq,AV.agg.injEq,and_true] at h;exact St.inj h
theorem only_con (ρ:Nat → Int) (x:St):Con Try.prog ρ 143 [.agg x.cells] (.bool (onlyB x)):=Con.lev fit (pls:=pls) (l:=[enZero]) ⟨enZero_ok ρ,trivial⟩ (.cons (.agg x.pure) .nil) (.bool _) (by
 have hw:Plain (cfgN pls [enZero]) 143:=plainN (fun _=>rfl) rfl
 have kz:∀ y:Ex,∀ H,WpCall Try.prog (cfgN pls [enZero]) 142 [.agg y.cells] H fun v H'=>v=.bool (zeroE y) ∧ H'=H:=fun y H=>WpCall.en (enc:=exE) (out:=fun x=>.bool (zeroE x)) exE_inj (x:=y) rfl trivial
 refine WpCall.slim (M:=27) (rs:=[.tmp 2]) (hw.call _) hw.ice hw.froz Try.func143 rfl rfl code143.2 rfl ?_;dsimp only [code143,envOf,Nat.reduceAdd]
 repeat' (first
    | (apply Rx.nl ?_;clear hK K)|apply Rx.o ?_|(apply Rx.call ?_;first|refine Rx.k (kz _ _) ?_)|(apply Rx.gd (fun hg hgp=>?_) (fun hg hgp=>?_) <;> try (cases hg;done))|apply Wp.seq ?_|(apply Wp.ops' fun K hK=>?_)|apply Rx.rt ?_)
 all_goals
   all_goals (refine ⟨eI,_,eR,?_⟩;try simp only [oneOr])
   rw [onlyB];(try simp only [Bool.not_eq_true',Bool.not_eq_false'] at *);simp only [*,decide_true,decide_false,Bool.false_or,Bool.or_false,Bool.true_or,Bool.or_true,Bool.false_and,Bool.and_false,Bool.true_and,Bool.and_true,Bool.not_true,Bool.not_false,if_true,if_false,Int.reduceEq])
noncomputable def enOnly:En:=⟨143,false,spP (fun _=>True) stE fun x=>.bool (onlyB x)⟩
theorem enOnly_ok (ρ:Nat → Int):EnOk Try.prog ρ enOnly:=spP_ok fun x _=>only_con ρ x
noncomputable def enWfE:En:=⟨86,false,spP (fun x=>x.sz < 2 ^ 60) exE fun x=>.bool (wfE x)⟩
theorem enWfE_ok (ρ:Nat → Int):EnOk Try.prog ρ enWfE:=spP_ok fun x hx=>wfExpr_con ρ x hx
noncomputable def levE:List En:=[enValid,enZero,enOnly,enWfE]
theorem levE_ok (ρ:Nat → Int):EnsOk Try.prog ρ levE:=⟨enValid_ok ρ,enZero_ok ρ,enOnly_ok ρ,enWfE_ok ρ,trivial⟩
theorem wfStmt_con (ρ:Nat → Int) (x:St) (hx:x.sz < 2 ^ 60):Con Try.prog ρ 120 [.agg x.cells] (.bool (wfStX x)):=Con.lev fit (pls:=pls) (levE_ok ρ) (.cons (.agg x.pure) .nil) (.bool _) (by
 have hw:Plain (cfgN pls levE) 120:=plainN (fun _=>rfl) rfl
 have kz:∀ y:Ex,∀ H,WpCall Try.prog (cfgN pls levE) 142 [.agg y.cells] H fun v H'=>v=.bool (zeroE y) ∧ H'=H:=fun y H=>WpCall.en (enc:=exE) (out:=fun x=>.bool (zeroE x)) exE_inj (x:=y) rfl trivial
 have ko:∀ y:St,∀ H,WpCall Try.prog (cfgN pls levE) 143 [.agg y.cells] H fun v H'=>v=.bool (onlyB y) ∧ H'=H:=fun y H=>WpCall.en (enc:=stE) (out:=fun x=>.bool (onlyB x)) stE_inj (x:=y) rfl trivial
 have kv:∀ s:List UInt8,s.length < 2 ^ 60 → ∀ H,WpCall Try.prog (cfgN pls levE) 84 [.str s] H fun v H'=>v=.bool (nameB s) ∧ H'=H:=fun s h1 H=>WpCall.en (enc:=bsE) (out:=fun x=>.bool (nameB x)) bsE_inj (x:=s) rfl h1
 have kw:∀ y:Ex,y.sz < 2 ^ 60 → ∀ H,WpCall Try.prog (cfgN pls levE) 86 [.agg y.cells] H fun v H'=>v=.bool (wfE y) ∧ H'=H:=fun y h1 H=>WpCall.en (enc:=exE) (out:=fun x=>.bool (wfE x)) exE_inj (x:=y) rfl h1
 have hsz:=x.sz_eq
 have hlen:=exprsSz_len x.args
 refine WpCall.slim (M:=202) (rs:=[.tmp 2]) (hw.call _) hw.ice hw.froz Try.func120 rfl rfl code120.2 rfl ?_;dsimp only [code120,envOf,Nat.reduceAdd]
 repeat' (first
    | (apply Rx.nl ?_;clear hK K)|apply Rx.o ?_|(apply Rx.gd (fun hg hgp=>?_) (fun hg hgp=>?_) <;> try (cases hg;done))|(apply Rx.cd (fun hb hbp=>?_) (fun hb hbp=>?_) <;> try (cases hb;done))|apply Wp.seq ?_|(apply Wp.ops' fun K hK=>?_)|apply Wp.block ?_|apply Rx.sk ?_|apply Rx.rt ?_|apply Rx.xt ?_)
 refine Wp.forI [1] [0] 3 x.args.length (fun i E H=>wfEs x.args=wfEs (x.args.drop i)) eE (by simp) ?_
 rintro i E H2 hi hcE hrH hnH hsI hJ
 (try simp only [forall_cons,forall_nil,and_true,sB,sO,Nat.reduceBEq,Nat.reduceAdd,Nat.reduceLeDiff,tyF, *] at hcE)
 (try simp only [forall_cons,forall_nil,and_true,sB,sO,Nat.reduceBEq,Nat.reduceAdd,Nat.reduceLeDiff,tyF, *] at hrH)
 (try simp only [Hp.next_alloc,Hp.next_set,H0_next,Nat.zero_add,Nat.reduceAdd] at hnH)
 have hB0:(0 == H2.next)=false:=ne_beq (by omega)
 have hC0:(H2.next == 0)=false:=ne_beq (by omega)
 repeat' (first
    | (apply Rx.nl ?_;clear hK K)|apply Rx.o ?_|(apply Rx.call ?_;first|refine Rx.k (kv _ (by omega) _) ?_|refine Rx.k (kz _ _) ?_|refine Rx.k (ko _ _) ?_|refine Rx.k (kw _ (by omega) _) ?_)|(apply Rx.gd (fun hg hgp=>?_) (fun hg hgp=>?_) <;> try (cases hg;done))|(apply Rx.cd (fun hb hbp=>?_) (fun hb hbp=>?_) <;> try (cases hb;done))|apply Wp.seq ?_|(apply Wp.ops' fun K hK=>?_)|apply Wp.block ?_|apply Rx.sk ?_|apply Rx.rt ?_|apply Rx.xt ?_)
 · have hlt : i < x.args.length := by simpa using hb
   have hgx:x.args[i]?=some x.args[i]:=List.getElem?_eq_getElem hlt
   have hm:=exprsSz_mem (List.getElem_mem hlt)
   have hdr:wfEs (x.args.drop i)=(wfE x.args[i] && wfEs (x.args.drop (i + 1))):=by rw [List.drop_eq_getElem_cons hlt];rfl
   repeat' (first
      | (apply Rx.nl ?_;clear hK K)|apply Rx.o ?_|(apply Rx.call ?_;first|refine Rx.k (kw _ (by omega) _) ?_)|(apply Rx.gd (fun hg hgp=>?_) (fun hg hgp=>?_) <;> try (cases hg;done))|(apply Rx.cd (fun hb hbp=>?_) (fun hb hbp=>?_) <;> try (cases hb;done))|apply Wp.seq ?_|(apply Wp.ops' fun K hK=>?_)|apply Wp.block ?_|apply Rx.sk ?_|apply Rx.rt ?_|apply Rx.xt ?_)
   all_goals (first|(refine ⟨eI,_,eR,?_⟩;(try simp only [oneOr]);rw [wfStX,hJ,hdr];(try simp only [Bool.not_eq_true',Bool.not_eq_false'] at *);simp only [*,decide_true,decide_false,Bool.false_or,Bool.or_false,Bool.true_or,Bool.or_true,Bool.false_and,Bool.and_false,Bool.true_and,Bool.and_true,Bool.not_true,Bool.not_false,if_true,if_false,Int.reduceEq];done)|skip)
   refine ⟨by omega,eL,eL,eN,(by simp only [sB,Nat.reduceBEq, *];exact i64_succ (n:=x.args.length) (by omega) (by omega)),?_⟩
   rw [hJ,hdr];(try simp only [Bool.not_eq_true',Bool.not_eq_false'] at *);simp only [*,decide_true,decide_false,Bool.false_or,Bool.or_false,Bool.true_or,Bool.or_true,Bool.false_and,Bool.and_false,Bool.true_and,Bool.and_true,Bool.not_true,Bool.not_false,if_true,if_false,Int.reduceEq]
 all_goals
   have hie:i=x.args.length:=by omega
   rw [hie,List.drop_length] at hJ
   have hJ':wfEs x.args=true:=hJ
   clear hJ
   all_goals (refine ⟨eI,_,eR,?_⟩;try simp only [oneOr])
   rw [wfStX,hJ',wfStK,flatB];(try simp only [Bool.not_eq_true',Bool.not_eq_false'] at *);simp only [*,decide_true,decide_false,Bool.false_or,Bool.or_false,Bool.true_or,Bool.or_true,Bool.false_and,Bool.and_false,Bool.true_and,Bool.and_true,Bool.not_true,Bool.not_false,if_true,if_false,Int.reduceEq])
end Go.Proofs.Ytackdnelcpbfjaa
namespace Go.Proofs.Ytackdnelcpbfjaa
set_option maxRecDepth 20000
open Go Go.Ab
def StrB (H:Hp) (v:AV) (l:List (List UInt8)) (lo:Nat):Prop:=∃ r imm,v=.sl r 0 l.length 1 ∧ H.get r=some (.cells (l.map .str) imm true) ∧ imm ≤ l.length ∧ lo ≤ r ∧ r < H.next
def StrN (H:Hp) (v:AV) (l:List (List UInt8)) (lo:Nat):Prop:=(v=.nilS ∧ l=[]) ∨ StrB H v l lo
theorem StrB.low {H H':Hp} {v:AV} {l:List (List UInt8)} {lo:Nat} (h:StrB H v l lo) (hn:H.next ≤ H'.next) (hg:∀ k,lo ≤ k → k < H.next → H'.get k=H.get k):StrB H' v l lo:=by
 obtain ⟨r,imm,h1,h2,h3,h4,h5⟩:=h
 exact ⟨r,imm,h1,by rw [hg r h4 h5];exact h2,h3,h4,by omega⟩
def ownS (v:AV) (k:Nat):Prop:=∃ n,v=.sl k 0 n 1
def OwnFr (v v':AV) (H H':Hp):Prop:=(∀ k,k < H.next → ¬ ownS v k → H'.get k=H.get k) ∧ ∀ k,ownS v' k → ownS v k ∨ H.next ≤ k
theorem StrB.lt {H:Hp} {v:AV} {l:List (List UInt8)} {lo:Nat} (h:StrB H v l lo) {k:Nat} (hk:ownS v k):lo ≤ k ∧ k < H.next:=by
 obtain ⟨r,imm,rfl,_,_,h4,h5⟩:=h
 obtain ⟨n,e⟩:=hk
 simp only [AV.sl.injEq] at e
 rw [← e.1];exact ⟨h4,h5⟩
theorem StrN.lt {H:Hp} {v:AV} {l:List (List UInt8)} {lo:Nat} (h:StrN H v l lo) {k:Nat} (hk:ownS v k):lo ≤ k ∧ k < H.next:=by
 rcases h with ⟨rfl,_⟩|h
 · obtain ⟨n,e⟩:=hk;simp at e
 · exact h.lt hk
theorem StrB.keep {H H':Hp} {v:AV} {l:List (List UInt8)} {lo:Nat} (h:StrB H v l lo) (hn:H.next ≤ H'.next) (hg:∀ k,ownS v k → H'.get k=H.get k):StrB H' v l lo:=by
 obtain ⟨r,imm,rfl,h2,h3,h4,h5⟩:=h
 exact ⟨r,imm,rfl,by rw [hg r ⟨_,rfl⟩];exact h2,h3,h4,by omega⟩
theorem StrN.keep {H H':Hp} {v:AV} {l:List (List UInt8)} {lo:Nat} (h:StrN H v l lo) (hn:H.next ≤ H'.next) (hg:∀ k,ownS v k → H'.get k=H.get k):StrN H' v l lo:=h.imp id fun h=>h.keep hn hg
theorem strs_one (l:List (List UInt8)):(l.map AV.str).all AV.one=true:=by simp [AV.one]
theorem strs_flat (m:List (List UInt8)):(m.map fun s=>[AV.str s]).flatten=m.map .str:=by induction m with
 | nil=>rfl
 | cons a m ih=>simp [ih]
theorem src_strs (H:Hp) (m:List (List UInt8)):srcCells H 1 (lstS m)=some (m.length,m.map .str):=by
 have e:srcCells H 1 (lstS m)=if ((m.map fun s=>[AV.str s]).all fun row=>row.length == 1) then some ((m.map fun s=>[AV.str s]).length,(m.map fun s=>[AV.str s]).flatten) else none:=rfl
 rw [e,if_pos (by simp),strs_flat,List.length_map]
theorem src_own {H:Hp} {r imm:Nat} {m:List (List UInt8)} (h:H.get r=some (.cells (m.map .str) imm true)):srcCells H 1 (.sl r 0 m.length 1)=some (m.length,m.map .str):=by
 have:=src_sl (H:=H) (r:=r) (o:=0) (n:=m.length) (z:=1) (s:=1) h (by simp)
 rw [this,List.drop_zero,List.take_of_length_le (by simp)]
theorem app_gen {H : Hp} {v x : AV} {l m : List (List UInt8)} {lo : Nat} (hv : StrN H v l lo) (hlo : lo ≤ H.next) (hx : srcCells H 1 x = some (m.length, m.map .str)) (hm : m ≠ []) (hb : l.length + m.length < 2 ^ 40) :
    ∃ v' H',appendA Try.prog false H 35 35 v x=some (v',H') ∧ StrB H' v' (l ++ m) lo ∧ H'.next=H.next + 1 ∧ (∀ k,k < lo → H'.get k=H.get k) ∧ OwnFr v v' H H':=by
  obtain ⟨n,hn⟩:∃ n,m.length=n + 1:=⟨m.length - 1,by have:=List.length_pos_iff.2 hm;omega⟩
  have hmr:maxRoom=70368744177664:=rfl
  rw [hn] at hx
  rcases hv with ⟨rfl,rfl⟩|⟨r,imm,rfl,h2,h3,h4,h5⟩
  · refine ⟨.sl H.next 0 (n + 1) 1, H.alloc (.cells (m.map .str) 0 true), append_nil Try.underlying35 sz9 bt9 zr9 (by kernel_rfl) hx (strs_one m) rfl (by rw [hmr]; omega) (by rw [hmr]; omega), ⟨H.next, 0, by simp [hn], by rw [Hp.get_alloc, if_pos rfl]; rfl, by omega, hlo, Nat.lt_succ_self _⟩, rfl, fun k hk => by rw [Hp.get_alloc, if_neg (by omega)], fun k hk _ => by rw [Hp.get_alloc, if_neg (by omega)], fun k hk => .inr ?_⟩
    obtain ⟨n',e⟩:=hk
    simp only [AV.sl.injEq] at e
    omega
  · have htr : trimA false H 1 (.sl r 0 l.length 1) = H := by
      unfold trimA
      simp only [h2,Nat.zero_add,List.length_map,Nat.mul_one]
      have:Nat.blt l.length l.length=false:=by
        cases hb:Nat.blt l.length l.length with
        | false=>rfl
        | true=>rw [Nat.blt_eq] at hb;omega
      simp [this]
    refine ⟨.sl H.next 0 (l.length + (n + 1)) 1,(H.kill r).alloc (.cells (l.map .str ++ m.map .str) (imm - 0) true),?_,⟨H.next,imm,by simp [hn],?_,by simp;omega,hlo,Nat.lt_succ_self _⟩,rfl,fun k hk=>?_,fun k hk hno=>?_,fun k hk=>.inr ?_⟩
    · simp only [appendA, Try.underlying35, sz9, bt9, zr9, show srcType Try.prog 35 = true by kernel_rfl, hx, strs_one, htr, and_self, if_true, List.length_cons, List.length_nil, appendOnto, h2, List.length_map, Nat.zero_add, Nat.mul_one, List.drop_zero]
      rw [if_pos ⟨by rw [hmr];omega,by rw [hmr];omega,trivial,trivial,h3⟩]
      simp
    · show ((H.kill r).alloc _).get (H.kill r).next = _
      rw [Hp.get_alloc,if_pos rfl];simp
    · rw [Hp.get_alloc,if_neg (by simp only [Hp.next_kill];omega),Hp.get_kill,if_neg (by omega)]
    · rw [Hp.get_alloc,if_neg (by simp only [Hp.next_kill];omega),Hp.get_kill,if_neg (fun e=>hno ⟨_,by rw [e]⟩)]
    · obtain ⟨n', e⟩ := hk
      simp only [AV.sl.injEq] at e
      omega
theorem app_lst {H:Hp} {v:AV} {l:List (List UInt8)} {lo:Nat} (m:List (List UInt8)) (hv:StrB H v l lo) (hlo:lo ≤ H.next) (hb:l.length + m.length < 2 ^ 40) :
   ∃ v' H',appendA Try.prog false H 35 35 v (lstS m)=some (v',H') ∧ StrB H' v' (l ++ m) lo ∧ H.next ≤ H'.next ∧ (∀ k,k < lo → H'.get k=H.get k) ∧ OwnFr v v' H H':=by
 by_cases hm:m=[]
 · subst hm
   refine ⟨v,H,?_,by rw [List.append_nil];exact hv,Nat.le_refl _,fun _ _=>rfl,fun _ _ _=>rfl,fun _ h=>.inl h⟩
   obtain ⟨r,imm,rfl,h2,_⟩:=hv
   simp only [appendA,Try.underlying35,sz9,bt9,zr9,show srcType Try.prog 35=true by kernel_rfl,List.map_nil,srcCells,List.all_nil,if_true,List.length_nil]
 · obtain ⟨v', H', h1, h2, h3, h4⟩ := app_gen (.inr hv) hlo (src_strs H m) hm hb
   exact ⟨v',H',h1,h2,by omega,h4⟩
theorem app_one {H:Hp} {v:AV} {l:List (List UInt8)} {lo r imm:Nat} (s:List UInt8) (hv:StrN H v l lo) (hlo:lo ≤ H.next) (hs:H.get r=some (.cells [.str s] imm true)) (hb:l.length < 2 ^ 39) :
   ∃ v' H',appendA Try.prog false H 35 35 v (.sl r 0 1 1)=some (v',H') ∧ StrB H' v' (l ++ [s]) lo ∧ H'.next=H.next + 1 ∧ (∀ k,k < lo → H'.get k=H.get k) ∧ OwnFr v v' H H':=
 app_gen hv hlo (src_own (m:=[s]) hs) (by simp) (by simp;omega)
theorem app_own {H:Hp} {v w:AV} {l m:List (List UInt8)} {lo lo':Nat} (hv:StrB H v l lo) (hlo:lo ≤ H.next) (hw:StrN H w m lo') (hb:l.length + m.length < 2 ^ 40) :
   ∃ v' H',appendA Try.prog false H 35 35 v w=some (v',H') ∧ StrB H' v' (l ++ m) lo ∧ H.next ≤ H'.next ∧ (∀ k,k < lo → H'.get k=H.get k) ∧ OwnFr v v' H H':=by
 by_cases hm:m=[]
 · subst hm
   refine ⟨v,H,?_,by rw [List.append_nil];exact hv,Nat.le_refl _,fun _ _=>rfl,fun _ _ _=>rfl,fun _ h=>.inl h⟩
   obtain ⟨r,imm,rfl,h2,_⟩:=hv
   rcases hw with ⟨rfl,_⟩|⟨r',imm',rfl,g2,_⟩
   · simp only [appendA,Try.underlying35,sz9,bt9,zr9,show srcType Try.prog 35=true by kernel_rfl,srcCells]
   · have g3 := src_own g2
     simp only [List.length_nil] at g3
     simp only [appendA,Try.underlying35,sz9,bt9,zr9,show srcType Try.prog 35=true by kernel_rfl,List.length_nil,g3]
 · rcases hw with ⟨_, h⟩ | ⟨r', imm', rfl, g2, _⟩
   · exact (hm h).elim
   · obtain ⟨v', H', h1, h2, h3, h4⟩ := app_gen (.inr hv) hlo (src_own g2) hm hb
     exact ⟨v',H',h1,h2,by omega,h4⟩
theorem StrB.len {H H':Hp} {v:AV} {l:List (List UInt8)} {lo:Nat} (h:StrB H v l lo):lenAt Try.prog H' 35 v=some (.int .i64 l.length):=by
 obtain ⟨r,imm,rfl,_⟩:=h
 exact lenAt_sl Try.underlying35 _ _ _ _
theorem StrB.at {H:Hp} {v:AV} {l:List (List UInt8)} {lo:Nat} (h:StrB H v l lo) {i:Nat} (hi:i < l.length) :
   ∃ r,indexAddrA Try.prog 35 v (.int .i64 (i:Int))=some (.ptr r i) ∧ aload Try.prog H 9 (.ptr r i)=some (.str l[i]):=by
 obtain ⟨r,imm,rfl,h2,_⟩:=h
 refine ⟨r,?_,?_⟩
 · rw [index_sl Try.underlying35 sz9 hi];simp
 · rw [load_one Try.underlying9 rfl h2,List.getElem?_map,List.getElem?_eq_getElem hi];rfl
theorem StrB.one {H:Hp} {v:AV} {l:List (List UInt8)} {lo:Nat} (h:StrB H v l lo):AV.one v=true ∧ v.cells=[v]:=by
 obtain ⟨r,imm,rfl,_⟩:=h
 exact ⟨rfl,rfl⟩
theorem chunk_one (l:List (List UInt8)):chunk 1 l.length (l.map .str)=l.map fun s=>[AV.str s]:=by
 induction l with
 | nil=>rfl
 | cons a l ih=>simp [chunk,ih]
theorem ice_strs (n:Nat):∀ (l:List (List UInt8)) (H:Hp),iceHL (iceH (n + 1)) (l.map .str) H=some (l.map .str,H)
 | [],H=>rfl
 | a :: l, H => by
   have:=ice_strs n l H
   have e:iceH (n + 1) (.str a) H=some (.str a,H):=rfl
   simp only [List.map_cons,iceHL,e,this]
theorem StrB.ice {H : Hp} {v : AV} {l : List (List UInt8)} {lo : Nat} (h : StrB H v l lo) (n : Nat) :
    ∃ H',iceH (n + 2) v H=some (lstS l,H') ∧ StrB H' v l lo ∧ H'.next=H.next ∧ (∀ k,k < lo → H'.get k=H.get k) ∧ ∀ k,¬ ownS v k → H'.get k=H.get k:=by
  obtain ⟨r,imm,rfl,h2,h3,h4,h5⟩:=h
  refine ⟨H.set r (.cells (l.map .str) (max imm l.length) true),?_,⟨r,max imm l.length,rfl,by rw [Hp.get_set,if_pos rfl],by omega,h4,h5⟩,rfl,fun k hk=>by rw [Hp.get_set,if_neg (by omega)],fun k hk=>by rw [Hp.get_set,if_neg (fun e=>hk ⟨_,by rw [e]⟩)]⟩
  have e:iceH (n + 2) (.sl r 0 l.length 1) H=match H.get r with
    | some (.cells cs imm tip) => match Nat.ble (0 + l.length * 1) cs.length && Nat.ble imm cs.length with
      | true => match iceHL (iceH (n + 1)) ((cs.drop 0).take (l.length * 1)) (H.set r (.cells cs (max imm (0 + l.length * 1)) tip)) with
        | some (l',H)=>some (.lst (chunk 1 l.length l'),H)
        | none=>none
      | false=>none
    | _=>none:=rfl
  rw [e,h2]
  simp only [List.length_map,Nat.zero_add,Nat.mul_one,List.drop_zero]
  have h6:Nat.ble l.length l.length=true:=by rw [Nat.ble_eq];omega
  have h7:Nat.ble imm l.length=true:=by rw [Nat.ble_eq];omega
  rw [h6,h7]
  simp only [Bool.and_self]
  rw [List.take_of_length_le (by simp),ice_strs]
  simp only [chunk_one]
theorem Con.args {P:Program} {ρ:Nat → Int} {f:FuncId} {args args':List AV} {r:AV} (h:Con P ρ f args r) (hv:∀ (G:Gh) vs,VRs G args' vs → VRs G args vs):Con P ρ f args' r:=
 ⟨h.1,fun G w vs h1 h2 h3=>h.2 G w vs h1 h2 (hv G vs h3)⟩
theorem VRs.nil1 {G:Gh} {a:List AV} {vs:List Value} (h:VRs G (.nilS :: a) vs):VRs G (lstS [] :: a) vs:=by
 cases vs with
 | nil=>have:=h.1;simp at this
 | cons v vs =>
   obtain ⟨g1,g2⟩:=h.of_cons
   cases g1
   exact VRs.cons (.lst0 _ _) g2
def rowsE (x:Option (List (List UInt8)) × List UInt8):List AV:=match x with
 | (none,s)=>[.nilS,.str s]
 | (some l,s)=>[lstS l,.str s]
theorem rowsE_inj (x y:Option (List (List UInt8)) × List UInt8) (h:rowsE x=rowsE y):x=y:=by
 obtain ⟨a,s⟩:=x
 obtain ⟨b,u⟩:=y
 cases a <;> cases b <;> simp only [rowsE,List.cons.injEq,AV.str.injEq,AV.lst.injEq,and_true,reduceCtorEq,false_and,true_and] at h
 · rw [h]
 · rw [strs_inj h.1,h.2]
noncomputable def enHas:En:=⟨87,true,spP (fun x=>(x.1.getD []).length < 2 ^ 60) rowsE fun x=>.bool (hasS (x.1.getD []) x.2)⟩
theorem enHas_ok (ρ:Nat → Int):EnOk Try.prog ρ enHas:=spP_ok fun x hx=>by
 obtain ⟨a,s⟩:=x
 cases a with
 | none=>exact Con.args (contains_con ρ [] s (by simp)) fun G vs h=>VRs.nil1 h
 | some l=>exact contains_con ρ l s hx
theorem has_wp {l:List En} (hl:∀ ar,lookN l 87 ar=enHas.sp ar) (hi:iceN l 87=true) {H:Hp} {v:AV} {r:List (List UInt8)} {lo:Nat} (hv:StrN H v r lo) (hr:r.length < 2 ^ 60) (s:List UInt8) :
   WpCall Try.prog (cfgN pls l) 87 [v,.str s] H fun w H'=>w=.bool (hasS r s) ∧ StrN H' v r lo ∧ H'.next=H.next ∧ (∀ k,k < lo → H'.get k=H.get k) ∧ ∀ k,¬ ownS v k → H'.get k=H.get k:=by
 rcases hv with ⟨rfl,rfl⟩|hv
 · refine WpCall.mono ?_ (WpCall.en (enc := rowsE) (out := fun x => .bool (hasS (x.1.getD []) x.2)) rowsE_inj (x := (none, s)) (hl _) hr)
   rintro w _ ⟨rfl,rfl⟩
   exact ⟨rfl,.inl ⟨rfl,rfl⟩,rfl,fun _ _=>rfl,fun _ _=>rfl⟩
 · obtain ⟨H', h1, h2, h3, h4⟩ := hv.ice 98
   have hne:∀ y,(y.1.getD []).length < 2 ^ 60 → rowsE y ≠ [v,.str s]:=fun y _ e=>by
     obtain ⟨q,imm,rfl,_⟩:=hv
     obtain ⟨a,u⟩:=y
     cases a <;> simp [rowsE] at e
   refine WpCall.mono ?_ (WpCall.enI (enc:=rowsE) (out:=fun x=>.bool (hasS (x.1.getD []) x.2)) rowsE_inj (x:=(some r,s)) hl hi hr hne (H':=H') ?_)
   · rintro w _ ⟨rfl, rfl⟩
     exact ⟨rfl,.inr h2,h3,h4⟩
   · show iceHL (iceH 100) [v, .str s] H = some ([lstS r, .str s], H')
     simp only [iceHL,h1]
     rfl
end Go.Proofs.Ytackdnelcpbfjaa
namespace Go.Proofs.Ytackdnelcpbfjaa
set_option maxRecDepth 20000
set_option maxRecDepth 20000
open Go Go.Ab
namespace tyR3f
def tyF:=And.intro @tq2 (And.intro @tq3 (And.intro @tq9 (And.intro @tq22 (And.intro @tq23 (And.intro @tq25 (And.intro @tq35 (And.intro @tq36 (And.intro @tq37 (And.intro @tq39 (And.intro @tq41 (And.intro @tq44 (@tq46))))))))))))
end tyR3f
open tyR3f
noncomputable def code85:{ c:SC // slim 34 (Try.f85.body.getD .skip)=c }:=by
 refine ⟨?_,?_⟩
 rotate_left
 · simp only [Try.f85, Option.getD_some, slim, slimR, slimL, slimD, slimG, Nat.blt, Nat.ble]
   rfl
noncomputable def code41:{ c:SC // slim 66 (Try.f41.body.getD .skip)=c }:=by
 refine ⟨?_,?_⟩
 rotate_left
 · simp only [Try.f41, Option.getD_some, slim, slimR, slimL, slimD, slimG, Nat.blt, Nat.ble]
   rfl
mutual
def wfSt:St → Bool
 | .mk k nm to n a v args th el=>wfStX (.mk k nm to n a v args th el) && wfSs th && wfSs el
def wfSs:List St → Bool
 | []=>true
 | x :: l=>wfSt x && wfSs l
end
theorem wfSt_eq (x:St):wfSt x=(wfStX x && wfSs x.thn && wfSs x.els):=by cases x;rw [wfSt];rfl
noncomputable def enWfX:En:=⟨120,false,spP (fun x=>x.sz < 2 ^ 60) stE fun x=>.bool (wfStX x)⟩
theorem enWfX_ok (ρ:Nat → Int):EnOk Try.prog ρ enWfX:=spP_ok fun x hx=>wfStmt_con ρ x hx
theorem wfStmts_con (ρ:Nat → Int):∀ x:List St,stmtsSz x < 2 ^ 60 → Con Try.prog ρ 85 (stsE x) (.bool (wfSs x)):=
 Con.recN fit (pls:=pls) (l:=[enWfX]) ⟨enWfX_ok ρ,trivial⟩ (fun x=>stmtsSz x) (ok:=fun x=>stmtsSz x < 2 ^ 60) (enc:=stsE) (out:=fun x=>.bool (wfSs x)) (fun x _=>.cons (sts_pure _) .nil) (fun x _=>.bool _) (fun x hx=>by
 have hw:=plainR (sz:=fun x:List St=>stmtsSz x) (ok:=fun x=>stmtsSz x < 2 ^ 60) (out:=fun x=>.bool (wfSs x)) stsE_inj (f:=85) (l:=[enWfX]) x
 generalize hl:(⟨85,false,spP (fun y=>stmtsSz y < 2 ^ 60 ∧ stmtsSz y < stmtsSz x) stsE fun x=>.bool (wfSs x)⟩:En) :: [enWfX]=l at hw ⊢
 have kr:∀ (y:List St),stmtsSz y < stmtsSz x → ∀ H,WpCall Try.prog (cfgN pls l) 85 [.lst (y.map St.cells)] H fun v H'=>v=.bool (wfSs y) ∧ H'=H:=fun y h2 H=>by
   subst hl;exact WpCall.en (enc:=stsE) (out:=fun x=>.bool (wfSs x)) stsE_inj (x:=y) rfl ⟨by omega,h2⟩
 have kd:∀ y:St,y.sz < 2 ^ 60 → ∀ H,WpCall Try.prog (cfgN pls l) 120 [.agg y.cells] H fun v H'=>v=.bool (wfStX y) ∧ H'=H:=fun y h1 H=>by
   subst hl;exact WpCall.en (enc:=stE) (out:=fun x=>.bool (wfStX x)) stE_inj (x:=y) rfl h1
 have hlen:=stmtsSz_len x
 change WpCall _ _ _ [.lst (x.map St.cells)] _ _
 refine WpCall.slim (M:=34) (rs:=[.tmp 2]) hw.call hw.ice hw.froz Try.func85 rfl rfl code85.2 rfl ?_;dsimp only [code85,envOf,Nat.reduceAdd]
 repeat' (first
    | (apply Rx.nl ?_;clear hK K)|apply Rx.o ?_|(apply Rx.gd (fun hg hgp=>?_) (fun hg hgp=>?_) <;> try (cases hg;done))|(apply Rx.cd (fun hb hbp=>?_) (fun hb hbp=>?_) <;> try (cases hb;done))|apply Wp.seq ?_|(apply Wp.ops' fun K hK=>?_)|apply Wp.block ?_|apply Rx.sk ?_|apply Rx.rt ?_|apply Rx.xt ?_)
 refine Wp.forI [0] [] 3 x.length (fun i E H=>wfSs x=wfSs (x.drop i)) eE (by simp) ?_
 rintro i E H2 hi hcE hrH hnH hsI hJ
 (try simp only [forall_cons,forall_nil,and_true,sB,sO,Nat.reduceBEq,Nat.reduceAdd,Nat.reduceLeDiff,tyF, *] at hcE)
 (try simp only [forall_cons,forall_nil,and_true,sB,sO,Nat.reduceBEq,Nat.reduceAdd,Nat.reduceLeDiff,tyF, *] at hrH)
 (try simp only [Hp.next_alloc,Hp.next_set,H0_next,Nat.zero_add,Nat.reduceAdd] at hnH)
 repeat' (first
    | (apply Rx.nl ?_;clear hK K)|apply Rx.o ?_|(apply Rx.gd (fun hg hgp=>?_) (fun hg hgp=>?_) <;> try (cases hg;done))|(apply Rx.cd (fun hb hbp=>?_) (fun hb hbp=>?_) <;> try (cases hb;done))|apply Wp.seq ?_|(apply Wp.ops' fun K hK=>?_)|apply Wp.block ?_|apply Rx.sk ?_|apply Rx.rt ?_|apply Rx.xt ?_)
 · have hlt : i < x.length := by simpa using hb
   have hgx:x[i]?=some x[i]:=List.getElem?_eq_getElem hlt
   have hsm:=stmtsSz_mem (List.getElem_mem hlt)
   have hsz:=x[i].sz_eq
   have hdr:wfSs (x.drop i)=(wfSt x[i] && wfSs (x.drop (i + 1))):=by rw [List.drop_eq_getElem_cons hlt];rfl
   rw [wfSt_eq] at hdr
   repeat' (first
      | (apply Rx.nl ?_;clear hK K)|apply Rx.o ?_|(apply Rx.call ?_;first|refine Rx.k (kd _ (by omega) _) ?_|refine Rx.k (kr _ (by omega) _) ?_)|(apply Rx.gd (fun hg hgp=>?_) (fun hg hgp=>?_) <;> try (cases hg;done))|(apply Rx.cd (fun hb hbp=>?_) (fun hb hbp=>?_) <;> try (cases hb;done))|apply Wp.seq ?_|(apply Wp.ops' fun K hK=>?_)|apply Wp.block ?_|apply Rx.sk ?_|apply Rx.rt ?_|apply Rx.xt ?_)
   all_goals (first|(refine ⟨eI,_,eR,?_⟩;(try simp only [oneOr]);rw [hJ,hdr];(try simp only [Bool.not_eq_true',Bool.not_eq_false'] at *);simp only [*,decide_true,decide_false,Bool.false_or,Bool.or_false,Bool.true_or,Bool.or_true,Bool.false_and,Bool.and_false,Bool.true_and,Bool.and_true,Bool.not_true,Bool.not_false,if_true,if_false,Int.reduceEq];done)|skip)
   refine ⟨by omega,eL,eL,eN,(by simp only [sB,Nat.reduceBEq, *];exact i64_succ (n:=x.length) (by omega) (by omega)),?_⟩
   rw [hJ,hdr];(try simp only [Bool.not_eq_true',Bool.not_eq_false'] at *);simp only [*,decide_true,decide_false,Bool.false_or,Bool.or_false,Bool.true_or,Bool.or_true,Bool.false_and,Bool.and_false,Bool.true_and,Bool.and_true,Bool.not_true,Bool.not_false,if_true,if_false,Int.reduceEq]
 · all_goals (refine ⟨eI, _, eR, ?_⟩; try simp only [oneOr])
   rw [hJ,show i=x.length by simp at hb;omega];simp [wfSs])
noncomputable def enWfS:En:=⟨85,false,spP (fun x=>stmtsSz x < 2 ^ 60) stsE fun x=>.bool (wfSs x)⟩
theorem enWfS_ok (ρ:Nat → Int):EnOk Try.prog ρ enWfS:=spP_ok fun x hx=>wfStmts_con ρ x hx
noncomputable def levF:List En:=[enValid,enWfE,enWfS]
theorem levF_ok (ρ:Nat → Int):EnsOk Try.prog ρ levF:=⟨enValid_ok ρ,enWfE_ok ρ,enWfS_ok ρ,trivial⟩
theorem arrsSz_mem:∀ {l:List Ar} {a:Ar},a ∈ l → a.name.length < arrsSz l
 | [],_,h=>by simp at h
 | e :: es, x, h => by
   rcases List.mem_cons.1 h with rfl|h
   · simp only [arrsSz];omega
   · have:=arrsSz_mem h;simp only [arrsSz];omega
def fnNames (f:Fu):List (List UInt8):=[f.name] ++ f.params ++ f.locals
def wfFn (f:Fu):Bool:=(fnNames f).all nameB && wfSs f.body && wfE f.value
def wfP (p:Pr):Bool:=p.arrays.all (fun a=>nameB a.name) && p.funcs.all wfFn
theorem bsS1 (H:Hp) (s:List UInt8):buildSliceA Try.prog H 35 1 [(0,.str s)]=some (.sl H.next 0 1 1,H.alloc (.cells [.str s] 0 true)):=by kernel_rfl
theorem bsS0 (H:Hp):buildSliceA Try.prog H 35 0 []=some (.sl H.next 0 0 1,H.alloc (.cells [] 0 true)):=by kernel_rfl
theorem wf_con (ρ : Nat → Int) (p : Pr) (hz : p.sz < 2 ^ 36) : Con Try.prog ρ 41 [.agg p.cells] (.bool (wfP p)) := Con.lev fit (pls := pls) (levF_ok ρ) (.cons (.agg p.pure) .nil) (.bool _) (by
  have hw:Plain (cfgN pls levF) 41:=plainN (fun _=>rfl) rfl
  have hkeep:(cfgN pls levF).keep 41=false:=rfl
  have kv:∀ s:List UInt8,s.length < 2 ^ 60 → ∀ H,WpCall Try.prog (cfgN pls levF) 84 [.str s] H fun v H'=>v=.bool (nameB s) ∧ H'=H:=fun s h1 H=>WpCall.en (enc:=bsE) (out:=fun x=>.bool (nameB x)) bsE_inj (x:=s) rfl h1
  have kw:∀ y:Ex,y.sz < 2 ^ 60 → ∀ H,WpCall Try.prog (cfgN pls levF) 86 [.agg y.cells] H fun v H'=>v=.bool (wfE y) ∧ H'=H:=fun y h1 H=>WpCall.en (enc:=exE) (out:=fun x=>.bool (wfE x)) exE_inj (x:=y) rfl h1
  have ks:∀ y:List St,stmtsSz y < 2 ^ 60 → ∀ H,WpCall Try.prog (cfgN pls levF) 85 [.lst (y.map St.cells)] H fun v H'=>v=.bool (wfSs y) ∧ H'=H:=fun y h1 H=>WpCall.en (enc:=stsE) (out:=fun x=>.bool (wfSs x)) stsE_inj (x:=y) rfl h1
  have hpz:p.sz=1 + arrsSz p.arrays + fnsSz p.funcs:=rfl
  have hla:=arrsSz_len p.arrays
  have hlf:=fnsSz_len p.funcs
  refine WpCall.slim (M:=66) (rs:=[.tmp 2]) (hw.call _) hw.ice hw.froz Try.func41 rfl rfl code41.2 rfl ?_;dsimp only [code41,envOf,Nat.reduceAdd]
  repeat' (first
     | (apply Rx.nl ?_;clear hK K)|apply Rx.o ?_|apply Rx.on ?_|(apply Rx.gd (fun hg hgp=>?_) (fun hg hgp=>?_) <;> try (cases hg;done))|(apply Rx.cd (fun hb hbp=>?_) (fun hb hbp=>?_) <;> try (cases hb;done))|apply Wp.seq ?_|(apply Wp.ops' fun K hK=>?_)|(apply Rx.dT 10 [(1,5),(2,5),(4,5),(7,5),(7,8)] fun K hK=>?_)|(apply Rx.nq ?_;try intro _)|(apply Rx.nt ?_ ?_ <;> clear hK K)|apply WpT.step ?_|apply Wp.block ?_|apply Rx.sk ?_|apply Rx.rt ?_|apply Rx.xt ?_)
  refine Wp.forI [1] [0] 3 p.arrays.length (fun i E H=>p.arrays.all (fun a=>nameB a.name)=(p.arrays.drop i).all (fun a=>nameB a.name)) eE (by simp) ?_
  rintro i E H2 hi hcE hrH hnH hsI hJ
  (try simp only [forall_cons,forall_nil,and_true,sB,sO,Nat.reduceBEq,Nat.reduceAdd,Nat.reduceLeDiff,tyF, *] at hcE)
  (try simp only [forall_cons,forall_nil,and_true,sB,sO,Nat.reduceBEq,Nat.reduceAdd,Nat.reduceLeDiff,tyF, *] at hrH)
  (try simp only [Hp.next_alloc,Hp.next_set,H0_next,Nat.zero_add,Nat.reduceAdd] at hnH)
  have hB0:(0 == H2.next)=false:=ne_beq (by omega)
  have hC0:(H2.next == 0)=false:=ne_beq (by omega)
  repeat' (first
     | (apply Rx.nl ?_;clear hK K)|apply Rx.o ?_|apply Rx.on ?_|(apply Rx.gd (fun hg hgp=>?_) (fun hg hgp=>?_) <;> try (cases hg;done))|(apply Rx.cd (fun hb hbp=>?_) (fun hb hbp=>?_) <;> try (cases hb;done))|apply Wp.seq ?_|(apply Wp.ops' fun K hK=>?_)|(apply Rx.dT 10 [(1,5),(2,5),(4,5),(7,5),(7,8)] fun K hK=>?_)|(apply Rx.nq ?_;try intro _)|(apply Rx.nt ?_ ?_ <;> clear hK K)|apply WpT.step ?_|apply Wp.block ?_|apply Rx.sk ?_|apply Rx.rt ?_|apply Rx.xt ?_)
  · have hlt : i < p.arrays.length := by simpa using hb
    have hgx:p.arrays[i]?=some p.arrays[i]:=List.getElem?_eq_getElem hlt
    have hdr:(p.arrays.drop i).all (fun a=>nameB a.name)=(nameB p.arrays[i].name && (p.arrays.drop (i + 1)).all (fun a=>nameB a.name)):=by rw [List.drop_eq_getElem_cons hlt,List.all_cons]
    have hsm:p.arrays[i].name.length < arrsSz p.arrays:=arrsSz_mem (List.getElem_mem hlt)
    repeat' (first
       | (apply Rx.nl ?_;clear hK K)|apply Rx.o ?_|apply Rx.on ?_|(apply Rx.call ?_;first|refine Rx.k (kv _ (by omega) _) ?_)|(apply Rx.gd (fun hg hgp=>?_) (fun hg hgp=>?_) <;> try (cases hg;done))|(apply Rx.cd (fun hb hbp=>?_) (fun hb hbp=>?_) <;> try (cases hb;done))|apply Wp.seq ?_|(apply Wp.ops' fun K hK=>?_)|(apply Rx.dT 10 [(1,5),(2,5),(4,5),(7,5),(7,8)] fun K hK=>?_)|(apply Rx.nq ?_;try intro _)|(apply Rx.nt ?_ ?_ <;> clear hK K)|apply WpT.step ?_|apply Wp.block ?_|apply Rx.sk ?_|apply Rx.rt ?_|apply Rx.xt ?_)
    all_goals (first|(refine ⟨eI,_,eR,?_⟩;(try simp only [oneOr]);rw [wfP,hJ,hdr];(try simp only [Bool.not_eq_true',Bool.not_eq_false'] at *);simp only [*,decide_true,decide_false,Bool.false_or,Bool.or_false,Bool.true_or,Bool.or_true,Bool.false_and,Bool.and_false,Bool.true_and,Bool.and_true,Bool.not_true,Bool.not_false,if_true,if_false,Int.reduceEq];done)|skip)
    refine ⟨by omega,eL,eL,eN,(by simp only [sB,Nat.reduceBEq, *];exact i64_succ (n:=p.arrays.length) (by omega) (by omega)),?_⟩
    rw [hJ,hdr];(try simp only [Bool.not_eq_true',Bool.not_eq_false'] at *);simp only [*,decide_true,decide_false,Bool.false_or,Bool.or_false,Bool.true_or,Bool.or_true,Bool.false_and,Bool.and_false,Bool.true_and,Bool.and_true,Bool.not_true,Bool.not_false,if_true,if_false,Int.reduceEq]
  · have hie : i = p.arrays.length := by simp at hb; omega
    rw [hie,List.drop_length,List.all_nil] at hJ
    clear hb hie hsI hi
    refine Wp.forI [1] [0] 4 p.funcs.length (fun i E H=>p.funcs.all wfFn=(p.funcs.drop i).all wfFn) eE (by simp) ?_
    rintro i E H2 hi hcE hrH hnH hsI hJ2
    (try simp only [forall_cons,forall_nil,and_true,sB,sO,Nat.reduceBEq,Nat.reduceAdd,Nat.reduceLeDiff,tyF, *] at hcE)
    (try simp only [forall_cons,forall_nil,and_true,sB,sO,Nat.reduceBEq,Nat.reduceAdd,Nat.reduceLeDiff,tyF, *] at hrH)
    (try simp only [Hp.next_alloc,Hp.next_set,H0_next,Nat.zero_add,Nat.reduceAdd] at hnH)
    have hB0:(0 == H2.next)=false:=ne_beq (by omega)
    have hC0:(H2.next == 0)=false:=ne_beq (by omega)
    repeat' (first
       | (apply Rx.nl ?_;clear hK K)|apply Rx.o ?_|apply Rx.on ?_|(apply Rx.gd (fun hg hgp=>?_) (fun hg hgp=>?_) <;> try (cases hg;done))|(apply Rx.cd (fun hb hbp=>?_) (fun hb hbp=>?_) <;> try (cases hb;done))|apply Wp.seq ?_|(apply Wp.ops' fun K hK=>?_)|(apply Rx.dT 10 [(1,5),(2,5),(4,5),(7,5),(7,8)] fun K hK=>?_)|(apply Rx.nq ?_;try intro _)|(apply Rx.nt ?_ ?_ <;> clear hK K)|apply WpT.step ?_|apply Wp.block ?_|apply Rx.sk ?_|apply Rx.rt ?_|apply Rx.xt ?_)
    · have hlt : i < p.funcs.length := by simpa using hb
      have hgx:p.funcs[i]?=some p.funcs[i]:=List.getElem?_eq_getElem hlt
      have hdr:(p.funcs.drop i).all wfFn=(wfFn p.funcs[i] && (p.funcs.drop (i + 1)).all wfFn):=by rw [List.drop_eq_getElem_cons hlt,List.all_cons]
      rw [wfFn] at hdr
      have hsm:=fnsSz_mem (List.getElem_mem hlt)
      have hsz:p.funcs[i].sz=1 + p.funcs[i].name.length + strsSz p.funcs[i].params + strsSz p.funcs[i].locals + stmtsSz p.funcs[i].body + p.funcs[i].value.sz:=rfl
      have gh0:=@bsS1
      repeat' (first
         | (apply Rx.nl ?_;clear hK K)|apply Rx.o ?_|apply Rx.on ?_|(apply Rx.gd (fun hg hgp=>?_) (fun hg hgp=>?_) <;> try (cases hg;done))|(apply Rx.cd (fun hb hbp=>?_) (fun hb hbp=>?_) <;> try (cases hb;done))|apply Wp.seq ?_|(apply Wp.ops' fun K hK=>?_)|(apply Rx.dT 10 [(1,5),(2,5),(4,5),(7,5),(7,8)] fun K hK=>?_)|(apply Rx.nq ?_;try intro _)|(apply Rx.nt ?_ ?_ <;> clear hK K)|apply WpT.step ?_|apply Wp.block ?_|apply Rx.sk ?_|apply Rx.rt ?_|apply Rx.xt ?_)
      generalize hH4:Hp.alloc _ (HB.cells [AV.str p.funcs[i].name] 0 true)=H4
      have n4:H4.next=H2.next + 2:=by rw [← hH4];rfl
      have g4:H4.get H2.next=some (.cells p.funcs[i].cells 0 true):=by rw [← hH4];clear hH4;exact eF
      have g40:H4.get 0=some (.cells p.cells 0 true):=by
        rw [← hH4,Hp.get_alloc,if_neg (by simp only [Hp.next_set,Hp.next_alloc];omega),Hp.get_set,if_neg (by omega),Hp.get_alloc,if_neg (by omega)];exact hrH
      have g41:H4.get (H2.next + 1)=some (.cells [.str p.funcs[i].name] 0 true):=by rw [← hH4];clear hH4;exact eF
      have s4:StrB H4 (.sl (H2.next + 1) 0 1 1) [p.funcs[i].name] (H2.next + 1):=⟨H2.next + 1,0,rfl,g41,by simp,Nat.le_refl _,by omega⟩
      have hpl:=strsSz_len p.funcs[i].params
      have hll:=strsSz_len p.funcs[i].locals
      obtain ⟨v5,H5,a5,s5,n5,f5,_⟩:=app_lst p.funcs[i].params s4 (by omega) (by simp;omega)
      have g5:H5.get H2.next=some (.cells p.funcs[i].cells 0 true):=by rw [f5 _ (Nat.lt_succ_self _)];exact g4
      have g50:H5.get 0=some (.cells p.cells 0 true):=by rw [f5 _ (by omega)];exact g40
      refine WpL.append eV eV (by rw [hkeep];exact a5) ?_
      repeat' (first
         | (apply Rx.nl ?_;clear hK K)|apply Rx.o ?_|apply Rx.on ?_|(apply Rx.gd (fun hg hgp=>?_) (fun hg hgp=>?_) <;> try (cases hg;done))|(apply Rx.cd (fun hb hbp=>?_) (fun hb hbp=>?_) <;> try (cases hb;done))|apply Wp.seq ?_|(apply Wp.ops' fun K hK=>?_)|(apply Rx.dT 10 [(1,5),(2,5),(4,5),(7,5),(7,8)] fun K hK=>?_)|(apply Rx.nq ?_;try intro _)|(apply Rx.nt ?_ ?_ <;> clear hK K)|apply WpT.step ?_|apply Wp.block ?_|apply Rx.sk ?_|apply Rx.rt ?_|apply Rx.xt ?_)
      obtain ⟨v6,H6,a6,s6,n6,f6,_⟩:=app_lst p.funcs[i].locals s5 (by omega) (by simp;omega)
      have g6:H6.get H2.next=some (.cells p.funcs[i].cells 0 true):=by rw [f6 _ (Nat.lt_succ_self _)];exact g5
      have g60:H6.get 0=some (.cells p.cells 0 true):=by rw [f6 _ (by omega)];exact g50
      refine WpL.append eV eV (by rw [hkeep];exact a6) ?_
      repeat' (first
         | (apply Rx.nl ?_;clear hK K)|apply Rx.o ?_|apply Rx.on ?_|(apply Rx.gd (fun hg hgp=>?_) (fun hg hgp=>?_) <;> try (cases hg;done))|(apply Rx.cd (fun hb hbp=>?_) (fun hb hbp=>?_) <;> try (cases hb;done))|apply Wp.seq ?_|(apply Wp.ops' fun K hK=>?_)|(apply Rx.dT 10 [(1,5),(2,5),(4,5),(7,5),(7,8)] fun K hK=>?_)|(apply Rx.nq ?_;try intro _)|(apply Rx.nt ?_ ?_ <;> clear hK K)|apply WpT.step ?_|apply Wp.block ?_|apply Rx.sk ?_|apply Rx.rt ?_|apply Rx.xt ?_)
      · exact eK
      · have s6' : StrB H6 v6 (fnNames p.funcs[i]) (H2.next + 1) := s6
        have hfl:(fnNames p.funcs[i]).length < 2 ^ 61:=by simp [fnNames];omega
        have hfm:∀ s ∈ fnNames p.funcs[i],s.length < 2 ^ 60:=fun s hs=>by
          rcases List.mem_append.1 hs with hs|hs
          · rcases List.mem_append.1 hs with hs | hs
            · simp at hs;subst hs;omega
            · have:=strsSz_mem hs;omega
          · have:=strsSz_mem hs;omega
        clear s6 a6 f6 a5 f5 s5 s4
        generalize fnNames p.funcs[i]=ns at *
        have hln:=fun H'=>s6'.len (H':=H')
        refine Wp.forI [1,4,5,6] [0,H2.next] 7 ns.length (fun j E H=>ns.all nameB=(ns.drop j).all nameB ∧ StrB H v6 ns (H2.next + 1)) eE ⟨by simp,s6'⟩ ?_
        rintro j E3 H3 hj hcE hrH hnH hsI ⟨hJ3,s7⟩
        (try simp only [forall_cons,forall_nil,and_true,sB,sO,Nat.reduceBEq,Nat.reduceAdd,Nat.reduceLeDiff,tyF,g6,g60, *] at hcE)
        (try simp only [forall_cons,forall_nil,and_true,sB,sO,Nat.reduceBEq,Nat.reduceAdd,Nat.reduceLeDiff,tyF,g6,g60, *] at hrH)
        (try simp only [Hp.next_alloc,Hp.next_set,H0_next,Nat.zero_add,Nat.reduceAdd] at hnH)
        have hB0:(0 == H3.next)=false:=ne_beq (by omega)
        have hC0:(H3.next == 0)=false:=ne_beq (by omega)
        have hB1:(H2.next == H3.next)=false:=ne_beq (by omega)
        have hC1:(H3.next == H2.next)=false:=ne_beq (by omega)
        repeat' (first
           | (apply Rx.nl ?_;clear hK K)|apply Rx.o ?_|apply Rx.on ?_|(apply Rx.call ?_;first|refine Rx.k (kw _ (by omega) _) ?_|refine Rx.k (ks _ (by omega) _) ?_)|(apply Rx.gd (fun hg hgp=>?_) (fun hg hgp=>?_) <;> try (cases hg;done))|(apply Rx.cd (fun hb hbp=>?_) (fun hb hbp=>?_) <;> try (cases hb;done))|apply Wp.seq ?_|(apply Wp.ops' fun K hK=>?_)|(apply Rx.dT 10 [(1,5),(2,5),(4,5),(7,5),(7,8)] fun K hK=>?_)|(apply Rx.nq ?_;try intro _)|(apply Rx.nt ?_ ?_ <;> clear hK K)|apply WpT.step ?_|apply Wp.block ?_|apply Rx.sk ?_|apply Rx.rt ?_|apply Rx.xt ?_)
        · have hlt2 : j < ns.length := by simpa using hb
          obtain ⟨q,ia,ld⟩:=s7.at hlt2
          have hdr2:(ns.drop j).all nameB=(nameB ns[j] && (ns.drop (j + 1)).all nameB):=by rw [List.drop_eq_getElem_cons hlt2,List.all_cons]
          have hq:=hfm _ (List.getElem_mem hlt2)
          repeat' (first
             | (apply Rx.nl ?_;clear hK K)|apply Rx.o ?_|apply Rx.on ?_|(apply Rx.call ?_;first|refine Rx.k (kv _ hq _) ?_)|(apply Rx.gd (fun hg hgp=>?_) (fun hg hgp=>?_) <;> try (cases hg;done))|(apply Rx.cd (fun hb hbp=>?_) (fun hb hbp=>?_) <;> try (cases hb;done))|apply Wp.seq ?_|(apply Wp.ops' fun K hK=>?_)|(apply Rx.dT 10 [(1,5),(2,5),(4,5),(7,5),(7,8)] fun K hK=>?_)|(apply Rx.nq ?_;try intro _)|(apply Rx.nt ?_ ?_ <;> clear hK K)|apply WpT.step ?_|apply Wp.block ?_|apply Rx.sk ?_|apply Rx.rt ?_|apply Rx.xt ?_)
          all_goals (first|(refine ⟨eI,_,eR,?_⟩;(try simp only [oneOr]);rw [wfP,hJ,hJ2,hdr,hJ3,hdr2];(try simp only [Bool.not_eq_true',Bool.not_eq_false'] at *);simp only [*,decide_true,decide_false,Bool.false_or,Bool.or_false,Bool.true_or,Bool.or_true,Bool.false_and,Bool.and_false,Bool.true_and,Bool.and_true,Bool.not_true,Bool.not_false,if_true,if_false,Int.reduceEq];done)|skip)
          refine ⟨by omega,eL,eL,eN,(by simp only [sB,Nat.reduceBEq, *];exact i64_succ (n:=ns.length) (by omega) (by omega)),?_⟩
          exact ⟨by rw [hJ3,hdr2];(try simp only [Bool.not_eq_true',Bool.not_eq_false'] at *);simp only [*,decide_true,decide_false,Bool.false_or,Bool.or_false,Bool.true_or,Bool.or_true,Bool.false_and,Bool.and_false,Bool.true_and,Bool.and_true,Bool.not_true,Bool.not_false,if_true,if_false,Int.reduceEq],s7⟩
        all_goals
          have hje:j=ns.length:=by omega
          rw [hje,List.drop_length,List.all_nil] at hJ3
        all_goals (first|(refine ⟨eI,_,eR,?_⟩;(try simp only [oneOr]);rw [wfP,hJ,hJ2,hdr,hJ3];(try simp only [Bool.not_eq_true',Bool.not_eq_false'] at *);simp only [*,decide_true,decide_false,Bool.false_or,Bool.or_false,Bool.true_or,Bool.or_true,Bool.false_and,Bool.and_false,Bool.true_and,Bool.and_true,Bool.not_true,Bool.not_false,if_true,if_false,Int.reduceEq];done)|skip)
        refine ⟨by omega,eL,eL,eN,(by simp only [sB,Nat.reduceBEq, *];exact i64_succ (n:=p.funcs.length) (by omega) (by omega)),?_⟩
        rw [hJ2,hdr,hJ3];(try simp only [Bool.not_eq_true',Bool.not_eq_false'] at *);simp only [*,decide_true,decide_false,Bool.false_or,Bool.or_false,Bool.true_or,Bool.or_true,Bool.false_and,Bool.and_false,Bool.true_and,Bool.and_true,Bool.not_true,Bool.not_false,if_true,if_false,Int.reduceEq]
    · all_goals (refine ⟨eI, _, eR, ?_⟩; try simp only [oneOr])
      have hie:i=p.funcs.length:=by simp at hb;omega
      rw [hie,List.drop_length,List.all_nil] at hJ2
      rw [wfP,hJ,hJ2];(try simp only [Bool.not_eq_true',Bool.not_eq_false'] at *);simp only [*,decide_true,decide_false,Bool.false_or,Bool.or_false,Bool.true_or,Bool.or_true,Bool.false_and,Bool.and_false,Bool.true_and,Bool.and_true,Bool.not_true,Bool.not_false,if_true,if_false,Int.reduceEq])
end Go.Proofs.Ytackdnelcpbfjaa
