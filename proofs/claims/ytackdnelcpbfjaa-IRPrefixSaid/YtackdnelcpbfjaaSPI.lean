/- Parts: K5, G2, G2r, G2s, Mu1, K6, K7, AbArg, Seeds, K8. -/
import Derived.Deep.Slices
import Derived.Test.YtackdnelcpbfjaaSPH
import Derived.WideKeyArgs
import Derived.WideShapes
set_option linter.unusedSimpArgs false
set_option linter.unusedVariables false
set_option linter.unusedSectionVars false
set_option linter.defProp false
set_option maxHeartbeats 32000000
namespace Go.Proofs.Ytackdnelcpbfjaa
set_option maxRecDepth 20000
set_option maxRecDepth 20000
open Go Go.Ab
namespace tyK5
def tyF:=And.intro @tq3 (And.intro @tq26 (And.intro @tq60 (And.intro @tq66 (@bn1))))
end tyK5
open tyK5
noncomputable def code58:{ c:SC // slim 39 (Try.f58.body.getD .skip)=c }:=by
 refine ⟨?_,?_⟩
 rotate_left
 · simp only [Try.f58, Option.getD_some, slim, slimR, slimL, slimD, slimG, Nat.blt, Nat.ble]
   rfl
noncomputable def enRs:En:=⟨101,true,spP NdsOk ndsE fun l=>lstI (sortsI l l.length)⟩
theorem enRs_ok (ρ:Nat → Int):EnOk Try.prog ρ enRs:=spP_ok fun l hl=>rsorts_con ρ l hl
theorem rs_en {tb:List En} (ht:∀ ar,lookN tb 101 ar=enRs.sp ar) (l:List Nd) (hl:NdsOk l) (H:Hp):WpCall Try.prog (cfgN pls tb) 101 [lstN l] H fun v H'=>v=lstI (sortsI l l.length) ∧ H'=H:=
 WpCall.en (enc:=ndsE) (ok:=NdsOk) (out:=fun l=>lstI (sortsI l l.length)) ndsE_inj (x:=l) (ht _) hl
structure OfX where
 l:List Nd
 t:Int
 n:Int
def ofE (x:OfX):List AV:=[lstN x.l,.int .i64 x.t,.int .i64 x.n]
theorem ofE_inj (x y:OfX) (h:ofE x=ofE y):x=y:=by
 obtain ⟨a,b,c⟩:=x
 obtain ⟨a',b',c'⟩:=y
 simp only [ofE,List.cons.injEq,AV.int.injEq,and_true,true_and] at h
 rw [lstN_inj h.1,h.2.1,h.2.2]
def ofOk (x:OfX):Prop:=NdsOk x.l ∧ 0 < (allK (sortsI x.l x.l.length) x.t x.l.length).length
theorem of_con (ρ:Nat → Int) (x:OfX) (hx:ofOk x):Con Try.prog ρ 58 (ofE x) (.int .i64 (ofK x.l x.t x.n)):=Con.lev fit (pls:=pls) (l:=[enRs,enPick]) ⟨enRs_ok ρ,enPick_ok ρ,trivial⟩ (.cons (nds_pure _) (.cons (.int _ _) (.cons (.int _ _) .nil))) (.int _ _) (by
 obtain ⟨l,t,n⟩:=x
 obtain ⟨hl,hpos⟩:=hx
 have hl1:=hl.1
 have hw:Plain (cfgN pls [enRs,enPick]) 58:=plainN (fun _=>rfl) rfl
 have hkeep:(cfgN pls [enRs,enPick]).keep 58=false:=rfl
 rw [ofE,ofK]
 simp only [] at hl hpos hl1 ⊢
 have hsl:=sortsI_len l l.length
 have krs:∀ H,WpCall Try.prog (cfgN pls [enRs,enPick]) 101 [lstN l] H fun v H'=>v=lstI (sortsI l l.length) ∧ H'=H:=fun H=>rs_en (fun _=>rfl) l hl H
 generalize sortsI l l.length=s at *
 refine WpCall.slim (M:=39) (rs:=[.tmp 6]) (hw.call _) hw.ice hw.froz Try.func58 rfl rfl code58.2 rfl ?_;dsimp only [code58,envOf,Nat.reduceAdd]
 repeat' (first
    | (apply Rx.nl ?_;clear hK K)|apply Rx.o ?_|(apply Rx.call ?_;first|refine Rx.k (krs _) ?_)|(apply Rx.cd (fun hb hbp=>?_) (fun hb hbp=>?_) <;> try (cases hb;done))|apply Wp.seq ?_|(apply Wp.ops' fun K hK=>?_)|apply Wp.block ?_|apply Rx.sk ?_|apply Rx.rt ?_|apply Rx.xt ?_)
 refine Wp.forI [0,1,2,6,7] [] 9 l.length (fun i E H=>∃ v,E.at 8=v ∧ IntN H v (allK s t i) 0) eE ⟨.nilS,eE,.inl ⟨rfl,rfl⟩⟩ ?_
 rintro i E H2 hi hcE hrH hnH hsI ⟨v,k8,hv⟩
 (try simp only [forall_cons,forall_nil,and_true,sB,sO,Nat.reduceBEq,Nat.reduceAdd,Nat.reduceLeDiff,tyF, *] at hcE)
 (try simp only [forall_cons,forall_nil,and_true,sB,sO,Nat.reduceBEq,Nat.reduceAdd,Nat.reduceLeDiff,tyF, *] at hrH)
 (try simp only [Hp.next_alloc,Hp.next_set,H0_next,Nat.zero_add,Nat.reduceAdd] at hnH)
 repeat' (first
    | (apply Rx.nl ?_;clear hK K)|apply Rx.o ?_|(apply Rx.cd (fun hb hbp=>?_) (fun hb hbp=>?_) <;> try (cases hb;done))|apply Wp.seq ?_|(apply Wp.ops' fun K hK=>?_)|apply Wp.block ?_|apply Rx.sk ?_|apply Rx.rt ?_|apply Rx.xt ?_)
 · have hlt : i < l.length := by simpa using hb
   have hgx:s[i]?=some (s.getD i 0):=by rw [List.getD_eq_getElem?_getD,List.getElem?_eq_getElem (by omega)];rfl
   have hst:allK s t (i + 1)=if s.getD i 0=t then allK s t i ++ [(i:Int)] else allK s t i:=rfl
   have hal:=allK_len s t i
   have hvb:IntN (H2.alloc (.cells [.int .i64 i] 0 true)) v (allK s t i) 0:=hv.keep (Nat.le_succ _) fun k hk=>by rw [Hp.get_alloc,if_neg (by have:=(hv.lt hk).2;omega)]
   obtain ⟨v5,H5,a5,s5,n5,f5,o5⟩:=appI_one (r:=H2.next) (imm:=0) (i:Int) hvb (Nat.zero_le _) (by rw [Hp.get_alloc,if_pos rfl]) (by omega)
   have n5':H2.next ≤ H5.next:=by simp only [Hp.next_alloc] at n5;omega
   clear n5 f5 o5 hvb hsl
   generalize s.getD i 0=x at *
   repeat' (first
      | (apply Rx.nl ?_;clear hK K)|apply Rx.o ?_|(apply Rx.cd (fun hb hbp=>?_) (fun hb hbp=>?_) <;> try (cases hb;done))|apply Wp.seq ?_|(apply Wp.ops' fun K hK=>?_)|apply Wp.block ?_|apply Rx.sk ?_|apply Rx.rt ?_|apply Rx.xt ?_)
   · refine ⟨by omega, eL, eL, eN, (by simp only [sB, Nat.reduceBEq, *]; exact i64_succ (n := l.length) (by omega) (by omega)), ?_⟩
     exact ⟨v5,eE,by rw [hst,if_pos (by assumption)];exact .inr s5⟩
   · refine ⟨by omega, eL, eL, eN, (by simp only [sB, Nat.reduceBEq, *]; exact i64_succ (n := l.length) (by omega) (by omega)), ?_⟩
     exact ⟨v,eE,by rw [hst,if_neg (by assumption)];exact hv⟩
 · have hie : i = l.length := by simp at hb; omega
   rw [hie] at hv
   have hal:=allK_len s t l.length
   generalize allK s t l.length=a at *
   rcases hv with ⟨_,rfl⟩|hv
   · simp at hpos
   obtain ⟨r,imm,rfl,hg,_⟩:=hv
   have hr:=pickG_range (n:=n) (m:=a.length) (by omega) (by omega)
   have hne:(a.length:Int) ≠ 0:=by omega
   obtain ⟨p,hp⟩:=Int.eq_ofNat_of_zero_le hr.1
   rw [hp] at hr
   have e1:IntKind.wrap .i64 ((a.length:Int) - 1)=((a.length - 1:Nat):Int):=by rw [i64_id (by omega) (by omega)];omega
   have e2:IntKind.wrap .i64 (((a.length - 1:Nat):Int) - p)=((a.length - 1 - p:Nat):Int):=by rw [i64_id (by omega) (by omega)];omega
   have hil:a.length - 1 - p < a.length:=by omega
   have hix:indexAddrA Try.prog 26 (.sl r 0 a.length 1) (.int .i64 ((a.length - 1 - p:Nat):Int))=some (.ptr r (a.length - 1 - p)):=by rw [index_sl Try.underlying26 sz3 hil];simp
   have hld:aload Try.prog H2 3 (.ptr r (a.length - 1 - p))=some (.int .i64 (a.getD (a.length - 1 - p) 0)):=by rw [load_one Try.underlying3 rfl hg,List.getElem?_map,List.getD_eq_getElem?_getD,List.getElem?_eq_getElem hil];rfl
   repeat' (first
      | (apply Rx.nl ?_;clear hK K)|apply Rx.o ?_|(apply Rx.call ?_;first|refine Rx.k (pick_en (fun _=>rfl) _ _ hne _) ?_)|(apply Rx.cd (fun hb hbp=>?_) (fun hb hbp=>?_) <;> try (cases hb;done))|apply Wp.seq ?_|(apply Wp.ops' fun K hK=>?_)|apply Wp.block ?_|apply Rx.sk ?_|apply Rx.rt ?_|apply Rx.xt ?_)
   all_goals (refine ⟨eI,_,eR,?_⟩;try simp only [oneOr])
   rw [hp,Int.toNat_natCast])
noncomputable def enOf:En:=⟨58,true,spP ofOk ofE fun x=>.int .i64 (ofK x.l x.t x.n)⟩
theorem enOf_ok (ρ:Nat → Int):EnOk Try.prog ρ enOf:=spP_ok fun x hx=>of_con ρ x hx
end Go.Proofs.Ytackdnelcpbfjaa
namespace Go.Proofs.Ytackdnelcpbfjaa
set_option maxRecDepth 20000
set_option maxRecDepth 20000
open Go Go.Ab
namespace tyG2
def tyF:=And.intro @tq3 (And.intro @tq26 (@tq80))
end tyG2
open tyG2
def RdW (S:Nat → Prop) (n:Nat) (H:Hp) (v w:AV):Prop:=∃ u,Ic S n H v u ∧ ∀ m,n ≤ m → wkN m u=w
def CellsW (S:Nat → Prop) (n:Nat) (H:Hp) (cs ws:List AV):Prop:=∃ us,All2 (Ic S n H) cs us ∧ ∀ m,n ≤ m → us.map (wkN m)=ws
theorem CellsW.frame {S S':Nat → Prop} (hS:∀ k,S k → S' k) {n:Nat} {H H':Hp} {v w:List AV} (h:CellsW S n H v w) (hn:H.next ≤ H'.next) (hf:∀ k,S k → k < H.next → SameB (H.get k) (H'.get k)):CellsW S' n H' v w:=by
 obtain ⟨u,h1,h2⟩:=h
 exact ⟨u,h1.mono fun a b k=>k.frame hS hn hf,h2⟩
theorem CellsW.keep {S S':Nat → Prop} (hS:∀ k,S k → S' k) {n:Nat} {H H':Hp} {v w:List AV} (h:CellsW S n H v w) (hn:H.next ≤ H'.next) (hf:∀ k,S k → k < H.next → H'.get k=H.get k):CellsW S' n H' v w:=h.frame hS hn fun k h1 h2=>.inl (hf k h1 h2).symm
theorem CellsW.nil {S:Nat → Prop} {n:Nat} {H:Hp}:CellsW S n H [] []:=⟨[],trivial,fun _ _=>rfl⟩
theorem CellsW.cons {S:Nat → Prop} {n:Nat} {H:Hp} {v w:AV} {cs ws:List AV} (h:RdW S n H v w) (k:CellsW S n H cs ws):CellsW S n H (v :: cs) (w :: ws):=by
 obtain ⟨u,h1,h2⟩:=h
 obtain ⟨us,h3,h4⟩:=k
 exact ⟨u :: us,⟨h1,h3⟩,fun m hm=>by rw [List.map_cons,h2 m hm,h4 m hm]⟩
theorem RdW.flat {S:Nat → Prop} {n:Nat} {H:Hp} {v:AV} (h:flatA v) (hk:∀ m,wkN m v=v):RdW S (n + 1) H v v:=⟨v,Ic.flat h,fun m _=>hk m⟩
theorem RdW.int {S:Nat → Prop} {n:Nat} {H:Hp} (k:IntKind) (x:Int):RdW S (n + 1) H (.int k x) (.int k x):=.flat ⟨.int _ _,trivial⟩ fun m=>by cases m <;> rfl
theorem RdW.nilS {S:Nat → Prop} {n:Nat} {H:Hp}:RdW S (n + 1) H .nilS (.lst []):=⟨.nilS,Ic.flat ⟨.nilS,trivial⟩,fun m hm=>by
 obtain ⟨m,rfl⟩:∃ k,m=k + 1:=⟨m - 1,by omega⟩
 rfl⟩
theorem RdW.lst0 {S:Nat → Prop} {n:Nat} {H:Hp}:RdW S (n + 1) H (.lst []) (.lst []):=.flat ⟨.lst (by simp),trivial⟩ fun m=>by cases m <;> rfl
def RowsW (S:Nat → Prop) (n:Nat) (H:Hp) (z:Nat):List (List AV) → List (List AV) → Prop:=All2 fun a b=>a.length=z ∧ CellsW S n H a b
theorem RowsW.two {S:Nat → Prop} {n z:Nat} {H:Hp}:∀ {a b:List (List AV)},RowsW S n H z a b → ∃ u,All2 (All2 (Ic S n H)) a u ∧ (∀ m,n ≤ m → u.map (List.map (wkN m))=b) ∧ ∀ x ∈ a,x.length=z
 | [],[],_=>⟨[],trivial,fun _ _=>rfl,by simp⟩
 | x :: a, y :: b, ⟨⟨hz, v, h1, h2⟩, h⟩ => by
   obtain ⟨u,h3,h4,h5⟩:=RowsW.two (a:=a) (b:=b) h
   exact ⟨v :: u,⟨h1,h3⟩,fun m hm=>by rw [List.map_cons,h2 m hm,h4 m hm],fun q hq=>by
     rcases List.mem_cons.1 hq with rfl|hq
     · exact hz
     · exact h5 q hq⟩
theorem RdW.rows {S:Nat → Prop} {n:Nat} {H:Hp} {r z imm:Nat} {tip:Bool} {a b:List (List AV)} (hS:S r) (hr:r < H.next) (hg:H.get r=some (.cells a.flatten imm tip)) (hi:imm ≤ a.flatten.length) (h:RowsW S n H z a b):RdW S (n + 1) H (.sl r 0 a.length z) (.lst b):=by
 obtain ⟨u,h1,h2,h3⟩:=RowsW.two h
 refine ⟨.lst u,Ic.rows hS hr hg hi h3 h1,fun m hm=>?_⟩
 obtain ⟨m,rfl⟩:∃ k,m=k + 1:=⟨m - 1,by omega⟩
 show AV.lst (u.map fun row=>row.map (wkN m))=_
 rw [← h2 m (by omega)]
theorem RowsW.frame {S S':Nat → Prop} (hS:∀ k,S k → S' k) {n z:Nat} {H H':Hp} {a b:List (List AV)} (h:RowsW S n H z a b) (hn:H.next ≤ H'.next) (hf:∀ k,S k → k < H.next → H'.get k=H.get k):RowsW S' n H' z a b:=All2.mono (fun x y k=>⟨k.1,k.2.keep hS hn hf⟩) h
def nextG:List Int → Int × List Int
 | []=>(0,[])
 | a :: l=>(a,l)
def SeedV (lo:Nat) (H:Hp) (r:Nat) (v:AV) (L:List Int):Prop:=(v=.lst [] ∧ L=[]) ∨ ∃ b off cs imm,v=.sl b off L.length 1 ∧ H.get b=some (.cells cs imm true) ∧ cs.drop off=L.map (fun n=>AV.int .i64 n) ∧ b ≠ r ∧ b < lo
def RdOk (lo:Nat) (H:Hp) (r:Nat) (L:List Int) (c:Int):Prop:=r < lo ∧ lo ≤ H.next ∧ ∃ v,H.get r=some (.cells [v,.int .i64 c] 0 true) ∧ SeedV lo H r v L
theorem RdOk.keep {lo:Nat} {H H':Hp} {r:Nat} {L:List Int} {c:Int} (h:RdOk lo H r L c) (hn:H.next ≤ H'.next) (hg:∀ k,k < lo → H'.get k=H.get k):RdOk lo H' r L c:=by
 obtain ⟨h0,h00,v,h1,h2⟩:=h
 refine ⟨h0,by omega,v,by rw [hg _ h0];exact h1,?_⟩
 rcases h2 with h2|⟨b,off,cs,imm,e1,e2,e3,e4,e5⟩
 · exact .inl h2
 · exact .inr ⟨b,off,cs,imm,e1,by rw [hg _ e5];exact e2,e3,e4,e5⟩
noncomputable def code31:{ c:SC // slim 25 (Try.f31.body.getD .skip)=c }:=by
 refine ⟨?_,?_⟩
 rotate_left
 · simp only [Try.f31, Option.getD_some, slim, slimR, slimL, slimD, slimG, Nat.blt, Nat.ble]
   rfl
theorem next_wp {cfg : Cfg} (hw : Plain cfg 31) {lo : Nat} {H : Hp} {r : Nat} {L : List Int} {c : Int} (h : RdOk lo H r L c) (hL : L.length < 2 ^ 60) :
    WpCall Try.prog cfg 31 [.ptr r 0] H fun v H'=>v=.int .i64 (nextG L).1 ∧ RdOk lo H' r (nextG L).2 c ∧ H'.next=H.next ∧ ∀ k,k ≠ r → H'.get k=H.get k:=by
  obtain ⟨h0,h00,v,h1,h2⟩:=h
  rcases h2 with ⟨rfl,rfl⟩|⟨b,off,cs,imm,rfl,e2,e3,e4,e5⟩
  · refine WpCall.slim (M := 25) (rs := [.tmp 2]) (hw.call _) hw.ice hw.froz Try.func31 rfl rfl code31.2 rfl ?_; dsimp only [code31, envOf, Nat.reduceAdd]
    repeat' (first
       | (apply Rx.nl ?_;clear hK K)|apply Rx.o ?_|(apply Rx.cd (fun hb hbp=>?_) (fun hb hbp=>?_) <;> try (cases hb;done))|apply Wp.seq ?_|(apply Wp.ops' fun K hK=>?_)|apply Rx.sk ?_|apply Rx.rt ?_)
    all_goals (refine ⟨eI,_,eR,?_⟩;try simp only [oneOr])
    exact ⟨by first|rfl|trivial,⟨h0,h00,_,h1,.inl ⟨rfl,rfl⟩⟩,by first|rfl|trivial,fun _ _=>by first|rfl|trivial⟩
  · cases L with
    | nil =>
      refine WpCall.slim (M:=25) (rs:=[.tmp 2]) (hw.call _) hw.ice hw.froz Try.func31 rfl rfl code31.2 rfl ?_;dsimp only [code31,envOf,Nat.reduceAdd]
      repeat' (first
         | (apply Rx.nl ?_;clear hK K)|apply Rx.o ?_|(apply Rx.cd (fun hb hbp=>?_) (fun hb hbp=>?_) <;> try (cases hb;done))|apply Wp.seq ?_|(apply Wp.ops' fun K hK=>?_)|apply Rx.sk ?_|apply Rx.rt ?_)
      all_goals (refine ⟨eI,_,eR,?_⟩;try simp only [oneOr])
      exact ⟨by first|rfl|trivial,⟨h0,h00,_,h1,.inr ⟨b,off,cs,imm,rfl,e2,e3,e4,e5⟩⟩,by first|rfl|trivial,fun _ _=>by first|rfl|trivial⟩
    | cons a L =>
      have hg:cs[off]?=some (.int .i64 a):=by
        have:=congrArg (fun l=>l[0]?) e3
        simpa using this
      have hd:cs.drop (off + 1)=L.map (fun n=>AV.int .i64 n):=by
        have:=congrArg (List.drop 1) e3
        rw [List.drop_drop] at this
        simpa using this
      have hpos:0 < L.length + 1:=by omega
      have hsl:sliceA Try.prog 26 (.sl b off (L.length + 1) 1) (some (.int .i64 1)) none=if L=[] then some (.lst []) else some (.sl b (off + 1) L.length 1):=by
        simp only [sliceA,Try.underlying26,sz3,boundA]
        by_cases hn:L=[]
        · subst hn;rfl
        · have : 0 < L.length := List.length_pos_iff.2 hn
          rw [if_neg hn,if_pos ⟨by omega,Nat.le_refl _,trivial⟩,if_neg (by omega)]
          rfl
      have hne:¬ (((L.length + 1:Nat):Int)=0):=by omega
      have hrb:(b == r)=false:=ne_beq e4
      refine WpCall.slim (M:=25) (rs:=[.tmp 2]) (hw.call _) hw.ice hw.froz Try.func31 rfl rfl code31.2 rfl ?_;dsimp only [code31,envOf,Nat.reduceAdd]
      by_cases hn:L=[]
      · subst hn
        have hsl':sliceA Try.prog 26 (.sl b off 1 1) (some (.int .i64 1)) none=some (.lst []):=hsl
        have hne':¬ (((1:Nat):Int)=0):=by decide
        have hp':0 < 1:=by decide
        clear hsl hne hpos
        repeat' (first
           | (apply Rx.nl ?_;clear hK K)|apply Ry.o ?_|apply Ry.on ?_|(apply Ry.cd (fun hb hbp=>?_) (fun hb hbp=>?_) <;> try (cases hb;done))|apply Wp.seq ?_|(apply Wp.ops' fun K hK=>?_)|apply Rx.sk ?_|apply Rx.rt ?_)
        all_goals (refine ⟨eI,_,eR,?_⟩;try simp only [oneOr])
        refine ⟨by first|rfl|trivial,⟨h0,h00,_,by rw [Hp.get_set,if_pos rfl],.inl ⟨rfl,rfl⟩⟩,by first|rfl|trivial,fun k hk=>by rw [Hp.get_set,if_neg hk]⟩
      · rw [if_neg hn] at hsl
        repeat' (first
           | (apply Rx.nl ?_;clear hK K)|apply Ry.o ?_|apply Ry.on ?_|(apply Ry.cd (fun hb hbp=>?_) (fun hb hbp=>?_) <;> try (cases hb;done))|apply Wp.seq ?_|(apply Wp.ops' fun K hK=>?_)|apply Rx.sk ?_|apply Rx.rt ?_)
        all_goals (refine ⟨eI,_,eR,?_⟩;try simp only [oneOr])
        refine ⟨by first|rfl|trivial,⟨h0,h00,_,by rw [Hp.get_set,if_pos rfl];rfl,.inr ⟨b,off + 1,cs,imm,rfl,by rw [Hp.get_set,if_neg e4];exact e2,hd,e4,e5⟩⟩,by first|rfl|trivial,fun k hk=>by rw [Hp.get_set,if_neg hk]⟩
end Go.Proofs.Ytackdnelcpbfjaa
namespace Go.Proofs.Ytackdnelcpbfjaa
set_option maxRecDepth 20000
open Go Go.Ab
theorem CellsW.keep2 {S S':Nat → Prop} {n:Nat} {H H':Hp} {v w:List AV} (h:CellsW S n H v w) (hS:∀ k,k < H.next → S k → S' k) (hn:H.next ≤ H'.next) (hf:∀ k,S k → k < H.next → H'.get k=H.get k):CellsW S' n H' v w:=by
 obtain ⟨u,h1,h2⟩:=h
 exact ⟨u,h1.mono fun a b k=>k.frame2 hS hn fun q h3 h4=>.inl (hf q h3 h4).symm,h2⟩
theorem RowsW.keep2 {S S':Nat → Prop} {n z:Nat} {H H':Hp} {a b:List (List AV)} (h:RowsW S n H z a b) (hS:∀ k,k < H.next → S k → S' k) (hn:H.next ≤ H'.next) (hf:∀ k,S k → k < H.next → H'.get k=H.get k):RowsW S' n H' z a b:=All2.mono (fun x y k=>⟨k.1,k.2.keep2 hS hn hf⟩) h
theorem RowsW.len {S:Nat → Prop} {n z:Nat} {H:Hp}:∀ {a b:List (List AV)},RowsW S n H z a b → ∀ x ∈ a,x.length=z
 | [],[],_,x,hx=>by simp at hx
 | y :: a, w :: b, h, x, hx => by
   rcases List.mem_cons.1 hx with rfl|hx
   · exact h.1.1
   · exact RowsW.len h.2 x hx
def RowOwn (S:Nat → Prop) (n:Nat) (H:Hp) (z:Nat) (v:AV) (ws:List (List AV)):Prop:=
 (v=.nilS ∧ ws=[]) ∨ ∃ q imm rows,v=.sl q 0 rows.length z ∧ S q ∧ q < H.next ∧ H.get q=some (.cells rows.flatten imm true) ∧ imm ≤ rows.flatten.length ∧ RowsW (fun k=>S k ∧ k ≠ q) n H z rows ws
theorem RowOwn.rd {S:Nat → Prop} {n:Nat} {H:Hp} {z:Nat} {v:AV} {ws:List (List AV)} (h:RowOwn S n H z v ws):RdW S (n + 1) H v (.lst ws):=by
 rcases h with ⟨rfl,rfl⟩|⟨q,imm,rows,rfl,h1,h2,h3,h4,h5⟩
 · exact .nilS
 · exact .rows h1 h2 h3 h4 (h5.frame (fun k hk=>hk.1) (Nat.le_refl _) fun _ _ _=>rfl)
theorem RowOwn.keep {S S':Nat → Prop} {n:Nat} {H H':Hp} {z:Nat} {v:AV} {ws:List (List AV)} (h:RowOwn S n H z v ws) (hS:∀ k,k < H.next → S k → S' k) (hn:H.next ≤ H'.next) (hf:∀ k,S k → k < H.next → H'.get k=H.get k):RowOwn S' n H' z v ws:=by
 rcases h with h|⟨q,imm,rows,e,h1,h2,h3,h4,h5⟩
 · exact .inl h
 · exact .inr ⟨q,imm,rows,e,hS q h2 h1,by omega,by rw [hf q h1 h2];exact h3,h4,h5.keep2 (fun k hk hq=>⟨hS k hk hq.1,hq.2⟩) hn fun k h6 h7=>hf k h6.1 h7⟩
theorem RowOwn.push {P : Program} {t e : TypeId} {z b : Nat} {zz : List AV} (ht : P.underlying t = some (.slice e)) (hs : sizeA P e = some z) (hb : bytesA P e = some b) (hz : zeroA P e = some zz) (hzz : zz.length = z) (hsrc : srcType P t = true)
    {lo n:Nat} {H:Hp} {v:AV} {ws:List (List AV)} (h:RowOwn (fun k=>lo ≤ k) n H z v ws) (hlo:lo ≤ H.next) {r imm:Nat} {row w:List AV} (hg:H.get r=some (.cells row imm true)) (hrow:row.length=z) (hone:row.all AV.one=true)
    (hw:CellsW (fun k=>lo ≤ k ∧ ∀ o m z',v ≠ .sl k o m z') n H row w) (hb1:(ws.length + 1) * b ≤ maxRoom) (hb2:ws.length + 1 ≤ maxRoom) :
    ∃ v' H',appendA P false H t t v (.sl r 0 1 z)=some (v',H') ∧ RowOwn (fun k=>lo ≤ k) n H' z v' (ws ++ [w]) ∧ H'.next=H.next + 1 ∧ (∀ k,k < H.next → (∀ o m z',v ≠ .sl k o m z') → H'.get k=H.get k) ∧ ∀ k o m z',v'=.sl k o m z' → k=H.next:=by
  have hx:srcCells H z (.sl r 0 1 z)=some (1,row):=by
    have:=src_sl (H:=H) (r:=r) (o:=0) (n:=1) (z:=z) (s:=z) hg (by rw [List.drop_zero,List.length_take];omega)
    rw [this,List.drop_zero,List.take_of_length_le (by omega)]
  rcases h with ⟨rfl,rfl⟩|⟨q,imm',rows,rfl,h1,h2,h3,h4,h5⟩
  · refine ⟨.sl H.next 0 1 z, H.alloc (.cells row 0 true), append_nil ht hs hb hz hsrc hx hone hzz (by simpa using hb1) (by simpa using hb2), .inr ⟨H.next, 0, [row], rfl, hlo, Nat.lt_succ_self _, by rw [Hp.get_alloc, if_pos rfl]; simp, by simp, ⟨⟨hrow, hw.keep2 (fun k h1 h2 => ⟨h2.1, by omega⟩) (Nat.le_succ _) fun k h1 h2 => by rw [Hp.get_alloc, if_neg (by omega)]⟩, trivial⟩⟩, rfl, fun k hk _ => by rw [Hp.get_alloc, if_neg (by omega)], fun k o m z' e => ?_⟩
    simp only [AV.sl.injEq] at e
    exact e.1.symm
  · have hrl := rows_len (RowsW.len h5)
    have hwl:rows.length=ws.length:=All2.len h5
    have htr:trimA false H z (.sl q 0 rows.length z)=H:=by
      unfold trimA
      simp only [h3,Nat.zero_add]
      have:Nat.blt (rows.length * z) rows.flatten.length=false:=by
        cases hb:Nat.blt (rows.length * z) rows.flatten.length with
        | false=>rfl
        | true=>rw [Nat.blt_eq] at hb;omega
      simp only [Bool.not_false,Bool.true_and,this,Bool.false_and]
    refine ⟨.sl H.next 0 (rows.length + 1) z,(H.kill q).alloc (.cells (rows.flatten ++ row) (imm' - 0) true),?_,.inr ⟨H.next,imm' - 0,rows ++ [row],by simp,hlo,Nat.lt_succ_self _,?_,by rw [List.flatten_append,List.length_append];omega,?_⟩,rfl,fun k hk hno=>?_,fun k o m z' e=>?_⟩
    · simp only [appendA, ht, hs, hb, hz, hsrc, hx, hone, htr, hzz, and_self, if_true, appendOnto, h3, Nat.zero_add, List.drop_zero, Bool.false_eq_true, if_false]
      rw [if_pos ⟨by rw [hwl];exact hb1,by rw [hwl];exact hb2,by omega,trivial,h4⟩]
    · show ((H.kill q).alloc _).get (H.kill q).next = _
      rw [Hp.get_alloc,if_pos rfl];simp
    · have hold : ∀ k, k < H.next → k ≠ q → ((H.kill q).alloc (.cells (rows.flatten ++ row) (imm' - 0) true)).get k = H.get k := fun k h6 h7 => by rw [Hp.get_alloc, if_neg (by simp only [Hp.next_kill]; omega), Hp.get_kill, if_neg h7]
      refine All2.append (h5.keep2 (fun k h6 h7=>⟨h7.1,by omega⟩) (Nat.le_succ _) fun k h6 h7=>hold k h7 h6.2) ⟨⟨hrow,hw.keep2 (fun k h6 h7=>⟨h7.1,by omega⟩) (Nat.le_succ _) fun k h6 h7=>hold k h7 fun e=>h6.2 0 rows.length z (by rw [e])⟩,trivial⟩
    · rw [Hp.get_alloc,if_neg (by simp only [Hp.next_kill];omega),Hp.get_kill,if_neg (fun e=>hno 0 rows.length z (by rw [e]))]
    · simp only [AV.sl.injEq] at e
      exact e.1.symm
end Go.Proofs.Ytackdnelcpbfjaa
namespace Go.Proofs.Ytackdnelcpbfjaa
set_option maxRecDepth 20000
open Go Go.Ab
theorem src_rows {z:Nat} {H:Hp} {rows:List (List AV)} (h:∀ r ∈ rows,r.length=z):srcCells H z (.lst rows)=some (rows.length,rows.flatten):=by
 simp only [srcCells]
 rw [if_pos (by rw [List.all_eq_true];intro r hr;simp [h r hr])]
theorem wk_int (m:Nat) (k:IntKind) (n:Int):wkN m (.int k n)=.int k n:=by cases m <;> rfl
theorem wk_rows {α:Type} {f:α → List AV} (h:∀ m x,(f x).map (wkN m)=f x) (l:List α) (m:Nat):wkN m (.lst (l.map f))=.lst (l.map f):=by
 cases m with
 | zero=>rfl
 | succ m =>
   simp only [wkN,List.map_map]
   have:(fun row=>List.map (wkN m) row) ∘ f=f:=funext fun y=>h m y
   rw [this]
theorem wk_ints (l:List Int) (m:Nat):wkN m (.lst (l.map fun n=>[AV.int .i64 n]))=.lst (l.map fun n=>[AV.int .i64 n]):=wk_rows (f:=fun n:Int=>[AV.int .i64 n]) (fun m x=>by simp only [List.map_cons,List.map_nil,wk_int]) l m
theorem RdW.agg {S:Nat → Prop} {n:Nat} {H:Hp} {cs ws:List AV} (h:CellsW S n H cs ws):RdW S (n + 1) H (.agg cs) (.agg ws):=by
 obtain ⟨us,h1,h2⟩:=h
 refine ⟨.agg us,⟨us,h1,rfl⟩,fun m hm=>?_⟩
 obtain ⟨m,rfl⟩:∃ k,m=k + 1:=⟨m - 1,by omega⟩
 show AV.agg (us.map (wkN m))=_
 rw [h2 m (by omega)]
theorem RdW.intsM {S:Nat → Prop} {n:Nat} {H:Hp} {q imm:Nat} {tip:Bool} (l:List Int) (hS:S q) (hq:q < H.next) (hg:H.get q=some (.cells (l.map fun n=>.int .i64 n) imm tip)) (hi:imm ≤ l.length):RdW S (n + 2) H (.sl q 0 l.length 1) (.lst (l.map fun n=>[.int .i64 n])):=by
 have hf:(l.map fun n=>[AV.int .i64 n]).flatten=l.map fun n=>AV.int .i64 n:=by
   clear hg hi
   induction l with
   | nil=>rfl
   | cons a l ih=>rw [List.map_cons,List.flatten_cons,ih];rfl
 have hr:∀ l:List Int,RowsW S (n + 1) H 1 (l.map fun n=>[AV.int .i64 n]) (l.map fun n=>[AV.int .i64 n]):=fun l=>by
   induction l with
   | nil=>trivial
   | cons a l ih=>exact ⟨⟨rfl,.cons (.int _ _) .nil⟩,ih⟩
 have:=RdW.rows (n:=n + 1) (a:=l.map fun n=>[AV.int .i64 n]) (imm:=imm) (tip:=tip) hS hq (by rw [hf];exact hg) (by rw [hf,List.length_map];exact hi) (hr l)
 rw [List.length_map] at this
 exact this
theorem con_of_wk2 {cfg:Cfg} (fit:Fit Try.prog) {ρ:Nat → Int} (hD:DecOk cfg.dec ρ) (hc:∀ f args r,cfg.call f args=some r → Con Try.prog ρ f args r) {g:FuncId} {args:List AV} {r:AV} {n:Nat}
   (hp:PureL args) (h:WpCall Try.prog cfg g args H0 fun v H'=>∃ m u,iceV H' m v=some u ∧ wkN n u=r):Con Try.prog ρ g args r:=by
 unfold WpCall at h
 obtain ⟨v,H',h1,m,u,h2,h3⟩:=h
 refine Con.wk' n (Con.of_made (m:=m) fit hD hc hp ?_) h3
 unfold WpCall
 exact ⟨v,H',h1,h2⟩
end Go.Proofs.Ytackdnelcpbfjaa
namespace Go.Proofs.Ytackdnelcpbfjaa
set_option maxRecDepth 20000
set_option maxRecDepth 20000
open Go Go.Ab
namespace tyMu1
def tyF:=And.intro @tq2 (And.intro @tq3 (And.intro @tq9 (And.intro @tq35 (And.intro @tq37 (And.intro @tq39 (@bin_quo))))))
end tyMu1
open tyMu1
theorem flat_drop {z:Nat}:∀ {rows:List (List AV)} {i:Nat} {r:List AV},(∀ x ∈ rows,x.length=z) → rows[i]?=some r → rows.flatten.drop (i * z)=r ++ (rows.drop (i + 1)).flatten
 | [],i,r,_,e=>by simp at e
 | a :: rows, 0, r, h, e => by
   simp only [List.getElem?_cons_zero,Option.some.injEq] at e
   subst e;simp
 | a :: rows, i + 1, r, h, e => by
   have ha:=h a List.mem_cons_self
   have ih:=flat_drop (rows:=rows) (i:=i) (r:=r) (fun x hx=>h x (List.mem_cons_of_mem _ hx)) (by simpa using e)
   have e1:(i + 1) * z=a.length + i * z:=by rw [Nat.succ_mul,ha];omega
   rw [List.flatten_cons,e1,List.drop_length_add_append,ih];rfl
theorem flat_splice {z:Nat} {w:List AV} (hw:w.length=z):∀ {rows:List (List AV)} {i:Nat},(∀ x ∈ rows,x.length=z) → i < rows.length → splice rows.flatten (i * z) w=(rows.set i w).flatten
 | [],i,_,e=>by simp at e
 | a :: rows, 0, h, e => by
   have ha:=h a List.mem_cons_self
   simp only [splice,Nat.zero_mul,List.take_zero,List.nil_append,Nat.zero_add,List.flatten_cons,List.set_cons_zero]
   rw [List.drop_append_of_le_length (by omega),List.drop_of_length_le (by omega),List.nil_append]
 | a :: rows, i + 1, h, e => by
   have ha:=h a List.mem_cons_self
   have ih:=flat_splice hw (rows:=rows) (i:=i) (fun x hx=>h x (List.mem_cons_of_mem _ hx)) (by simpa using e)
   simp only [splice,List.flatten_cons,List.set_cons_succ] at ih ⊢
   have e1:(i + 1) * z=a.length + i * z:=by rw [Nat.succ_mul,ha];omega
   rw [e1,List.take_length_add_append,Nat.add_assoc,List.drop_length_add_append,List.append_assoc,List.append_assoc]
   rw [List.append_assoc] at ih
   rw [ih]
theorem agg_row {z:Nat} {rows:List (List AV)} {i:Nat} {r:List AV} (h:∀ x ∈ rows,x.length=z) (e:rows[i]?=some r):aggA z (rows.flatten.drop (i * z))=some (.agg r):=by
 have hr:=h r (List.mem_of_getElem? e)
 rw [flat_drop h e]
 unfold aggA
 rw [List.take_append_of_le_length (by omega),List.take_of_length_le (by omega),if_pos hr]
theorem app_rows {P : Program} {t e : TypeId} {z b : Nat} {zz : List AV} (ht : P.underlying t = some (.slice e)) (hs : sizeA P e = some z) (hb : bytesA P e = some b) (hz : zeroA P e = some zz) (hzz : zz.length = z) (hsrc : srcType P t = true)
    {H:Hp} {q:Nat} (hg:H.get q=some (.cells [] 0 true)) (hq:q < H.next) {rows:List (List AV)} (hr:∀ x ∈ rows,x.length=z) (hone:rows.flatten.all AV.one=true) (hb1:rows.length * b ≤ maxRoom) (hb2:rows.length ≤ maxRoom) :
    ∃ q' H',appendA P false H t t (.sl q 0 0 z) (.lst rows)=some (.sl q' 0 rows.length z,H') ∧ H'.get q'=some (.cells rows.flatten 0 true) ∧ (q'=q ∨ q'=H.next) ∧ q' < H'.next ∧ H.next ≤ H'.next ∧ H'.next ≤ H.next + 1 ∧ ∀ k,k < H.next → k ≠ q → H'.get k=H.get k:=by
  have hx:srcCells H z (.lst rows)=some (rows.length,rows.flatten):=src_rows hr
  by_cases h0:rows=[]
  · subst h0
    refine ⟨q,H,?_,hg,.inl rfl,hq,Nat.le_refl _,Nat.le_succ _,fun _ _ _=>rfl⟩
    simp only [List.length_nil] at hx
    simp only [appendA,ht,hs,hb,hz,hsrc,hx,List.length_nil]
  · obtain ⟨m, hm⟩ : ∃ m, rows.length = m + 1 := ⟨rows.length - 1, by have := List.length_pos_iff.2 h0; omega⟩
    have htr:trimA false H z (.sl q 0 0 z)=H:=by
      unfold trimA
      simp only [hg]
      have:Nat.blt (0 + 0 * z) ([]:List AV).length=false:=by
        cases hb:Nat.blt (0 + 0 * z) ([]:List AV).length with
        | false=>rfl
        | true=>rw [Nat.blt_eq] at hb;simp at hb
      simp only [this,Bool.and_false,Bool.false_and]
    refine ⟨H.next,(H.kill q).alloc (.cells rows.flatten 0 true),?_,?_,.inr rfl,Nat.lt_succ_self _,Nat.le_succ _,Nat.le_refl _,fun k hk hno=>?_⟩
    · rw [hm] at hx hb1 hb2
      simp only [appendA,ht,hs,hb,hz,hsrc,hx,hone,htr,hzz,and_self,if_true,appendOnto,hg,Nat.zero_add,Nat.zero_mul,List.drop_nil,Bool.false_eq_true,if_false]
      rw [if_pos ⟨by simpa using hb1,by simpa using hb2,by simp,trivial,by simp⟩,hm]
      simp
    · show ((H.kill q).alloc _).get (H.kill q).next = _
      rw [Hp.get_alloc,if_pos rfl]
    · rw [Hp.get_alloc,if_neg (by simp only [Hp.next_kill];omega),Hp.get_kill,if_neg hno]
theorem astore_row {P:Program} {t z q i:Nat} {tip:Bool} {H:Hp} {rows:List (List AV)} {w:List AV} (hs:sizeA P t=some z) (hg:H.get q=some (.cells rows.flatten 0 tip)) (hz:∀ x ∈ rows,x.length=z) (hi:i < rows.length) (hw:w.length=z) (h1:w.all AV.one=true):astore P H t (.ptr q (i * z)) (.agg w)=some (H.set q (.cells (rows.set i w).flatten 0 tip)):=by
 have hl:=rows_len hz
 have hb:i * z + z ≤ rows.flatten.length:=by
   rw [hl]
   have:(i + 1) * z ≤ rows.length * z:=Nat.mul_le_mul_right z hi
   rw [Nat.succ_mul] at this;exact this
 simp only [astore,hg,hs]
 show (if w.length=z ∧ 0 ≤ i * z ∧ i * z + z ≤ rows.flatten.length ∧ w.all AV.one=true then some (H.set q (.cells (splice rows.flatten (i * z) w) 0 tip)) else none)=_
 rw [if_pos ⟨hw,Nat.zero_le _,hb,h1⟩,flat_splice hw hz hi]
end Go.Proofs.Ytackdnelcpbfjaa
namespace Go.Proofs.Ytackdnelcpbfjaa
set_option maxRecDepth 20000
set_option maxRecDepth 20000
open Go Go.Ab
namespace tyK6
def tyF:=And.intro @tq2 (And.intro @tq3 (And.intro @tq26 (And.intro @tq60 (And.intro @tq66 (And.intro @tq80 (And.intro @bin_quo (And.intro @bn3 (And.intro @xt0 (And.intro @xt1 (@bn1))))))))))
end tyK6
open tyK6
noncomputable def code23:{ c:SC // slim 147 (Try.f23.body.getD .skip)=c }:=by
 refine ⟨?_,?_⟩
 rotate_left
 · simp only [Try.f23, Option.getD_some, slim, slimR, slimL, slimD, slimG, Nat.blt, Nat.ble]
   rfl
theorem Wp.join2 {P:Program} {cfg:Cfg} {f N:Nat} {a:SC} {E:Env} {H:Hp} {Q:AX → Env → Hp → Prop} (F:Env → Hp → Prop) (h1:Wp P cfg f N a E H fun x E' H'=>x=.normal ∧ F E' H') (h2:∀ E' H',F E' H' → Q .normal E' H'):Wp P cfg f N a E H Q:=
 Wp.mono (fun x E' H' h=>by obtain ⟨rfl,h⟩:=h;exact h2 E' H' h) h1
theorem bNd (a:Int):buildA Try.prog 66 [(0,.int .i64 a)]=some (.agg [.int .i64 a,.int .i64 0,.nilS]):=by kernel_rfl
theorem bNd2 (a b:Int):buildA Try.prog 66 [(0,.int .i64 a),(1,.int .i64 b)]=some (.agg [.int .i64 a,.int .i64 b,.nilS]):=by kernel_rfl
theorem bsN3 (H:Hp):buildSliceA Try.prog H 60 3 [(0,.agg [.int .i64 2,.int .i64 0,.nilS]),(1,.agg [.int .i64 2,.int .i64 1,.nilS]),(2,.agg [.int .i64 26,.int .i64 0,.nilS])]=some (.sl H.next 0 3 3,H.alloc (.cells [.int .i64 2,.int .i64 0,.nilS,.int .i64 2,.int .i64 1,.nilS,.int .i64 26,.int .i64 0,.nilS] 0 true)):=by kernel_rfl
theorem len3g {α:Type} {s:List α} (h:s.length=3):∃ a b c,s=[a,b,c]:=by
 match s,h with
 | [a,b,c],_=>exact ⟨a,b,c,rfl⟩
theorem bsN1 (H:Hp) {cs:List AV} (hl:cs.length=3) (ho:cs.all AV.one=true):buildSliceA Try.prog H 60 1 [(0,.agg cs)]=some (.sl H.next 0 1 3,H.alloc (.cells cs 0 true)):=by
 obtain ⟨a,b,c,rfl⟩:=len3g hl
 kernel_rfl
theorem agN (a b c:AV):aggA 3 [a,b,c]=some (.agg [a,b,c]):=rfl
theorem bRd (q n:Nat):buildA Try.prog 80 [(0,.sl q 0 n 1)]=some (.agg [.sl q 0 n 1,.int .i64 0]):=by kernel_rfl
theorem bsOp (H:Hp):buildSliceA Try.prog H 26 5 [(0,.int .i64 23),(1,.int .i64 27),(2,.int .i64 28),(3,.int .i64 29),(4,.int .i64 24)]=some (.sl H.next 0 5 1,H.alloc (.cells [.int .i64 23,.int .i64 27,.int .i64 28,.int .i64 29,.int .i64 24] 0 true)):=by kernel_rfl
theorem RowsW.icyB {S:Nat → Prop} {n z:Nat} {H H':Hp} {a b:List (List AV)} (h:RowsW S n H z a b) (hn:H.next ≤ H'.next) (hf:∀ k,S k → k < H.next → SameB (H.get k) (H'.get k)):RowsW S n H' z a b:=All2.mono (fun x y k=>⟨k.1,k.2.frame (fun _ q=>q) hn hf⟩) h
theorem RowOwn.icyB {S:Nat → Prop} {n:Nat} {H H':Hp} {z:Nat} {v:AV} {ws:List (List AV)} (h:RowOwn S n H z v ws) (hn:H.next ≤ H'.next) (hf:∀ k,S k → k < H.next → SameB (H.get k) (H'.get k)):RowOwn S n H' z v ws:=by
 rcases h with h|⟨q,imm,rows,e,h1,h2,h3,h4,h5⟩
 · exact .inl h
 · have h5' := h5.icyB hn fun k hk hl => hf k hk.1 hl
   rcases hf q h1 h2 with e1|⟨cs,i,j,tip,e1,e2,e3⟩
   · exact .inr ⟨q,imm,rows,e,h1,by omega,by rw [← e1];exact h3,h4,h5'⟩
   · rw [h3] at e1
     simp only [Option.some.injEq,HB.cells.injEq] at e1
     obtain ⟨rfl,rfl,rfl⟩:=e1
     exact .inr ⟨q,j,rows,e,h1,by omega,e2,e3 h4,h5'⟩
theorem ofE_ns (y:OfX):(ofE y).any (hasSl 90)=false:=by obtain ⟨l,t,n⟩:=y;rfl
theorem coE_ns (y:List Nd × Nd):(coE y).any (hasSl 90)=false:=by obtain ⟨l,⟨a,b,c⟩⟩:=y;rfl
theorem of_M {tb:List En} (ht:∀ ar,lookN tb 58 ar=(enW enOf).sp ar) (hi:iceN tb 58=true) {S:Nat → Prop} {n:Nat} {H:Hp} {v:AV} {l:List Nd} (hn:n < 58) (hv:RowOwn S n H 3 v (l.map Nd.cells)) (t m:Int) (hok:ofOk ⟨l,t,m⟩) :
   WpCall Try.prog (cfgN pls tb) 58 [v,.int .i64 t,.int .i64 m] H fun w H'=>w=.int .i64 (ofK l t m) ∧ Icy S H H':=by
 obtain ⟨us,h1,h2⟩:CellsW S (n + 1) H [v,.int .i64 t,.int .i64 m] (ofE ⟨l,t,m⟩):=.cons hv.rd (.cons (.int _ _) (.cons (.int _ _) .nil))
 exact WpCall.enX (x:=(⟨l,t,m⟩:OfX)) (enc:=ofE) (ok:=ofOk) (out:=fun x=>.int .i64 (ofK x.l x.t x.n)) ofE_inj (fun ar=>by rw [ht];rfl) hi ofE_ns hok (by omega) h1 (h2 60 (by omega))
theorem co_M {tb:List En} (ht:∀ ar,lookN tb 60 ar=(enW enCo).sp ar) (hi:iceN tb 60=true) {S:Nat → Prop} {n:Nat} {H:Hp} {v:AV} {l:List Nd} {cs:List AV} {x:Nd} (hn:n < 57) (hv:RowOwn S n H 3 v (l.map Nd.cells)) (hc:CellsW S n H cs x.cells) (hok:NdsOk l) :
   WpCall Try.prog (cfgN pls tb) 60 [v,.agg cs] H fun w H'=>w=.bool (hasK l x) ∧ Icy S H H':=by
 obtain ⟨us,h1,h2⟩:CellsW S (n + 1) H [v,.agg cs] (coE (l,x)):=.cons hv.rd (.cons (.agg hc) .nil)
 exact WpCall.enX (x:=((l,x):List Nd × Nd)) (enc:=coE) (ok:=fun x=>NdsOk x.1) (out:=fun x=>.bool (hasK x.1 x.2)) coE_inj (fun ar=>by rw [ht];rfl) hi coE_ns hok (by omega) h1 (h2 60 (by omega))
theorem nd_nil {S:Nat → Prop} {H:Hp} (op imm:Int):CellsW S 2 H [.int .i64 op,.int .i64 imm,.nilS] (Nd.mk op imm []).cells:=.cons (.int _ _) (.cons (.int _ _) (.cons .nilS .nil))
theorem nd_cells {S:Nat → Prop} {H:Hp} {kv:AV} {kids:List Int} {lo:Nat} (op imm:Int) (hk:IntN H kv kids lo) (hS:∀ k,lo ≤ k → S k):CellsW S 2 H [.int .i64 op,.int .i64 imm,kv] (Nd.mk op imm kids).cells:=by
 refine .cons (.int _ _) (.cons (.int _ _) (.cons ?_ .nil))
 rcases hk with ⟨rfl,rfl⟩|⟨r,i,rfl,h2,h3,h4,h5⟩
 · exact .nilS
 · exact RdW.intsM kids (hS r h4) h5 h2 h3
theorem RdOk.icy {S:Nat → Prop} {lo:Nat} {H H':Hp} {r:Nat} {L:List Int} {c:Int} (h:RdOk lo H r L c) (hI:Icy S H H') (hr:¬ S r):RdOk lo H' r L c:=by
 obtain ⟨h0,h00,v,h1,h2⟩:=h
 refine ⟨h0,by rw [hI.next];exact h00,v,by rw [hI.out r hr];exact h1,?_⟩
 rcases h2 with h2|⟨b,off,cs,imm,e1,e2,e3,e4,e5⟩
 · exact .inl h2
 · rcases hI.same b with e | ⟨cs', i, j, tip, f1, f2, f3⟩
   · exact .inr ⟨b,off,cs,imm,e1,by rw [← e];exact e2,e3,e4,e5⟩
   · rw [e2] at f1
     simp only [Option.some.injEq,HB.cells.injEq] at f1
     obtain ⟨rfl,rfl,rfl⟩:=f1
     exact .inr ⟨b,off,cs,j,e1,f2,e3,e4,e5⟩
noncomputable def levN:List En:=[enPick,enWord,enRa,enOs,enW enOf,enW enCo]
theorem levN_ok (ρ:Nat → Int):EnsOk Try.prog ρ levN:=⟨enPick_ok ρ,enWord_ok ρ,enRa_ok ρ,enOs_ok ρ,enW_ok (enOf_ok ρ),enW_ok (enCo_ok ρ),trivial⟩
def cntK (l:List Int):Nat:=min l.length 14
theorem nodesK_ok (l:List Int) (values:Bool) {i:Nat} (hi:i ≤ 14):NdsOk (nodesK l values i):=by
 refine ⟨?_,fun n hn=>?_⟩
 · have:=nodesK_len l values i;omega
 · have:=nodesK_kids l values i n hn;omega
def opN (n:Int):Int:=if pickG n 11=0 then 1 else opK false n
def immN (n:Int):Int:=if pickG n 11=0 then wordG (w64 (n.tdiv 11)) n else 0
theorem opN_ar (n:Int):0 ≤ (arI (opN n)).1 ∧ (arI (opN n)).1 ≤ 3:=by
 have h9:=pickG_range (n:=w64 (n.tdiv 9)) (m:=5) (by omega) (by omega)
 have h19:=pickG_range (n:=n) (m:=19) (by omega) (by omega)
 refine ⟨?_,arI_le _⟩
 unfold opN
 split
 · decide
 · unfold opK
   split
   · obtain ⟨p, hp⟩ := Int.eq_ofNat_of_zero_le h9.1
     rw [hp,Int.toNat_natCast]
     have hp5:p < 5:=by omega
     match p,hp5 with
     | 0,_=>decide
     | 1,_=>decide
     | 2,_=>decide
     | 3,_=>decide
     | 4,_=>decide
   · exact ar_nn (by omega) (by omega)
structure StN (l:List Int) (i:Nat) (v:AV) (H2:Hp) (op imm:Int) (kv:AV) (L:List Int) (E:Env) (H:Hp):Prop where
 k0:E.at 0=lstI l
 k1:E.at 1=.bool false
 k4:E.at 4=.nilS
 k5:E.at 5=v
 k6:E.at 6=.int .i64 i
 k7:E.at 7=.ptr (H2.next + 1) 0
 k8:E.at 8=.ptr (H2.next + 2) 0
 rd:RdOk (H2.next + 2) H (H2.next + 1) L 0
 gn:H.get (H2.next + 2)=some (.cells [.int .i64 op,.int .i64 imm,kv] 0 true)
 old:∀ k,k < H2.next → SameB (H2.get k) (H.get k)
 nx:H2.next + 3 ≤ H.next
theorem op5 {p:Nat} (h:p < 5):([.int .i64 23,.int .i64 27,.int .i64 28,.int .i64 29,.int .i64 24]:List AV)[p]?=some (.int .i64 ([23,27,28,29,24].getD p 0)):=by
 match p,h with
 | 0,_=>rfl
 | 1,_=>rfl
 | 2,_=>rfl
 | 3,_=>rfl
 | 4,_=>rfl
set_option maxRecDepth 100000 in
theorem nodes_con (ρ : Nat → Int) (l : List Int) (hl : l.length < 2 ^ 63) : Con Try.prog ρ 23 [lstI l, .bool false] (lstN (nodesL l false)) := con_of_wk2 (n := 60) (cfg := cfgN pls levN) fit (noDec ρ) (EnsOk.look (levN_ok ρ)) (.cons (ints_pure _) (.cons (.bool _) .nil)) (by
  have hw:Plain (cfgN pls levN) 23:=plainN (fun _=>rfl) rfl
  have hkeep:(cfgN pls levN).keep 23=false:=rfl
  have hc1:cntK l ≤ l.length:=Nat.min_le_left _ _
  have hc2:cntK l ≤ 14:=Nat.min_le_right _ _
  have hc3:cntK l=l.length ∨ cntK l=14:=by unfold cntK;omega
  have hnl:nodesL l false=nodesK l false (cntK l):=rfl
  generalize cntK l=cnt at *
  have q7:(7:Int) ≠ 0:=by decide
  have q101:(101:Int) ≠ 0:=by decide
  have q1009:(1009:Int) ≠ 0:=by decide
  have q9:(9:Int) ≠ 0:=by decide
  have q11:(11:Int) ≠ 0:=by decide
  have q5:(5:Int) ≠ 0:=by decide
  refine WpCall.slim (M:=147) (rs:=[.tmp 4]) (hw.call _) hw.ice hw.froz Try.func23 rfl rfl code23.2 rfl ?_;dsimp only [code23,envOf,Nat.reduceAdd]
  have gh0:=@bNd
  have gh1:=@bNd2
  have gh2:=@bsN3
  repeat' (first
     | (apply Rx.nl ?_;clear hK K)|apply Rx.o ?_|apply Rx.on ?_|(apply Rx.gd (fun hg hgp=>?_) (fun hg hgp=>?_) <;> try (cases hg;done))|(apply Rx.cd (fun hb hbp=>?_) (fun hb hbp=>?_) <;> try (cases hb;done))|apply Wp.seq ?_|(apply Wp.ops' fun K hK=>?_)|(apply Rx.dT 5 [(3,19),(8,19),(13,19),(15,19),(17,19)] fun K hK=>?_)|(apply Rx.dT 10 [(3,9),(8,9)] fun K hK=>?_)|(apply Rx.dT 15 [(1,6),(1,8),(1,9),(1,11),(4,6),(10,11)] fun K hK=>?_)|(apply Rx.nq ?_;try intro _)|(apply Rx.nt ?_ ?_ <;> clear hK K)|apply WpT.step ?_|apply WpT.step0 rfl ?_|apply Wp.block ?_|apply Rx.sk ?_|apply Rx.rt ?_|apply Rx.xt ?_)
  refine Wp.forI [0,1,4] [] 6 cnt (fun i E H=>∃ v,E.at 5=v ∧ RowOwn (fun _=>True) 2 H 3 v ((nodesK l false i).map Nd.cells)) eE ⟨.sl 0 0 3 3,eE,.inr ⟨0,0,[[.int .i64 2,.int .i64 0,.nilS],[.int .i64 2,.int .i64 1,.nilS],[.int .i64 26,.int .i64 0,.nilS]],rfl,trivial,by rw [Hp.next_alloc];omega,by rw [Hp.get_alloc,if_pos (by rfl)];rfl,Nat.zero_le _,⟨rfl,nd_nil 2 0⟩,⟨rfl,nd_nil 2 1⟩,⟨rfl,nd_nil 26 0⟩,trivial⟩⟩ ?_
  rintro i E H2 hi hcE hrH hnH hsI ⟨v,k5,hv⟩
  (try simp only [forall_cons,forall_nil,and_true,sB,sO,Nat.reduceBEq,Nat.reduceAdd,Nat.reduceLeDiff,tyF, *] at hcE)
  (try simp only [forall_cons,forall_nil,and_true,sB,sO,Nat.reduceBEq,Nat.reduceAdd,Nat.reduceLeDiff,tyF, *] at hrH)
  (try simp only [Hp.next_alloc,Hp.next_set,H0_next,Nat.zero_add,Nat.reduceAdd] at hnH)
  by_cases hic:i < cnt
  · have hi1 : (i : Int) < l.length := by omega
    have hi2:(i:Int) < 14:=by omega
    have hgx:l[i]?=some (l.getD i 0):=by rw [List.getD_eq_getElem?_getD,List.getElem?_eq_getElem (by omega)];rfl
    have hns:nodesK l false (i + 1)=addK (nodesK l false i) (nodeK (nodesK l false i) false (l.getD i 0)):=rfl
    have hno:=nodesK_ok l false (i:=i) (by omega)
    have hnb:=nodesK_base l false i
    have hnlen:=nodesK_len l false i
    have hvL:∀ H:Hp,(∀ k,k < H2.next → SameB (H2.get k) (H.get k)) → H2.next ≤ H.next → RowOwn (fun k=>k < H2.next) 2 H 3 v ((nodesK l false i).map Nd.cells):=fun H h1 h2=>(hv.keep (S':=fun k=>k < H2.next) (fun k hk _=>hk) (Nat.le_refl _) fun _ _ _=>rfl).icyB h2 fun k hk _=>h1 k hk
    have hvq:∀ k o m z',v=.sl k o m z' → k < H2.next:=fun k o m z' e=>by
      rcases hv with ⟨rfl,_⟩|⟨q,imm,rows,rfl,e1,e2,_⟩
      · cases e
      · simp only [AV.sl.injEq] at e
        rw [← e.1];exact e2
    generalize l.getD i 0=n at *
    repeat' (first
       | (apply Rx.nl ?_;clear hK K)|apply Ry.o ?_|apply Ry.on ?_|(apply Ry.gd (fun hg hgp=>?_) (fun hg hgp=>?_) <;> try (cases hg;done))|apply Wp.seq ?_|(apply Wp.ops' fun K hK=>?_)|(apply Rx.dT 5 [(3,19),(8,19),(13,19),(15,19),(17,19)] fun K hK=>?_)|(apply Rx.dT 10 [(3,9),(8,9)] fun K hK=>?_)|(apply Rx.dT 15 [(1,6),(1,8),(1,9),(1,11),(4,6),(10,11)] fun K hK=>?_)|(apply Rx.nq ?_;try intro _)|(apply Rx.nt ?_ ?_ <;> clear hK K)|apply WpT.step ?_|apply WpT.step0 rfl ?_|apply Wp.block ?_|apply Rx.sk ?_|apply Rx.rt ?_|apply Rx.xt ?_)
    (apply Rx.cd (fun hb hbp=>?_) (fun hb hbp=>?_) <;> try (cases hb;done))
    have gh0:=@bRd
    have gh1:=@bNd
    repeat' (first
       | (apply Rx.nl ?_;clear hK K)|apply Ry.o ?_|apply Ry.on ?_|(apply Ry.call ?_;first|refine Rx.k (pick_en (fun _=>rfl) _ _ (by decide) _) ?_)|(apply Ry.gd (fun hg hgp=>?_) (fun hg hgp=>?_) <;> try (cases hg;done))|apply Wp.seq ?_|(apply Wp.ops' fun K hK=>?_)|(apply Rx.dT 5 [(3,19),(8,19),(13,19),(15,19),(17,19)] fun K hK=>?_)|(apply Rx.dT 10 [(3,9),(8,9)] fun K hK=>?_)|(apply Rx.dT 15 [(1,6),(1,8),(1,9),(1,11),(4,6),(10,11)] fun K hK=>?_)|(apply Rx.nq ?_;try intro _)|(apply Rx.nt ?_ ?_ <;> clear hK K)|apply WpT.step ?_|apply WpT.step0 rfl ?_|apply Wp.block ?_|apply Rx.sk ?_|apply Rx.rt ?_|apply Rx.xt ?_)
    · exact eK
    generalize hHb:Hp.set (Hp.alloc (Hp.alloc (Hp.alloc H2 _) _) _) _ _=Hb
    have nb:Hb.next=H2.next + 3:=by rw [← hHb];rfl
    have gb0:Hb.get H2.next=some (.cells [.int .i64 (seedK n 0),.int .i64 (seedK n 1),.int .i64 (seedK n 2)] 0 true):=by
      rw [← hHb,Hp.get_set,if_neg (by (try simp only [Hp.next_alloc]);omega),Hp.get_alloc,if_neg (by (try simp only [Hp.next_alloc]);omega),Hp.get_alloc,if_neg (by (try simp only [Hp.next_alloc]);omega),Hp.get_alloc,if_pos rfl];rfl
    have gb1:Hb.get (H2.next + 1)=some (.cells [.sl H2.next 0 3 1,.int .i64 0] 0 true):=by rw [← hHb];simp [Hp.get_set,Hp.get_alloc,Hp.next_alloc]
    have hrng:=pickG_range (n:=n) (m:=19) (by omega) (by omega)
    have gb2:Hb.get (H2.next + 2)=some (.cells [.int .i64 (4 + pickG n 19),.int .i64 0,.nilS] 0 true):=by
      rw [← hHb];simp [Hp.get_set,Hp.get_alloc,Hp.next_alloc]
      exact i64_id (by omega) (by omega)
    have ob:∀ k,k < H2.next → Hb.get k=H2.get k:=fun k hk=>by rw [← hHb,Hp.get_set,if_neg (by (try simp only [Hp.next_alloc]);omega),Hp.get_alloc,if_neg (by (try simp only [Hp.next_alloc]);omega),Hp.get_alloc,if_neg (by (try simp only [Hp.next_alloc]);omega),Hp.get_alloc,if_neg (by omega)]
    have hrd0:RdOk (H2.next + 2) Hb (H2.next + 1) [seedK n 0,seedK n 1,seedK n 2] 0:=⟨by omega,by omega,_,gb1,.inr ⟨H2.next,0,_,0,rfl,gb0,rfl,by omega,by omega⟩⟩
    clear hHb gb0 gb1
    refine Wp.join2 (fun E' H'=>StN l i v H2 (opK false n) 0 .nilS [seedK n 0,seedK n 1,seedK n 2] E' H') ?_ ?_
    · have hr5 := pickG_range (n := w64 (n.tdiv 9)) (m := 5) (by omega) (by omega)
      obtain ⟨p,hp⟩:=Int.eq_ofNat_of_zero_le hr5.1
      have hp5:p < 5:=by omega
      have hg5:=op5 hp5
      have hp':pickG (IntKind.wrap .i64 (n.tdiv 9)) 5=p:=hp
      have gh0:=@bsOp
      repeat' (first
         | (apply Rx.nl ?_;clear hK K)|apply Ry.o ?_|apply Ry.on ?_|(apply Ry.call ?_;first|refine Rx.k (pick_en (fun _=>rfl) _ _ (by decide) _) ?_)|(apply Ry.gd (fun hg hgp=>?_) (fun hg hgp=>?_) <;> try (cases hg;done))|(apply Ry.cd (fun hb hbp=>?_) (fun hb hbp=>?_) <;> try (cases hb;done))|apply Wp.seq ?_|(apply Wp.ops' fun K hK=>?_)|(apply Rx.dT 5 [(3,19),(8,19),(13,19),(15,19),(17,19)] fun K hK=>?_)|(apply Rx.dT 10 [(3,9),(8,9)] fun K hK=>?_)|(apply Rx.dT 15 [(1,6),(1,8),(1,9),(1,11),(4,6),(10,11)] fun K hK=>?_)|(apply Rx.nq ?_;try intro _)|(apply Rx.nt ?_ ?_ <;> clear hK K)|apply WpT.step ?_|apply WpT.step0 rfl ?_|apply Wp.block ?_|apply Rx.sk ?_|apply Rx.rt ?_|apply Rx.xt ?_)
      · have hop : opK false n = [23, 27, 28, 29, 24].getD p 0 := by rw [opK, if_pos ⟨rfl, by assumption⟩, hp, Int.toNat_natCast]
        refine ⟨rfl,eE,eE,eE,eE,eE,eE,eE,?_,?_,?_,?_⟩
        · exact hrd0.keep (by simp only [Hp.next_set,Hp.next_alloc];omega) fun k hk=>by rw [Hp.get_set,if_neg (by omega),Hp.get_alloc,if_neg (by omega)]
        · rw [Hp.get_set,if_pos rfl,hop]
        · intro k hk;rw [Hp.get_set,if_neg (by omega),Hp.get_alloc,if_neg (by omega),ob k hk];exact .refl _
        · simp only [Hp.next_set,Hp.next_alloc];omega
      · have hop : opK false n = 4 + pickG n 19 := by rw [opK, if_neg (fun h => by have := h.2; omega)]
        exact ⟨rfl,eE,eE,eE,eE,eE,eE,eE,hrd0,by rw [hop];exact gb2,fun k hk=>by rw [ob k hk];exact .refl _,by omega⟩
    clear hrd0 gb2 ob nb hrng
    rintro E3 H3 ⟨k0,k1,k4,k5,k6,k7,k8,rd,gn,old,nx⟩
    dsimp only [thenQ]
    repeat' (first
       | (apply Rx.nl ?_;clear hK K)|apply Ry.o ?_|apply Ry.on ?_|(apply Ry.call ?_;first|refine Rx.k (pick_en (fun _=>rfl) _ _ (by decide) _) ?_)|(apply Ry.gd (fun hg hgp=>?_) (fun hg hgp=>?_) <;> try (cases hg;done))|apply Wp.seq ?_|(apply Wp.ops' fun K hK=>?_)|(apply Rx.dT 5 [(3,19),(8,19),(13,19),(15,19),(17,19)] fun K hK=>?_)|(apply Rx.dT 10 [(3,9),(8,9)] fun K hK=>?_)|(apply Rx.dT 15 [(1,6),(1,8),(1,9),(1,11),(4,6),(10,11)] fun K hK=>?_)|(apply Rx.nq ?_;try intro _)|(apply Rx.nt ?_ ?_ <;> clear hK K)|apply WpT.step ?_|apply WpT.step0 rfl ?_|apply Wp.block ?_|apply Rx.sk ?_|apply Rx.rt ?_|apply Rx.xt ?_)
    refine Wp.join2 (fun E' H'=>StN l i v H2 (opN n) (immN n) .nilS [seedK n 0,seedK n 1,seedK n 2] E' H') ?_ ?_
    · have gh0 := @bNd2
      repeat' (first
         | (apply Rx.nl ?_;clear hK K)|apply Ry.o ?_|apply Ry.on ?_|(apply Ry.call ?_;first|refine Rx.k (word_en (fun _=>rfl) _ _ _) ?_)|(apply Ry.gd (fun hg hgp=>?_) (fun hg hgp=>?_) <;> try (cases hg;done))|(apply Ry.cd (fun hb hbp=>?_) (fun hb hbp=>?_) <;> try (cases hb;done))|apply Wp.seq ?_|(apply Wp.ops' fun K hK=>?_)|(apply Rx.dT 5 [(3,19),(8,19),(13,19),(15,19),(17,19)] fun K hK=>?_)|(apply Rx.dT 10 [(3,9),(8,9)] fun K hK=>?_)|(apply Rx.dT 15 [(1,6),(1,8),(1,9),(1,11),(4,6),(10,11)] fun K hK=>?_)|(apply Rx.nq ?_;try intro _)|(apply Rx.nt ?_ ?_ <;> clear hK K)|apply WpT.step ?_|apply WpT.step0 rfl ?_|apply Wp.block ?_|apply Rx.sk ?_|apply Rx.rt ?_|apply Rx.xt ?_)
      · exact eK
      · have h1 : opN n = 1 := by rw [opN, if_pos (by assumption)]
        have h2:immN n=wordG (w64 (n.tdiv 11)) n:=by rw [immN,if_pos (by assumption)]
        refine ⟨rfl,eE,eE,eE,eE,eE,eE,eE,?_,?_,?_,?_⟩
        · exact rd.keep (Nat.le_refl _) fun k hk=>by rw [Hp.get_set,if_neg (by omega)]
        · rw [Hp.get_set,if_pos rfl,h1,h2]
        · intro k hk;rw [Hp.get_set,if_neg (by omega)];exact old k hk
        · exact nx
      · have h1 : opN n = opK false n := by rw [opN, if_neg (by assumption)]
        have h2:immN n=0:=by rw [immN,if_neg (by assumption)]
        exact ⟨rfl,eE,eE,eE,eE,eE,eE,eE,rd,by rw [h1,h2];exact gn,old,nx⟩
    clear rd gn old nx k0 k1 k4 k5 k6 k7 k8 E3 H3
    rintro E3 H3 ⟨k0,k1,k4,k5,k6,k7,k8,rd,gn,old,nx⟩
    dsimp only [thenQ]
    have har:=opN_ar n
    have hnode:nodeK (nodesK l false i) false n=⟨opN n,if opN n=27 then 1 + pickG (w64 (n.tdiv 5)) 2 else if opN n=23 ∨ opN n=28 then pickG (w64 (n.tdiv 5)) 2 else immN n,kidsK (nodesK l false i) (opN n) n (arI (opN n)).1.toNat⟩:=by
      unfold nodeK opN immN immK
      split <;> rfl
    generalize opN n=op at *
    obtain ⟨c,hca⟩:=Int.eq_ofNat_of_zero_le har.1
    have hc3':c ≤ 3:=by omega
    rw [hca,Int.toNat_natCast] at hnode
    have hav:arV op=.tup [.int .i64 c,.bool (arI op).2]:=by rw [arV,hca]
    clear har
    repeat' (first
       | (apply Rx.nl ?_;clear hK K)|apply Rx.o ?_|apply Rx.on ?_|(apply Rx.call ?_;first|refine Rx.k (ra_en (fun _=>rfl) _ _) ?_)|(apply Rx.gd (fun hg hgp=>?_) (fun hg hgp=>?_) <;> try (cases hg;done))|(apply Rx.cd (fun hb hbp=>?_) (fun hb hbp=>?_) <;> try (cases hb;done))|apply Wp.seq ?_|(apply Wp.ops' fun K hK=>?_)|(apply Rx.dT 5 [(3,19),(8,19),(13,19),(15,19),(17,19)] fun K hK=>?_)|(apply Rx.dT 10 [(3,9),(8,9)] fun K hK=>?_)|(apply Rx.dT 15 [(1,6),(1,8),(1,9),(1,11),(4,6),(10,11)] fun K hK=>?_)|(apply Rx.nq ?_;try intro _)|(apply Rx.nt ?_ ?_ <;> clear hK K)|apply WpT.step ?_|apply WpT.step0 rfl ?_|apply Wp.block ?_|apply Rx.sk ?_|apply Rx.rt ?_|apply Rx.xt ?_)
    refine Wp.forI [9] [] 11 c (fun j E H=>∃ kv,StN l i v H2 op (immN n) kv ([seedK n 0,seedK n 1,seedK n 2].drop j) E H ∧ IntN H kv (kidsK (nodesK l false i) op n j) (H2.next + 3)) eE ⟨.nilS,⟨eE,eE,eE,eE,eE,eE,eE,rd,gn,old,nx⟩,.inl ⟨rfl,rfl⟩⟩ ?_
    clear rd gn old nx k0 k1 k4 k5 k6 k7 k8
    rintro j E4 H4 hj hcE hrH hnH hsI ⟨kv,⟨k0,k1,k4,k5,k6,k7,k8,rd,gn,old,nx⟩,hkv⟩
    (try simp only [forall_cons,forall_nil,and_true,sB,sO,Nat.reduceBEq,Nat.reduceAdd,Nat.reduceLeDiff,tyF, *] at hcE)
    (try simp only [forall_cons,forall_nil,and_true,sB,sO,Nat.reduceBEq,Nat.reduceAdd,Nat.reduceLeDiff,tyF, *] at hrH)
    (try simp only [Hp.next_alloc,Hp.next_set,H0_next,Nat.zero_add,Nat.reduceAdd] at hnH)
    have h1kv:AV.one kv=true ∧ kv.cells=[kv]:=by
      rcases hkv with ⟨rfl,_⟩|⟨r,imm,rfl,_⟩ <;> exact ⟨rfl,rfl⟩
    obtain ⟨hkv1,hkv2⟩:=h1kv
    by_cases hjc:j < c
    · have hjc' : (j : Int) < c := by omega
      have hnx:(nextG ([seedK n 0,seedK n 1,seedK n 2].drop j)).1=seedK n j ∧ (nextG ([seedK n 0,seedK n 1,seedK n 2].drop j)).2=[seedK n 0,seedK n 1,seedK n 2].drop (j + 1):=by
        have hj3:j < 3:=by omega
        match j,hj3 with
        | 0,_=>exact ⟨rfl,rfl⟩
        | 1,_=>exact ⟨rfl,rfl⟩
        | 2,_=>exact ⟨rfl,rfl⟩
      repeat' (first
         | (apply Rx.nl ?_;clear hK K)|apply Ry.o ?_|apply Ry.on ?_|(apply Ry.call ?_;first|refine Rx.k (os_en (fun _=>rfl) _ _ _) ?_)|(apply Ry.gd (fun hg hgp=>?_) (fun hg hgp=>?_) <;> try (cases hg;done))|(apply Ry.cd (fun hb hbp=>?_) (fun hb hbp=>?_) <;> try (cases hb;done))|apply Wp.seq ?_|(apply Wp.ops' fun K hK=>?_)|(apply Rx.dT 5 [(3,19),(8,19),(13,19),(15,19),(17,19)] fun K hK=>?_)|(apply Rx.dT 10 [(3,9),(8,9)] fun K hK=>?_)|(apply Rx.dT 15 [(1,6),(1,8),(1,9),(1,11),(4,6),(10,11)] fun K hK=>?_)|(apply Rx.nq ?_;try intro _)|(apply Rx.nt ?_ ?_ <;> clear hK K)|apply WpT.step ?_|apply WpT.step0 rfl ?_|apply Wp.block ?_|apply Rx.sk ?_|apply Rx.rt ?_|apply Rx.xt ?_)
      refine WpL.call rfl eVk eAk ?_;simp only [List.cons_append,List.nil_append,List.append_nil]
      refine WpCall.mono ?_ (next_wp (plainN (fun _=>rfl) rfl) rd (by simp;omega))
      rintro w H5 ⟨rfl,rd5,n5,o5⟩
      have gn5:H5.get (H2.next + 2)=_:=(o5 _ (by omega)).trans gn
      have old5:∀ k,k < H2.next → SameB (H2.get k) (H5.get k):=fun k hk=>by rw [o5 k (by omega)];exact old k hk
      have nx5:H2.next + 3 ≤ H5.next:=by omega
      have hkv5:IntN H5 kv (kidsK (nodesK l false i) op n j) (H2.next + 3):=hkv.keep (by omega) fun k hk=>o5 k (by have:=(hkv.lt hk).1;omega)
      rw [hnx.2] at rd5
      dsimp only [setO]
      repeat' (first
         | (apply Rx.nl ?_;clear hK K)|apply Rx.o ?_|apply Rx.on ?_|(apply Rx.gd (fun hg hgp=>?_) (fun hg hgp=>?_) <;> try (cases hg;done))|(apply Rx.cd (fun hb hbp=>?_) (fun hb hbp=>?_) <;> try (cases hb;done))|apply Wp.seq ?_|(apply Wp.ops' fun K hK=>?_)|(apply Rx.dT 5 [(3,19),(8,19),(13,19),(15,19),(17,19)] fun K hK=>?_)|(apply Rx.dT 10 [(3,9),(8,9)] fun K hK=>?_)|(apply Rx.dT 15 [(1,6),(1,8),(1,9),(1,11),(4,6),(10,11)] fun K hK=>?_)|(apply Rx.nq ?_;try intro _)|(apply Rx.nt ?_ ?_ <;> clear hK K)|apply WpT.step ?_|apply WpT.step0 rfl ?_|apply Wp.block ?_|apply Rx.sk ?_|apply Rx.rt ?_|apply Rx.xt ?_)
      refine WpL.call rfl eVk eAk ?_;simp only [List.cons_append,List.nil_append,List.append_nil]
      refine WpCall.mono ?_ (of_M (fun _=>rfl) rfl (by omega) (hvL H5 old5 (by omega)) _ _ ⟨hno,allK_pos hnb (opSortK_12 _ _)⟩)
      rintro w H6 ⟨rfl,hy⟩
      have n6:=hy.next
      have gn6:H6.get (H2.next + 2)=_:=(hy.out _ (by omega)).trans gn5
      have rd6:=rd5.icy hy (by omega)
      have old6:∀ k,k < H2.next → SameB (H2.get k) (H6.get k):=fun k hk=>(old5 k hk).trans (hy.same k)
      have hkv6:IntN H6 kv (kidsK (nodesK l false i) op n j) (H2.next + 3):=hkv5.keep (by omega) fun k hk=>hy.out k (by have:=(hkv5.lt hk).1;omega)
      have nx6:H2.next + 3 ≤ H6.next:=by omega
      have n6':H5.next ≤ H6.next:=by omega
      have n5':H4.next ≤ H5.next:=by omega
      clear hy n6 n5
      have hks:kidsK (nodesK l false i) op n (j + 1)=kidsK (nodesK l false i) op n j ++ [ofK (nodesK l false i) (opSortK op j) (seedK n j)]:=by rw [kidsK]
      generalize ofK (nodesK l false i) (opSortK op j) (seedK n j)=x at *
      have hvb:IntN (H6.alloc (.cells [.int .i64 x] 0 true)) kv (kidsK (nodesK l false i) op n j) (H2.next + 3):=hkv6.keep (Nat.le_succ _) fun k hk=>by rw [Hp.get_alloc,if_neg (by have:=(hkv6.lt hk).2;omega)]
      obtain ⟨v5,H7,a5,s5,n7,f7,o7⟩:=appI_one (r:=H6.next) (imm:=0) x hvb (by simp only [Hp.next_alloc];omega) (by rw [Hp.get_alloc,if_pos rfl]) (by rw [kidsK_len];omega)
      have n7':H6.next + 1 ≤ H7.next:=by simp only [Hp.next_alloc] at n7;omega
      have o7':∀ k,k < H2.next + 3 → H7.get k=H6.get k:=fun k hk=>by rw [f7 k hk,Hp.get_alloc,if_neg (by omega)]
      clear n7 f7 o7 hvb
      have gn7:H7.get (H2.next + 2)=_:=(o7' _ (by omega)).trans gn6
      have e7:(H2.next + 2 == H6.next)=false:=ne_beq (by omega)
      have e8:(H2.next + 2 == H7.next)=false:=ne_beq (by omega)
      have h1v5:AV.one v5=true ∧ v5.cells=[v5]:=by obtain ⟨r,imm,rfl,_⟩:=s5;exact ⟨rfl,rfl⟩
      obtain ⟨hv51,hv52⟩:=h1v5
      dsimp only [setO]
      repeat' (first
         | (apply Rx.nl ?_;clear hK K)|apply Rx.o ?_|apply Rx.on ?_|(apply Rx.gd (fun hg hgp=>?_) (fun hg hgp=>?_) <;> try (cases hg;done))|(apply Rx.cd (fun hb hbp=>?_) (fun hb hbp=>?_) <;> try (cases hb;done))|apply Wp.seq ?_|(apply Wp.ops' fun K hK=>?_)|(apply Rx.dT 5 [(3,19),(8,19),(13,19),(15,19),(17,19)] fun K hK=>?_)|(apply Rx.dT 10 [(3,9),(8,9)] fun K hK=>?_)|(apply Rx.dT 15 [(1,6),(1,8),(1,9),(1,11),(4,6),(10,11)] fun K hK=>?_)|(apply Rx.nq ?_;try intro _)|(apply Rx.nt ?_ ?_ <;> clear hK K)|apply WpT.step ?_|apply WpT.step0 rfl ?_|apply Wp.block ?_|apply Rx.sk ?_|apply Rx.rt ?_|apply Rx.xt ?_)
      · exact eK
      · refine ⟨by omega, eL, eL, eN, (by simp only [sB, Nat.reduceBEq, *]; exact i64_succ (n := c) (by omega) (by omega)), ?_⟩
        refine ⟨v5,⟨eE,eE,eE,eE,eE,eE,eE,?_,?_,?_,?_⟩,?_⟩
        · exact (rd6.keep (by omega) fun k hk=>o7' k (by omega)).keep (Nat.le_refl _) fun k hk=>by rw [Hp.get_set,if_neg (by omega)]
        · rw [Hp.get_set,if_pos rfl]
        · intro k hk;rw [Hp.get_set,if_neg (by omega),o7' k (by omega)];exact old6 k hk
        · simp only [Hp.next_set];omega
        · rw [hks];exact .inr (s5.keep (Nat.le_refl _) fun k hk=>by rw [Hp.get_set,if_neg (by have:=(s5.lt hk).1;omega)])
    · have hje : j = c := by omega
      subst hje
      have hjc':¬ (j:Int) < j:=by omega
      repeat' (first
         | (apply Rx.nl ?_;clear hK K)|apply Ry.o ?_|apply Ry.on ?_|(apply Ry.gd (fun hg hgp=>?_) (fun hg hgp=>?_) <;> try (cases hg;done))|apply Wp.seq ?_|(apply Wp.ops' fun K hK=>?_)|(apply Rx.dT 5 [(3,19),(8,19),(13,19),(15,19),(17,19)] fun K hK=>?_)|(apply Rx.dT 10 [(3,9),(8,9)] fun K hK=>?_)|(apply Rx.dT 15 [(1,6),(1,8),(1,9),(1,11),(4,6),(10,11)] fun K hK=>?_)|(apply Rx.nq ?_;try intro _)|(apply Rx.nt ?_ ?_ <;> clear hK K)|apply WpT.step ?_|apply WpT.step0 rfl ?_|apply Wp.block ?_|apply Rx.sk ?_|apply Rx.rt ?_|apply Rx.xt ?_)
      (apply Rx.cd (fun hb hbp=>?_) (fun hb hbp=>?_) <;> try (cases hb;done))
      repeat' (first
         | (apply Rx.nl ?_;clear hK K)|apply Rx.o ?_|apply Rx.on ?_|(apply Rx.gd (fun hg hgp=>?_) (fun hg hgp=>?_) <;> try (cases hg;done))|apply Wp.seq ?_|(apply Wp.ops' fun K hK=>?_)|(apply Rx.dT 5 [(3,19),(8,19),(13,19),(15,19),(17,19)] fun K hK=>?_)|(apply Rx.dT 10 [(3,9),(8,9)] fun K hK=>?_)|(apply Rx.dT 15 [(1,6),(1,8),(1,9),(1,11),(4,6),(10,11)] fun K hK=>?_)|(apply Rx.nq ?_;try intro _)|(apply Rx.nt ?_ ?_ <;> clear hK K)|apply WpT.step ?_|apply WpT.step0 rfl ?_|apply Wp.block ?_|apply Rx.sk ?_|apply Rx.rt ?_|apply Rx.xt ?_)
      have hr5:=pickG_range (n:=w64 (n.tdiv 5)) (m:=2) (by omega) (by omega)
      obtain ⟨p,hpe⟩:∃ p,pickG (w64 (n.tdiv 5)) 2=p:=⟨_,rfl⟩
      have hp':pickG (IntKind.wrap .i64 (n.tdiv 5)) 2=p:=hpe
      rw [hpe] at hr5 hnode
      clear hpe
      have ew:IntKind.wrap .i64 (1 + p)=1 + p:=i64_id (by omega) (by omega)
      refine Wp.join2 (fun E' H'=>StN l i v H2 op (if op=27 then 1 + p else immN n) kv ([seedK n 0,seedK n 1,seedK n 2].drop j) E' H' ∧ IntN H' kv (kidsK (nodesK l false i) op n j) (H2.next + 3)) ?_ ?_
      · repeat' (first
           | (apply Rx.nl ?_;clear hK K)|apply Ry.o ?_|apply Ry.on ?_|(apply Ry.call ?_;first|refine Rx.k (pick_en (fun _=>rfl) _ _ (by decide) _) ?_)|(apply Ry.gd (fun hg hgp=>?_) (fun hg hgp=>?_) <;> try (cases hg;done))|(apply Ry.cd (fun hb hbp=>?_) (fun hb hbp=>?_) <;> try (cases hb;done))|apply Wp.seq ?_|(apply Wp.ops' fun K hK=>?_)|(apply Rx.dT 5 [(3,19),(8,19),(13,19),(15,19),(17,19)] fun K hK=>?_)|(apply Rx.dT 10 [(3,9),(8,9)] fun K hK=>?_)|(apply Rx.dT 15 [(1,6),(1,8),(1,9),(1,11),(4,6),(10,11)] fun K hK=>?_)|(apply Rx.nq ?_;try intro _)|(apply Rx.nt ?_ ?_ <;> clear hK K)|apply WpT.step ?_|apply WpT.step0 rfl ?_|apply Wp.block ?_|apply Rx.sk ?_|apply Rx.rt ?_|apply Rx.xt ?_)
        · refine ⟨rfl, ⟨eE, eE, eE, eE, eE, eE, eE, ?_, ?_, ?_, ?_⟩, ?_⟩
          · exact rd.keep (Nat.le_refl _) fun k hk=>by rw [Hp.get_set,if_neg (by omega)]
          · have hop : op = 27 := by assumption
            rw [Hp.get_set,if_pos rfl,if_pos hop,hop]
          · intro k hk;rw [Hp.get_set,if_neg (by omega)];exact old k hk
          · exact nx
          · exact hkv.keep (Nat.le_refl _) fun k hk=>by rw [Hp.get_set,if_neg (by have:=(hkv.lt hk).1;omega)]
        · refine ⟨rfl, ⟨eE, eE, eE, eE, eE, eE, eE, rd, ?_, old, nx⟩, hkv⟩
          rw [if_neg (by assumption)];exact gn
      clear gn rd old nx hkv k0 k1 k4 k5 k6 k7 k8 hb hbp
      rintro E5 H5 ⟨⟨k0,k1,k4,k5,k6,k7,k8,rd,gn,old,nx⟩,hkv⟩
      dsimp only [thenQ]
      generalize him1:(if op=27 then 1 + p else immN n)=im1 at *
      repeat' (first
         | (apply Rx.nl ?_;clear hK K)|apply Rx.o ?_|apply Rx.on ?_|(apply Rx.gd (fun hg hgp=>?_) (fun hg hgp=>?_) <;> try (cases hg;done))|apply Wp.seq ?_|(apply Wp.ops' fun K hK=>?_)|(apply Rx.dT 5 [(3,19),(8,19),(13,19),(15,19),(17,19)] fun K hK=>?_)|(apply Rx.dT 10 [(3,9),(8,9)] fun K hK=>?_)|(apply Rx.dT 15 [(1,6),(1,8),(1,9),(1,11),(4,6),(10,11)] fun K hK=>?_)|(apply Rx.nq ?_;try intro _)|(apply Rx.nt ?_ ?_ <;> clear hK K)|apply WpT.step ?_|apply WpT.step0 rfl ?_|apply Wp.block ?_|apply Rx.sk ?_|apply Rx.rt ?_|apply Rx.xt ?_)
      all_goals
        refine Wp.join2 (fun E' H'=>StN l i v H2 op (if op=27 then 1 + p else if op=23 ∨ op=28 then p else immN n) kv ([seedK n 0,seedK n 1,seedK n 2].drop j) E' H' ∧ IntN H' kv (kidsK (nodesK l false i) op n j) (H2.next + 3)) ?_ ?_
        · repeat' (first
             | (apply Rx.nl ?_;clear hK K)|apply Ry.o ?_|apply Ry.on ?_|(apply Ry.call ?_;first|refine Rx.k (pick_en (fun _=>rfl) _ _ (by decide) _) ?_)|(apply Ry.gd (fun hg hgp=>?_) (fun hg hgp=>?_) <;> try (cases hg;done))|(apply Ry.cd (fun hb hbp=>?_) (fun hb hbp=>?_) <;> try (cases hb;done))|apply Wp.seq ?_|(apply Wp.ops' fun K hK=>?_)|(apply Rx.dT 5 [(3,19),(8,19),(13,19),(15,19),(17,19)] fun K hK=>?_)|(apply Rx.dT 10 [(3,9),(8,9)] fun K hK=>?_)|(apply Rx.dT 15 [(1,6),(1,8),(1,9),(1,11),(4,6),(10,11)] fun K hK=>?_)|(apply Rx.nq ?_;try intro _)|(apply Rx.nt ?_ ?_ <;> clear hK K)|apply WpT.step ?_|apply WpT.step0 rfl ?_|apply Wp.block ?_|apply Rx.sk ?_|apply Rx.rt ?_|apply Rx.xt ?_)
          all_goals first
            | (refine ⟨rfl,⟨eE,eE,eE,eE,eE,eE,eE,?_,?_,?_,?_⟩,?_⟩
               · exact rd.keep (Nat.le_refl _) fun k hk=>by rw [Hp.get_set,if_neg (by omega)]
               · have hop : op = 23 ∨ op = 28 := by omega
                 rw [Hp.get_set,if_pos rfl,if_neg (by omega),if_pos hop]
                 first
                 | done
                 | (have hop:op=23:=by assumption
                    rw [hop];done)
                 | (have hop:op=28:=by assumption
                    rw [hop];done)
               · intro k hk;rw [Hp.get_set,if_neg (by omega)];exact old k hk
               · exact nx
               · exact hkv.keep (Nat.le_refl _) fun k hk=>by rw [Hp.get_set,if_neg (by have:=(hkv.lt hk).1;omega)])
            | (refine ⟨rfl,⟨eE,eE,eE,eE,eE,eE,eE,rd,?_,old,nx⟩,hkv⟩
               rw [gn,← him1,if_neg (by omega:¬ (op=23 ∨ op=28))])
        clear gn rd old nx hkv k0 k1 k4 k5 k6 k7 k8 him1
        rintro E6 H6 ⟨⟨k0,k1,k4,k5,k6,k7,k8,rd,gn,old,nx⟩,hkv⟩
        dsimp only [thenQ]
        generalize (if op=27 then 1 + p else if op=23 ∨ op=28 then p else immN n)=im2 at *
        obtain ⟨oo,hoo⟩:∃ oo,oo=op:=⟨_,rfl⟩
        rw [← hoo] at gn hnode hkv
        clear hoo
        have hvT:RowOwn (fun _=>True) 2 H6 3 v ((nodesK l false i).map Nd.cells):=(hvL H6 old (by omega)).keep (fun _ _ _=>trivial) (Nat.le_refl _) fun _ _ _=>rfl
        have hcw:CellsW (fun k=>H2.next + 3 ≤ k) 2 H6 [.int .i64 oo,.int .i64 im2,kv] (nodeK (nodesK l false i) false n).cells:=by rw [hnode];exact nd_cells oo im2 hkv fun _ h=>h
        have h1kv:AV.one kv=true:=by rcases hkv with ⟨rfl,_⟩|⟨r,imm,rfl,_⟩ <;> rfl
        have gh0:=@agN
        repeat' (first
           | (apply Rx.nl ?_;clear hK K)|apply Rx.o ?_|apply Rx.on ?_|(apply Rx.gd (fun hg hgp=>?_) (fun hg hgp=>?_) <;> try (cases hg;done))|(apply Rx.cd (fun hb hbp=>?_) (fun hb hbp=>?_) <;> try (cases hb;done))|apply Wp.seq ?_|(apply Wp.ops' fun K hK=>?_)|(apply Rx.dT 5 [(3,19),(8,19),(13,19),(15,19),(17,19)] fun K hK=>?_)|(apply Rx.dT 10 [(3,9),(8,9)] fun K hK=>?_)|(apply Rx.dT 15 [(1,6),(1,8),(1,9),(1,11),(4,6),(10,11)] fun K hK=>?_)|(apply Rx.nq ?_;try intro _)|(apply Rx.nt ?_ ?_ <;> clear hK K)|apply WpT.step ?_|apply WpT.step0 rfl ?_|apply Wp.block ?_|apply Rx.sk ?_|apply Rx.rt ?_|apply Rx.xt ?_)
        refine WpL.call rfl eVk eAk ?_;simp only [List.cons_append,List.nil_append,List.append_nil]
        refine WpCall.mono ?_ (co_M (fun _=>rfl) rfl (by omega) hvT (hcw.keep (S':=fun _=>True) (fun _ _=>trivial) (Nat.le_refl _) fun _ _ _=>rfl) hno)
        rintro w H7 ⟨rfl,hy⟩
        have n7:=hy.next
        have hv7:RowOwn (fun k=>0 ≤ k) 2 H7 3 v ((nodesK l false i).map Nd.cells):=(hvT.icyB (by omega) fun k _ _=>hy.same k).keep (fun _ _ _=>Nat.zero_le _) (Nat.le_refl _) fun _ _ _=>rfl
        have hcw7:CellsW (fun k=>H2.next + 3 ≤ k) 2 H7 [.int .i64 oo,.int .i64 im2,kv] (nodeK (nodesK l false i) false n).cells:=hcw.frame (fun _ h=>h) (by omega) fun k _ _=>hy.same k
        obtain ⟨im,gn7⟩:∃ im,H7.get (H2.next + 2)=some (.cells [.int .i64 oo,.int .i64 im2,kv] im true):=by
          rcases hy.same (H2.next + 2) with e|⟨cs,i1,i2,tip,e1,e2,_⟩
          · exact ⟨0,by rw [← e];exact gn⟩
          · rw [gn] at e1
            simp only [Option.some.injEq,HB.cells.injEq] at e1
            obtain ⟨rfl,rfl,rfl⟩:=e1
            exact ⟨i2,e2⟩
        have n7':H2.next + 3 ≤ H7.next:=by omega
        clear hy n7 hvT hcw gn rd old hkv
        dsimp only [setO]
        generalize nodeK (nodesK l false i) false n=nd at *
        cases hhas:hasK (nodesK l false i) nd with
        | true =>
          have hadd:addK (nodesK l false i) nd=nodesK l false i:=by rw [addK,if_pos hhas]
          repeat' (first
             | (apply Rx.nl ?_;clear hK K)|apply Rx.o ?_|apply Rx.on ?_|(apply Rx.gd (fun hg hgp=>?_) (fun hg hgp=>?_) <;> try (cases hg;done))|(apply Rx.cd (fun hb hbp=>?_) (fun hb hbp=>?_) <;> try (cases hb;done))|apply Wp.seq ?_|(apply Wp.ops' fun K hK=>?_)|(apply Rx.dT 5 [(3,19),(8,19),(13,19),(15,19),(17,19)] fun K hK=>?_)|(apply Rx.dT 10 [(3,9),(8,9)] fun K hK=>?_)|(apply Rx.dT 15 [(1,6),(1,8),(1,9),(1,11),(4,6),(10,11)] fun K hK=>?_)|(apply Rx.nq ?_;try intro _)|(apply Rx.nt ?_ ?_ <;> clear hK K)|apply WpT.step ?_|apply WpT.step0 rfl ?_|apply Wp.block ?_|apply Rx.sk ?_|apply Rx.rt ?_|apply Rx.xt ?_)
          refine ⟨by omega,eL,eL,eN,(by simp only [sB,Nat.reduceBEq, *];exact i64_succ (n:=cnt) (by omega) (by omega)),?_⟩
          refine ⟨v,eE,?_⟩
          rw [hns,hadd]
          exact hv7.keep (fun _ _ _=>trivial) (Nat.le_refl _) fun _ _ _=>rfl
        | false =>
          have hadd:addK (nodesK l false i) nd=nodesK l false i ++ [nd]:=by rw [addK,if_neg (by rw [hhas];simp)]
          have hone:([.int .i64 oo,.int .i64 im2,kv]:List AV).all AV.one=true:=by
            show (true && (true && (AV.one kv && true)))=true
            rw [h1kv];rfl
          have kbs:=fun H=>bsN1 H (cs:=[.int .i64 oo,.int .i64 im2,kv]) rfl hone
          have hvb:RowOwn (fun k=>0 ≤ k) 2 (H7.alloc (.cells [.int .i64 oo,.int .i64 im2,kv] 0 true)) 3 v ((nodesK l false i).map Nd.cells):=hv7.keep (fun _ _ h=>h) (Nat.le_succ _) fun k _ hk=>by rw [Hp.get_alloc,if_neg (by omega)]
          obtain ⟨v8,H8,a8,s8,n8,f8,q8⟩:=RowOwn.push (P:=Try.prog) (t:=60) Try.underlying60 sz66 bt66 zr66 rfl (by kernel_rfl) hvb (Nat.zero_le _) (r:=H7.next) (imm:=0) (row:=[.int .i64 oo,.int .i64 im2,kv]) (w:=nd.cells) (by rw [Hp.get_alloc,if_pos rfl]) rfl hone (hcw7.keep (fun k hk=>⟨Nat.zero_le _,fun o m z' e=>by have:=hvq k o m z' e;omega⟩) (Nat.le_succ _) fun k _ hk=>by rw [Hp.get_alloc,if_neg (by omega)]) (by simp [maxRoom];omega) (by simp [maxRoom];omega)
          have n8':H7.next ≤ H8.next:=by simp only [Hp.next_alloc] at n8;omega
          clear n8 f8 q8 hvb
          have gh0:=@agN
          repeat' (first
             | (apply Rx.nl ?_;clear hK K)|apply Rx.o ?_|apply Rx.on ?_|(apply Rx.gd (fun hg hgp=>?_) (fun hg hgp=>?_) <;> try (cases hg;done))|(apply Rx.cd (fun hb hbp=>?_) (fun hb hbp=>?_) <;> try (cases hb;done))|apply Wp.seq ?_|(apply Wp.ops' fun K hK=>?_)|(apply Rx.dT 5 [(3,19),(8,19),(13,19),(15,19),(17,19)] fun K hK=>?_)|(apply Rx.dT 10 [(3,9),(8,9)] fun K hK=>?_)|(apply Rx.dT 15 [(1,6),(1,8),(1,9),(1,11),(4,6),(10,11)] fun K hK=>?_)|(apply Rx.nq ?_;try intro _)|(apply Rx.nt ?_ ?_ <;> clear hK K)|apply WpT.step ?_|apply WpT.step0 rfl ?_|apply Wp.block ?_|apply Rx.sk ?_|apply Rx.rt ?_|apply Rx.xt ?_)
          refine ⟨by omega,eL,eL,eN,(by simp only [sB,Nat.reduceBEq, *];exact i64_succ (n:=cnt) (by omega) (by omega)),?_⟩
          refine ⟨v8,eE,?_⟩
          rw [hns,hadd,List.map_append]
          exact s8.keep (fun _ _ _=>trivial) (Nat.le_refl _) fun _ _ _=>rfl
  · have hie : i = cnt := by omega
    subst hie
    have hx:∀ H:Hp,RowOwn (fun _=>True) 2 H 3 v ((nodesK l false i).map Nd.cells) → ∃ m u,iceV H m v=some u ∧ wkN 60 u=lstN (nodesL l false):=fun H h=>by
      obtain ⟨u,h1,h2⟩:=h.rd
      obtain ⟨m0,hm⟩:=Ic.iceV h1
      exact ⟨m0,u,hm m0 (Nat.le_refl _),by rw [h2 60 (by omega),hnl]⟩
    have hxx:=hx H2 hv
    clear hx hv
    by_cases c1:(i:Int) < l.length
    · have c2 : ¬ (i : Int) < 14 := by omega
      repeat' (first
         | (apply Rx.nl ?_;clear hK K)|apply Ry.o ?_|apply Ry.on ?_|(apply Ry.gd (fun hg hgp=>?_) (fun hg hgp=>?_) <;> try (cases hg;done))|(apply Ry.cd (fun hb hbp=>?_) (fun hb hbp=>?_) <;> try (cases hb;done))|apply Wp.seq ?_|(apply Wp.ops' fun K hK=>?_)|(apply Rx.dT 5 [(3,19),(8,19),(13,19),(15,19),(17,19)] fun K hK=>?_)|(apply Rx.dT 10 [(3,9),(8,9)] fun K hK=>?_)|(apply Rx.dT 15 [(1,6),(1,8),(1,9),(1,11),(4,6),(10,11)] fun K hK=>?_)|(apply Rx.nq ?_;try intro _)|(apply Rx.nt ?_ ?_ <;> clear hK K)|apply WpT.step ?_|apply WpT.step0 rfl ?_|apply Wp.block ?_|apply Rx.sk ?_|apply Rx.rt ?_|apply Rx.xt ?_)
      all_goals (refine ⟨eI,_,eR,?_⟩;try simp only [oneOr])
      exact hxx
    · repeat' (first
         | (apply Rx.nl ?_;clear hK K)|apply Ry.o ?_|apply Ry.on ?_|(apply Ry.gd (fun hg hgp=>?_) (fun hg hgp=>?_) <;> try (cases hg;done))|(apply Ry.cd (fun hb hbp=>?_) (fun hb hbp=>?_) <;> try (cases hb;done))|apply Wp.seq ?_|(apply Wp.ops' fun K hK=>?_)|(apply Rx.dT 5 [(3,19),(8,19),(13,19),(15,19),(17,19)] fun K hK=>?_)|(apply Rx.dT 10 [(3,9),(8,9)] fun K hK=>?_)|(apply Rx.dT 15 [(1,6),(1,8),(1,9),(1,11),(4,6),(10,11)] fun K hK=>?_)|(apply Rx.nq ?_;try intro _)|(apply Rx.nt ?_ ?_ <;> clear hK K)|apply WpT.step ?_|apply WpT.step0 rfl ?_|apply Wp.block ?_|apply Rx.sk ?_|apply Rx.rt ?_|apply Rx.xt ?_)
      all_goals (refine ⟨eI,_,eR,?_⟩;try simp only [oneOr])
      exact hxx)
end Go.Proofs.Ytackdnelcpbfjaa
namespace Go.Proofs.Ytackdnelcpbfjaa
set_option maxRecDepth 20000
set_option maxRecDepth 20000
open Go Go.Ab
namespace tyK7
def tyF:=And.intro @tq2 (And.intro @tq3 (And.intro @tq26 (And.intro @tq60 (And.intro @tq66 (And.intro @bin_quo (And.intro @bn1 (@agN)))))))
end tyK7
open tyK7
noncomputable def code22:{ c:SC // slim 111 (Try.f22.body.getD .skip)=c }:=by
 refine ⟨?_,?_⟩
 rotate_left
 · simp only [Try.f22, Option.getD_some, slim, slimR, slimL, slimD, slimG, Nat.blt, Nat.ble]
   rfl
theorem bsN0 (H:Hp):buildSliceA Try.prog H 60 0 []=some (.sl H.next 0 0 3,H.alloc (.cells [] 0 true)):=by kernel_rfl
theorem bnI0 (H:Hp):buildSliceA Try.prog H 26 0 []=some (.sl H.next 0 0 1,H.alloc (.cells [] 0 true)):=by kernel_rfl
theorem rows_nds (l:List Nd):∀ x ∈ l.map Nd.cells,x.length=3:=fun r hr=>by
 obtain ⟨a,_,rfl⟩:=List.mem_map.1 hr;exact a.clen
theorem nds_one:∀ l:List Nd,(l.map Nd.cells).flatten.all AV.one=true
 | []=>rfl
 | a :: l=>by rw [List.map_cons,List.flatten_cons,List.all_append,a.one,nds_one l];rfl
theorem CellsW.nd {S:Nat → Prop} {n:Nat} {H:Hp} (x:Nd):CellsW S (n + 1) H x.cells x.cells:=by
 refine .cons (.int _ _) (.cons (.int _ _) (.cons ?_ .nil))
 exact .flat ⟨ints_pure _,trivial⟩ (wk_ints _)
theorem RowsW.nds {S:Nat → Prop} {n:Nat} {H:Hp}:∀ l:List Nd,RowsW S (n + 1) H 3 (l.map Nd.cells) (l.map Nd.cells)
 | []=>trivial
 | a :: l=>⟨⟨a.clen,CellsW.nd a⟩,RowsW.nds l⟩
theorem appZ_lst {H:Hp} {v:AV} {l:List Int} {lo:Nat} (m:List Int) (hv:IntZ H v l lo) (hlo:lo ≤ H.next) (hb:l.length + m.length < 2 ^ 40) :
   ∃ v' H',appendA Try.prog false H 26 26 v (lstI m)=some (v',H') ∧ IntZ H' v' (l ++ m) lo ∧ H.next ≤ H'.next ∧ (∀ k,k < lo → H'.get k=H.get k):=by
 by_cases hm:m=[]
 · subst hm
   refine ⟨v,H,?_,by rw [List.append_nil];exact hv,Nat.le_refl _,fun _ _=>rfl⟩
   obtain ⟨r,rfl,h2,_⟩:=hv
   simp only [appendA,Try.underlying26,sz3,bt3,zr3,show srcType Try.prog 26=true by kernel_rfl,List.map_nil,srcCells,List.all_nil,if_true,List.length_nil]
 · obtain ⟨v', H', h1, h2, h3, h4, _⟩ := appZ_gen (.inr hv) hlo (src_ints H m) hm hb
   exact ⟨v',H',h1,h2,by omega,h4⟩
theorem app_row0 {P:Program} {t e:TypeId} {z b:Nat} {zz:List AV} (ht:P.underlying t=some (.slice e)) (hs:sizeA P e=some z) (hb:bytesA P e=some b) (hz:zeroA P e=some zz) (hzz:zz.length=z) (hsrc:srcType P t=true)
   {H:Hp} {q r imm:Nat} {rows:List (List AV)} {row:List AV} (hq:H.get q=some (.cells rows.flatten 0 true)) (hr3:∀ x ∈ rows,x.length=z) (hg:H.get r=some (.cells row imm true)) (hrow:row.length=z) (hone:row.all AV.one=true) (hb1:(rows.length + 1) * b ≤ maxRoom) (hb2:rows.length + 1 ≤ maxRoom) :
   appendA P false H t t (.sl q 0 rows.length z) (.sl r 0 1 z)=some (.sl H.next 0 (rows.length + 1) z,(H.kill q).alloc (.cells (rows.flatten ++ row) 0 true)):=by
 have hx:srcCells H z (.sl r 0 1 z)=some (1,row):=by
   have:=src_sl (H:=H) (r:=r) (o:=0) (n:=1) (z:=z) (s:=z) hg (by rw [List.drop_zero,List.length_take];omega)
   rw [this,List.drop_zero,List.take_of_length_le (by omega)]
 have hrl:=rows_len hr3
 have htr:trimA false H z (.sl q 0 rows.length z)=H:=by
   unfold trimA
   simp only [hq,Nat.zero_add]
   have:Nat.blt (rows.length * z) rows.flatten.length=false:=by
     cases hb:Nat.blt (rows.length * z) rows.flatten.length with
     | false=>rfl
     | true=>rw [Nat.blt_eq] at hb;omega
   simp only [Bool.not_false,Bool.true_and,this,Bool.false_and]
 simp only [appendA,ht,hs,hb,hz,hsrc,hx,hone,htr,hzz,and_self,if_true,appendOnto,hq,Nat.zero_add,List.drop_zero,Bool.false_eq_true,if_false]
 rw [if_pos ⟨hb1,hb2,by omega,trivial,Nat.zero_le _⟩]
theorem drop_slice {S:Nat → Prop} {r:Nat} {H:Hp} {kids:List Int} (h0:kids.length ≠ 0) (hg:H.get r=some (.cells (kids.map (.int .i64)) 0 true)) (hr:r < H.next) (hS:S r) :
   ∃ kv,sliceA Try.prog 26 (.sl r 0 kids.length 1) (some (.int .i64 1)) none=some kv ∧ AV.one kv=true ∧ kv.cells=[kv] ∧ ∀ H',H.next ≤ H'.next → H'.get r=H.get r → RdW S 2 H' kv (lstI (kids.drop 1)):=by
 have e1:(1:Int)=Int.ofNat 1:=rfl
 have hs:sliceA Try.prog 26 (.sl r 0 kids.length 1) (some (.int .i64 1)) none=some (if 1=kids.length then .lst [] else .sl r (0 + 1 * 1) (kids.length - 1) 1):=by
   simp only [sliceA,Try.underlying26,sz3,e1,boundA]
   rw [if_pos ⟨by omega,Nat.le_refl _,trivial⟩]
   split <;> rfl
 rw [hs]
 by_cases c:1=kids.length
 · rw [if_pos c]
   refine ⟨_,rfl,rfl,rfl,fun H' _ _=>?_⟩
   have:kids.drop 1=[]:=List.eq_nil_of_length_eq_zero (by rw [List.length_drop];omega)
   rw [this];exact RdW.lst0
 · rw [if_neg c]
   refine ⟨_,rfl,rfl,rfl,fun H' hn hg'=>?_⟩
   have hdl:(kids.drop 1).length=kids.length - 1:=List.length_drop
   refine ⟨.lst (chunk 1 (kids.length - 1) ((kids.drop 1).map (.int .i64))),⟨hS,by omega,_,0,true,(kids.drop 1).map (.int .i64),by rw [hg'];exact hg,Nat.zero_le _,by rw [List.length_map];omega,?_,rfl⟩,fun m hm=>?_⟩
   · rw [← List.map_drop, List.take_of_length_le (by rw [List.length_map, List.length_drop]; omega)]
     exact all2_ints _ _ _ _
   · rw [← hdl, chunkI_one]
     obtain ⟨k,rfl⟩:∃ k,m=k + 2:=⟨m - 2,by omega⟩
     exact wk60_ints k _
structure MutF (ws:List (List AV)) (w:List AV) (k:Nat) (E:Env) (H:Hp) (q:Nat) (rows:List (List AV)) (row:List AV):Prop where
 k7:E.at 7=.sl q 0 rows.length 3
 k8:E.at 8=.int .i64 k
 k9:∃ r,E.at 9=.ptr r 0 ∧ H.get r=some (.cells row 0 true) ∧ r ≠ q
 gq:H.get q=some (.cells rows.flatten 0 true)
 r3:∀ x ∈ rows,x.length=3
 w3:row.length=3
 one:row.all AV.one=true
 rw_:RowsW (fun j=>j ≠ q) 2 H 3 rows ws
 cw:CellsW (fun j=>j ≠ q) 2 H row w
 lt:q < H.next
structure MuX where
 l:List Nd
 how:Int
 a:Int
def muxE (x:MuX):List AV:=[lstN x.l,.int .i64 x.how,.int .i64 x.a]
theorem muxE_inj (x y:MuX) (h:muxE x=muxE y):x=y:=by
 obtain ⟨a,b,c⟩:=x
 obtain ⟨a',b',c'⟩:=y
 simp only [muxE,List.cons.injEq,AV.int.injEq,and_true,true_and] at h
 rw [lstN_inj h.1,h.2.1,h.2.2]
def muxOk (x:MuX):Prop:=NdsOk x.l ∧ x.l ≠ []
set_option maxRecDepth 100000 in
theorem mutate_con (ρ : Nat → Int) (x : MuX) (hx : muxOk x) : Con Try.prog ρ 22 (muxE x) (lstN (mutN x.l x.how x.a)) := con_of_wk2 (n := 60) (cfg := cfgN pls [enPick]) fit (noDec ρ) (EnsOk.look ⟨enPick_ok ρ, trivial⟩) (.cons (nds_pure _) (.cons (.int _ _) (.cons (.int _ _) .nil))) (by
  obtain ⟨l,how,a⟩:=x
  obtain ⟨hl,hne⟩:=hx
  simp only [] at hl hne
  have hl1:=hl.1
  have hw:Plain (cfgN pls [enPick]) 22:=plainN (fun _=>rfl) rfl
  have hkeep:(cfgN pls [enPick]).keep 22=false:=rfl
  have hlp:0 < l.length:=List.length_pos_iff.2 hne
  have hr:=pickG_range (n:=a) (m:=l.length) (by omega) (by omega)
  obtain ⟨k,hk⟩:=Int.eq_ofNat_of_zero_le hr.1
  rw [hk] at hr
  have hkl:k < l.length:=by omega
  have hgk:l[k]?=some (l.getD k ⟨0,0,[]⟩):=by rw [List.getD_eq_getElem?_getD,List.getElem?_eq_getElem hkl];rfl
  have hnk:(l.getD k ⟨0,0,[]⟩).kids.length < 2 ^ 30:=by
    have:=List.mem_of_getElem? hgk
    exact hl.2 _ this
  have hmut:mutN l how a=(if pickG how 10=5 then l ++ [l.getD k ⟨0,0,[]⟩] else l).set k (mutNd l (l.getD k ⟨0,0,[]⟩) how a):=by
    rw [mutN,if_neg hne,hk,Int.toNat_natCast]
  generalize hn:l.getD k ⟨0,0,[]⟩=n at *
  rw [muxE]
  simp only []
  have hlne:(l.length:Int) ≠ 0:=by omega
  refine WpCall.slim (M:=111) (rs:=[.tmp 6]) (hw.call _) hw.ice hw.froz Try.func22 rfl rfl code22.2 rfl ?_;dsimp only [code22,envOf,Nat.reduceAdd]
  have gh0:=@bsN0
  repeat' (first
     | (apply Rx.nl ?_;clear hK K)|apply Rx.o ?_|apply Rx.on ?_|apply Wp.seq ?_|(apply Wp.ops' fun K hK=>?_)|(apply Rx.dT 13 [(1,7),(1,10),(5,7),(9,10)] fun K hK=>?_)|(apply Rx.dT 16 [(1,7),(1,13),(1,16),(5,7),(6,7),(11,7),(11,13)] fun K hK=>?_)|(apply Rx.nq ?_;try intro _)|(apply Rx.nt ?_ ?_ <;> clear hK K)|apply WpT.step ?_|apply WpT.step0 rfl ?_|apply Wp.block ?_|apply Rx.sk ?_|apply Rx.rt ?_)
  obtain ⟨q,H1,a1,gq,hq1,hq2,n1,n1',o1⟩:=app_rows (P:=Try.prog) (t:=60) (H:=H0.alloc (.cells [] 0 true)) (q:=0) Try.underlying60 sz66 bt66 zr66 rfl (by kernel_rfl) (by rw [Hp.get_alloc,if_pos (by rfl)]) (by rw [Hp.next_alloc];omega) (rows:=l.map Nd.cells) (rows_nds l) (nds_one l) (by simp [maxRoom];omega) (by simp [maxRoom];omega)
  refine WpL.append eV eV (by rw [hkeep];exact a1) ?_
  have hrow:(l.map Nd.cells)[k]?=some n.cells:=by rw [List.getElem?_map,hgk];rfl
  have hagg:=agg_row (rows_nds l) hrow
  repeat' (first
     | (apply Rx.nl ?_;clear hK K)|apply Ry.o ?_|apply Ry.on ?_|(apply Ry.call ?_;first|refine Rx.k (pick_en (fun _=>rfl) _ _ hlne _) ?_)|(apply Ry.cd (fun hb hbp=>?_) (fun hb hbp=>?_) <;> try (cases hb;done))|apply Wp.seq ?_|(apply Wp.ops' fun K hK=>?_)|(apply Rx.dT 13 [(1,7),(1,10),(5,7),(9,10)] fun K hK=>?_)|(apply Rx.dT 16 [(1,7),(1,13),(1,16),(5,7),(6,7),(11,7),(11,13)] fun K hK=>?_)|(apply Rx.nq ?_;try intro _)|(apply Rx.nt ?_ ?_ <;> clear hK K)|apply WpT.step ?_|apply WpT.step0 rfl ?_|apply Wp.block ?_|apply Rx.sk ?_|apply Rx.rt ?_)
  generalize hHb:Hp.set (Hp.alloc H1 _) _ _=H2
  have n2:H1.next + 1 ≤ H2.next:=by rw [← hHb];exact Nat.le_refl _
  have g9:H2.get H1.next=some (.cells [.int .i64 n.op,.int .i64 n.imm,lstI n.kids] 0 true):=by rw [← hHb,Hp.get_set,if_pos rfl];rfl
  have gq2:H2.get q=some (.cells (l.map Nd.cells).flatten 0 true):=by rw [← hHb,Hp.get_set,if_neg (by omega),Hp.get_alloc,if_neg (by omega)];exact gq
  have hq9:q < H1.next:=hq2
  clear hHb a1 o1 n1 n1' hq1 hq2 gq hagg hrow
  obtain ⟨kv,H3,a3,s3,n3,o3⟩:=appZ_lst (H:=H2.alloc (.cells [] 0 true)) (v:=.sl H2.next 0 0 1) (l:=[]) (lo:=H2.next) n.kids ⟨H2.next,rfl,by rw [Hp.get_alloc,if_pos rfl];rfl,Nat.le_refl _,Nat.lt_succ_self _⟩ (Nat.le_succ _) (by simp;omega)
  rw [List.nil_append] at s3
  have n3':H2.next + 1 ≤ H3.next:=n3
  have g93:H3.get H1.next=some (.cells [.int .i64 n.op,.int .i64 n.imm,lstI n.kids] 0 true):=by rw [o3 _ (by omega),Hp.get_alloc,if_neg (by omega)];exact g9
  have gq3:H3.get q=some (.cells (l.map Nd.cells).flatten 0 true):=by rw [o3 _ (by omega),Hp.get_alloc,if_neg (by omega)];exact gq2
  have hkv1:AV.one kv=true ∧ kv.cells=[kv]:=by obtain ⟨r,rfl,_⟩:=s3;exact ⟨rfl,rfl⟩
  obtain ⟨hkv1,hkv2⟩:=hkv1
  have e1:(H1.next == H2.next)=false:=ne_beq (by omega)
  clear n3 o3 gq2
  have gh0:=@bnI0
  repeat' (first
     | (apply Rx.nl ?_;clear hK K)|apply Rx.o ?_|apply Rx.on ?_|(apply Rx.call ?_;first|refine Rx.k (pick_en (fun _=>rfl) _ _ (by decide) _) ?_)|apply Wp.seq ?_|(apply Wp.ops' fun K hK=>?_)|(apply Rx.dT 13 [(1,7),(1,10),(5,7),(9,10)] fun K hK=>?_)|(apply Rx.dT 16 [(1,7),(1,13),(1,16),(5,7),(6,7),(11,7),(11,13)] fun K hK=>?_)|(apply Rx.nq ?_;try intro _)|(apply Rx.nt ?_ ?_ <;> clear hK K)|apply WpT.step ?_|apply WpT.step0 rfl ?_|apply Wp.block ?_|apply Rx.sk ?_|apply Rx.rt ?_)
  generalize hHb:Hp.set H3 _ _=H4
  have n4:H4.next=H3.next:=by rw [← hHb];rfl
  have g94:H4.get H1.next=some (.cells [.int .i64 n.op,.int .i64 n.imm,kv] 0 true):=by rw [← hHb,Hp.get_set,if_pos rfl]
  have gq4:H4.get q=some (.cells (l.map Nd.cells).flatten 0 true):=by rw [← hHb,Hp.get_set,if_neg (by omega)];exact gq3
  have s4:IntZ H4 kv n.kids H2.next:=s3.keep (by omega) fun k hk=>by rw [← hHb,Hp.get_set,if_neg (by have:=(s3.b.lt hk).1;omega)]
  have n4':H1.next + 1 ≤ H4.next:=by omega
  have nq4:q < H4.next:=by omega
  have nq2:H1.next < H2.next:=by omega
  clear hHb a3 s3 g93 gq3 g9 n2 n3' n4 e1
  obtain ⟨m,hm⟩:∃ m,pickG how 10=m:=⟨_,rfl⟩
  have hmr:=pickG_range (n:=how) (m:=10) (by omega) (by omega)
  rw [hm] at hmr hmut
  have hmn:mutNd l n how a=if m=0 then ⟨pickG (w64 (how.tdiv 10)) 36 - 1,n.imm,n.kids⟩
    else if m=1 then ⟨n.op,pickG (w64 (how.tdiv 10)) 300 - 3,n.kids⟩
    else if m=2 then ⟨n.op,n.imm,n.kids ++ [pickG (w64 (how.tdiv 10)) (l.length + 2) - 1]⟩
    else if m=3 then (if n.kids=[] then n else ⟨n.op,n.imm,n.kids.set (pickG (w64 (how.tdiv 10)) n.kids.length).toNat (pickG (w64 (a.tdiv 3)) (l.length + 2) - 1)⟩)
    else if m=4 then ⟨n.op,n.imm,n.kids.drop 1⟩
    else if m=6 then ⟨3,pickG (w64 (how.tdiv 10)) 40,[]⟩
    else n:=by rw [mutNd,hm]
  generalize mutNd l n how a=w at *
  have q10:(10:Int) ≠ 0:=by decide
  have q3:(3:Int) ≠ 0:=by decide
  have hml:∀ S,RowsW (fun j=>j ≠ q) 2 S 3 (l.map Nd.cells) (l.map Nd.cells):=fun S=>RowsW.nds l
  have hlm:(l.map Nd.cells).length=l.length:=List.length_map _
  refine Wp.join2 (fun E' H'=>∃ q' rows row,MutF ((if m=5 then l ++ [n] else l).map Nd.cells) w.cells k E' H' q' rows row) ?_ ?_
  · have hS : ∀ (kv' : AV) (kids : List Int) (o i : Int) (H : Hp), IntN H kv' kids H2.next → CellsW (fun j => j ≠ q) 2 H [.int .i64 o, .int .i64 i, kv'] (Nd.mk o i kids).cells := fun kv' kids o i H h => nd_cells o i h fun k hk => by omega
    have ho3:∀ (o i:Int) (kv':AV),AV.one kv'=true → ([.int .i64 o,.int .i64 i,kv']:List AV).all AV.one=true:=fun o i kv' h=>by
      show (true && (true && (AV.one kv' && true)))=true
      rw [h];rfl
    have hfin:∀ (E:Env) (o i:Int) (kv':AV) (kids:List Int) (Hx:Hp),E.at 7=.sl q 0 l.length 3 → E.at 8=.int .i64 k → E.at 9=.ptr H1.next 0 → Hx.get H1.next=some (.cells [.int .i64 o,.int .i64 i,kv'] 0 true) → Hx.get q=some (.cells (l.map Nd.cells).flatten 0 true) → AV.one kv'=true → CellsW (fun j=>j ≠ q) 2 Hx [.int .i64 o,.int .i64 i,kv'] (Nd.mk o i kids).cells → q < Hx.next → m ≠ 5 → w=⟨o,i,kids⟩ → ∃ q' rows row,MutF ((if m=5 then l ++ [n] else l).map Nd.cells) w.cells k E Hx q' rows row:=fun E o i kv' kids Hx h7 h8 h9 hg hq h1 hc hlt h5 hw=>by
      subst hw
      exact ⟨q,l.map Nd.cells,[.int .i64 o,.int .i64 i,kv'],⟨by rw [hlm];exact h7,h8,⟨H1.next,h9,hg,by omega⟩,hq,rows_nds l,rfl,ho3 _ _ _ h1,by rw [if_neg h5];exact hml _,hc,hlt⟩⟩
    by_cases c0:m=0
    · have hr0 := pickG_range (n := w64 (how.tdiv 10)) (m := 36) (by omega) (by omega)
      obtain ⟨p,hp⟩:∃ p,pickG (w64 (how.tdiv 10)) 36=p:=⟨_,rfl⟩
      have hp':pickG (IntKind.wrap .i64 (how.tdiv 10)) 36=p:=hp
      rw [if_pos c0,hp] at hmn
      rw [hp] at hr0
      have ew:IntKind.wrap .i64 (p - 1)=p - 1:=i64_id (by omega) (by omega)
      clear hp
      repeat' (first
         | (apply Rx.nl ?_;clear hK K)|apply Ry.o ?_|apply Ry.on ?_|(apply Ry.call ?_;first|refine Rx.k (pick_en (fun _=>rfl) _ _ (by decide) _) ?_)|(apply Ry.cd (fun hb hbp=>?_) (fun hb hbp=>?_) <;> try (cases hb;done))|apply Wp.seq ?_|(apply Wp.ops' fun K hK=>?_)|(apply Rx.dT 13 [(1,7),(1,10),(5,7),(9,10)] fun K hK=>?_)|(apply Rx.dT 16 [(1,7),(1,13),(1,16),(5,7),(6,7),(11,7),(11,13)] fun K hK=>?_)|(apply Rx.nq ?_;try intro _)|(apply Rx.nt ?_ ?_ <;> clear hK K)|apply WpT.step ?_|apply WpT.step0 rfl ?_|apply Wp.block ?_|apply Rx.sk ?_|apply Rx.rt ?_)
      exact ⟨rfl,hfin _ (p - 1) n.imm kv n.kids _ eE eE eE (by rw [Hp.get_set,if_pos rfl]) (by rw [Hp.get_set,if_neg (by omega)];exact gq4) hkv1 (hS _ _ _ _ _ (.inr (s4.b.keep (Nat.le_refl _) fun k hk=>by rw [Hp.get_set,if_neg (by have:=(s4.b.lt hk).1;omega)]))) nq4 (by omega) hmn⟩
    rw [if_neg c0] at hmn
    by_cases c1:m=1
    · have hr0 := pickG_range (n := w64 (how.tdiv 10)) (m := 300) (by omega) (by omega)
      obtain ⟨p,hp⟩:∃ p,pickG (w64 (how.tdiv 10)) 300=p:=⟨_,rfl⟩
      have hp':pickG (IntKind.wrap .i64 (how.tdiv 10)) 300=p:=hp
      rw [if_pos c1,hp] at hmn
      rw [hp] at hr0
      have ew:IntKind.wrap .i64 (p - 3)=p - 3:=i64_id (by omega) (by omega)
      clear hp
      repeat' (first
         | (apply Rx.nl ?_;clear hK K)|apply Ry.o ?_|apply Ry.on ?_|(apply Ry.call ?_;first|refine Rx.k (pick_en (fun _=>rfl) _ _ (by decide) _) ?_)|(apply Ry.cd (fun hb hbp=>?_) (fun hb hbp=>?_) <;> try (cases hb;done))|apply Wp.seq ?_|(apply Wp.ops' fun K hK=>?_)|(apply Rx.dT 13 [(1,7),(1,10),(5,7),(9,10)] fun K hK=>?_)|(apply Rx.dT 16 [(1,7),(1,13),(1,16),(5,7),(6,7),(11,7),(11,13)] fun K hK=>?_)|(apply Rx.nq ?_;try intro _)|(apply Rx.nt ?_ ?_ <;> clear hK K)|apply WpT.step ?_|apply WpT.step0 rfl ?_|apply Wp.block ?_|apply Rx.sk ?_|apply Rx.rt ?_)
      exact ⟨rfl,hfin _ n.op (p - 3) kv n.kids _ eE eE eE (by rw [Hp.get_set,if_pos rfl]) (by rw [Hp.get_set,if_neg (by omega)];exact gq4) hkv1 (hS _ _ _ _ _ (.inr (s4.b.keep (Nat.le_refl _) fun k hk=>by rw [Hp.get_set,if_neg (by have:=(s4.b.lt hk).1;omega)]))) nq4 (by omega) hmn⟩
    rw [if_neg c1] at hmn
    have hl2:(l.length:Int) + 2 ≠ 0:=by omega
    have ew2:IntKind.wrap .i64 ((l.length:Int) + 2)=(l.length:Int) + 2:=i64_id (by omega) (by omega)
    by_cases c2:m=2
    · have hr0 := pickG_range (n := w64 (how.tdiv 10)) (m := (l.length : Int) + 2) (by omega) (by omega)
      obtain ⟨p,hp⟩:∃ p,pickG (w64 (how.tdiv 10)) ((l.length:Int) + 2)=p:=⟨_,rfl⟩
      have hp':pickG (IntKind.wrap .i64 (how.tdiv 10)) ((l.length:Int) + 2)=p:=hp
      rw [if_pos c2,hp] at hmn
      rw [hp] at hr0
      have ew:IntKind.wrap .i64 (p - 1)=p - 1:=i64_id (by omega) (by omega)
      clear hp
      have hvb:IntN (H4.alloc (.cells [.int .i64 (p - 1)] 0 true)) kv n.kids H2.next:=.inr (s4.b.keep (Nat.le_succ _) fun k hk=>by rw [Hp.get_alloc,if_neg (by have:=(s4.b.lt hk).2;omega)])
      have hH24:H2.next ≤ H4.next:=by obtain ⟨r,_,_,h1,h2⟩:=s4;omega
      obtain ⟨v5,H5,a5,s5,n5,f5,o5⟩:=appI_one (r:=H4.next) (imm:=0) (p - 1) hvb (by simp only [Hp.next_alloc];omega) (by rw [Hp.get_alloc,if_pos rfl]) (by omega)
      have n5':H4.next + 1 ≤ H5.next:=by simp only [Hp.next_alloc] at n5;omega
      have g95:H5.get H1.next=some (.cells [.int .i64 n.op,.int .i64 n.imm,kv] 0 true):=by rw [f5 _ (by omega),Hp.get_alloc,if_neg (by omega)];exact g94
      have gq5:H5.get q=some (.cells (l.map Nd.cells).flatten 0 true):=by rw [f5 _ (by omega),Hp.get_alloc,if_neg (by omega)];exact gq4
      have h1v5:AV.one v5=true ∧ v5.cells=[v5]:=by obtain ⟨r,imm,rfl,_⟩:=s5;exact ⟨rfl,rfl⟩
      obtain ⟨hv51,hv52⟩:=h1v5
      have e1:(H1.next == H4.next)=false:=ne_beq (by omega)
      clear n5 f5 o5 hvb
      repeat' (first
         | (apply Rx.nl ?_;clear hK K)|apply Ry.o ?_|apply Ry.on ?_|(apply Ry.call ?_;first|refine Rx.k (pick_en (fun _=>rfl) _ _ hl2 _) ?_)|(apply Ry.cd (fun hb hbp=>?_) (fun hb hbp=>?_) <;> try (cases hb;done))|apply Wp.seq ?_|(apply Wp.ops' fun K hK=>?_)|(apply Rx.dT 13 [(1,7),(1,10),(5,7),(9,10)] fun K hK=>?_)|(apply Rx.dT 16 [(1,7),(1,13),(1,16),(5,7),(6,7),(11,7),(11,13)] fun K hK=>?_)|(apply Rx.nq ?_;try intro _)|(apply Rx.nt ?_ ?_ <;> clear hK K)|apply WpT.step ?_|apply WpT.step0 rfl ?_|apply Wp.block ?_|apply Rx.sk ?_|apply Rx.rt ?_)
      · exact eK
      · exact ⟨rfl,hfin _ n.op n.imm v5 (n.kids ++ [p - 1]) _ eE eE eE (by rw [Hp.get_set,if_pos rfl]) (by rw [Hp.get_set,if_neg (by omega)];exact gq5) hv51 (hS _ _ _ _ _ (.inr (s5.keep (Nat.le_refl _) fun k hk=>by rw [Hp.get_set,if_neg (by have:=(s5.lt hk).1;omega)]))) (by simp only [Hp.next_set];omega) (by omega) hmn⟩
    rw [if_neg c2] at hmn
    have hd0:∀ (Hx:Hp),IntZ Hx kv n.kids H2.next → CellsW (fun j=>j ≠ q) 2 Hx [.int .i64 n.op,.int .i64 n.imm,kv] (Nd.mk n.op n.imm n.kids).cells:=fun Hx h=>hS _ _ _ _ _ (.inr h.b)
    by_cases c3:m=3
    · rw [if_pos c3] at hmn
      by_cases hke:n.kids=[]
      · rw [if_pos hke] at hmn
        obtain ⟨r,hkvr,gr,lr,rl⟩:=s4
        have hlen0:n.kids.length=0:=by rw [hke];rfl
        have hz:=hd0 H4 ⟨r,hkvr,gr,lr,rl⟩
        rw [hlen0] at hkvr
        have hlk:lenAt Try.prog H4 26 kv=some (.int .i64 0):=by rw [hkvr];exact lenAt_sl Try.underlying26 _ _ _ _
        clear hkvr
        repeat' (first
           | (apply Rx.nl ?_;clear hK K)|apply Ry.o ?_|apply Ry.on ?_|(apply Ry.cd (fun hb hbp=>?_) (fun hb hbp=>?_) <;> try (cases hb;done))|apply Wp.seq ?_|(apply Wp.ops' fun K hK=>?_)|(apply Rx.dT 13 [(1,7),(1,10),(5,7),(9,10)] fun K hK=>?_)|(apply Rx.dT 16 [(1,7),(1,13),(1,16),(5,7),(6,7),(11,7),(11,13)] fun K hK=>?_)|(apply Rx.nq ?_;try intro _)|(apply Rx.nt ?_ ?_ <;> clear hK K)|apply WpT.step ?_|apply WpT.step0 rfl ?_|apply Wp.block ?_|apply Rx.sk ?_|apply Rx.rt ?_)
        exact ⟨rfl,hfin _ n.op n.imm kv n.kids _ eE eE eE g94 gq4 hkv1 hz nq4 (by omega) hmn⟩
      · rw [if_neg hke] at hmn
        have hlp2:0 < n.kids.length:=List.length_pos_iff.2 hke
        have hkne:(n.kids.length:Int) ≠ 0:=by omega
        have hr1:=pickG_range (n:=w64 (how.tdiv 10)) (m:=n.kids.length) (by omega) (by omega)
        obtain ⟨p1,hp1⟩:=Int.eq_ofNat_of_zero_le hr1.1
        have hp1':pickG (IntKind.wrap .i64 (how.tdiv 10)) n.kids.length=p1:=hp1
        have hr2:=pickG_range (n:=w64 (a.tdiv 3)) (m:=(l.length:Int) + 2) (by omega) (by omega)
        obtain ⟨p2,hp2⟩:∃ p,pickG (w64 (a.tdiv 3)) ((l.length:Int) + 2)=p:=⟨_,rfl⟩
        have hp2':pickG (IntKind.wrap .i64 (a.tdiv 3)) ((l.length:Int) + 2)=p2:=hp2
        rw [hp1,hp2,Int.toNat_natCast] at hmn
        rw [hp1] at hr1
        rw [hp2] at hr2
        have ew:IntKind.wrap .i64 (p2 - 1)=p2 - 1:=i64_id (by omega) (by omega)
        have hp1l:p1 < n.kids.length:=by omega
        clear hp1 hp2
        obtain ⟨r,hkvr,gr,lr,rl⟩:=s4
        have hlk:∀ H:Hp,lenAt Try.prog H 26 kv=some (.int .i64 n.kids.length):=fun H=>by rw [hkvr];exact lenAt_sl Try.underlying26 _ _ _ _
        have hix:indexAddrA Try.prog 26 kv (.int .i64 (p1:Int))=some (.ptr r p1):=by rw [hkvr,index_sl Try.underlying26 sz3 hp1l];simp
        have hgt:(0:Int) < n.kids.length:=by omega
        have er:(H1.next == r)=false:=ne_beq (by omega)
        repeat' (first
           | (apply Rx.nl ?_;clear hK K)|apply Ry.o ?_|apply Ry.on ?_|(apply Ry.call ?_;first|refine Rx.k (pick_en (fun _=>rfl) _ _ hkne _) ?_|refine Rx.k (pick_en (fun _=>rfl) _ _ hl2 _) ?_)|(apply Ry.cd (fun hb hbp=>?_) (fun hb hbp=>?_) <;> try (cases hb;done))|apply Wp.seq ?_|(apply Wp.ops' fun K hK=>?_)|(apply Rx.dT 13 [(1,7),(1,10),(5,7),(9,10)] fun K hK=>?_)|(apply Rx.dT 16 [(1,7),(1,13),(1,16),(5,7),(6,7),(11,7),(11,13)] fun K hK=>?_)|(apply Rx.nq ?_;try intro _)|(apply Rx.nt ?_ ?_ <;> clear hK K)|apply WpT.step ?_|apply WpT.step0 rfl ?_|apply Wp.block ?_|apply Rx.sk ?_|apply Rx.rt ?_)
        refine WpL.store eV eV (set_int gr (by rw [List.length_map];exact hp1l) _) ?_
        repeat' (first
           | (apply Rx.nl ?_;clear hK K)|apply Rx.o ?_|apply Rx.on ?_|apply Wp.seq ?_|(apply Wp.ops' fun K hK=>?_)|(apply Rx.dT 13 [(1,7),(1,10),(5,7),(9,10)] fun K hK=>?_)|(apply Rx.dT 16 [(1,7),(1,13),(1,16),(5,7),(6,7),(11,7),(11,13)] fun K hK=>?_)|(apply Rx.nq ?_;try intro _)|(apply Rx.nt ?_ ?_ <;> clear hK K)|apply WpT.step ?_|apply WpT.step0 rfl ?_|apply Wp.block ?_|apply Rx.sk ?_|apply Rx.rt ?_)
        · exact eK
        · refine ⟨rfl,hfin _ n.op n.imm kv (n.kids.set p1 (p2 - 1)) _ eE eE eE (by rw [Hp.get_set,if_neg (by omega)];exact g94) (by rw [Hp.get_set,if_neg (by omega)];exact gq4) hkv1 (hS _ _ _ _ _ (.inr ⟨r,0,by rw [List.length_set];exact hkvr,by rw [Hp.get_set,if_pos rfl,List.map_set],Nat.zero_le _,lr,rl⟩)) nq4 (by omega) hmn⟩
    rw [if_neg c3] at hmn
    by_cases c4:m=4
    · rw [if_pos c4] at hmn
      obtain ⟨r,hkvr,gr,lr,rl⟩:=s4
      have hz:=hd0 H4 ⟨r,hkvr,gr,lr,rl⟩
      have hlk:∀ H:Hp,lenAt Try.prog H 26 kv=some (.int .i64 n.kids.length):=fun H=>by rw [hkvr];exact lenAt_sl Try.underlying26 _ _ _ _
      by_cases hke:n.kids.length=0
      · have hgt : ¬ (0 : Int) < n.kids.length := by omega
        have hke2:n.kids.drop 1=n.kids:=by rw [List.eq_nil_of_length_eq_zero hke];rfl
        rw [hke2] at hmn
        clear hke
        repeat' (first
           | (apply Rx.nl ?_;clear hK K)|apply Ry.o ?_|apply Ry.on ?_|(apply Ry.cd (fun hb hbp=>?_) (fun hb hbp=>?_) <;> try (cases hb;done))|apply Wp.seq ?_|(apply Wp.ops' fun K hK=>?_)|(apply Rx.dT 13 [(1,7),(1,10),(5,7),(9,10)] fun K hK=>?_)|(apply Rx.dT 16 [(1,7),(1,13),(1,16),(5,7),(6,7),(11,7),(11,13)] fun K hK=>?_)|(apply Rx.nq ?_;try intro _)|(apply Rx.nt ?_ ?_ <;> clear hK K)|apply WpT.step ?_|apply WpT.step0 rfl ?_|apply Wp.block ?_|apply Rx.sk ?_|apply Rx.rt ?_)
        exact ⟨rfl,hfin _ n.op n.imm kv n.kids _ eE eE eE g94 gq4 hkv1 hz nq4 (by omega) hmn⟩
      · have hgt : (0 : Int) < n.kids.length := by omega
        obtain ⟨kv5,hsl,h51,h52,hc5⟩:=drop_slice (S:=fun j=>j ≠ q) (r:=r) (H:=H4) (kids:=n.kids) (by omega) gr rl (by omega)
        have hslH:∀ H:Hp,sliceHA Try.prog H 26 kv (some (.int .i64 1)) none=some kv5:=fun H=>by rw [hkvr];exact hsl
        clear hsl hkvr
        repeat' (first
           | (apply Rx.nl ?_;clear hK K)|apply Ry.o ?_|apply Ry.on ?_|(apply Ry.cd (fun hb hbp=>?_) (fun hb hbp=>?_) <;> try (cases hb;done))|apply Wp.seq ?_|(apply Wp.ops' fun K hK=>?_)|(apply Rx.dT 13 [(1,7),(1,10),(5,7),(9,10)] fun K hK=>?_)|(apply Rx.dT 16 [(1,7),(1,13),(1,16),(5,7),(6,7),(11,7),(11,13)] fun K hK=>?_)|(apply Rx.nq ?_;try intro _)|(apply Rx.nt ?_ ?_ <;> clear hK K)|apply WpT.step ?_|apply WpT.step0 rfl ?_|apply Wp.block ?_|apply Rx.sk ?_|apply Rx.rt ?_)
        exact ⟨rfl,hfin _ n.op n.imm kv5 (n.kids.drop 1) _ eE eE eE (by rw [Hp.get_set,if_pos rfl]) (by rw [Hp.get_set,if_neg (by omega)];exact gq4) h51 (.cons (.int _ _) (.cons (.int _ _) (.cons (hc5 _ (by simp only [Hp.next_set];omega) (by rw [Hp.get_set,if_neg (by omega)])) .nil))) nq4 (by omega) hmn⟩
    rw [if_neg c4] at hmn
    by_cases c5:m=5
    · rw [if_neg (by omega)] at hmn
      have hcw:∀ Hx:Hp,H4.next ≤ Hx.next → (∀ k,H2.next ≤ k → k < H4.next → Hx.get k=H4.get k) → CellsW (fun j=>j ≠ q) 2 Hx [.int .i64 n.op,.int .i64 n.imm,kv] n.cells:=fun Hx h1 h2=>hS kv n.kids n.op n.imm Hx (.inr (s4.b.keep h1 fun k hk=>h2 k (s4.b.lt hk).1 (s4.b.lt hk).2))
      have hone:=ho3 n.op n.imm kv hkv1
      have kbs:=fun H=>bsN1 H (cs:=[.int .i64 n.op,.int .i64 n.imm,kv]) rfl hone
      have hH24:H2.next ≤ H4.next:=by obtain ⟨r,_,_,h1,h2⟩:=s4;omega
      have a5:=app_row0 (P:=Try.prog) (t:=60) (H:=H4.alloc (.cells [.int .i64 n.op,.int .i64 n.imm,kv] 0 true)) (q:=q) (r:=H4.next) (imm:=0) (rows:=l.map Nd.cells) (row:=[.int .i64 n.op,.int .i64 n.imm,kv]) Try.underlying60 sz66 bt66 zr66 rfl (by kernel_rfl) (by rw [Hp.get_alloc,if_neg (by omega)];exact gq4) (rows_nds l) (by rw [Hp.get_alloc,if_pos rfl]) rfl hone (by simp [maxRoom];omega) (by simp [maxRoom];omega)
      rw [hlm] at a5
      generalize hHc:Hp.alloc (Hp.kill (H4.alloc _) _) _=H5 at a5
      have n5:H4.next + 2 ≤ H5.next:=by rw [← hHc];exact Nat.le_refl _
      have g5:H5.get (H4.next + 1)=some (.cells ((l.map Nd.cells).flatten ++ [.int .i64 n.op,.int .i64 n.imm,kv]) 0 true):=by rw [← hHc,Hp.get_alloc,if_pos (by simp only [Hp.next_kill,Hp.next_alloc])]
      have o5:∀ j,j < H4.next → j ≠ q → H5.get j=H4.get j:=fun j hj hjq=>by rw [← hHc,Hp.get_alloc,if_neg (by simp only [Hp.next_kill,Hp.next_alloc];omega),Hp.get_kill,if_neg hjq,Hp.get_alloc,if_neg (by omega)]
      clear hHc
      have g95:H5.get H1.next=some (.cells [.int .i64 n.op,.int .i64 n.imm,kv] 0 true):=by rw [o5 _ (by omega) (by omega)];exact g94
      rw [Hp.next_alloc] at a5
      obtain ⟨rk,hkvr,grk,lrk,rrk⟩:=s4
      have hrd5:RdW (fun j=>j ≠ H4.next + 1) 2 H5 kv (lstI n.kids):=by
        rw [hkvr]
        exact RdW.intsM n.kids (by omega) (by omega) (by rw [o5 rk rrk (by omega)];exact grk) (Nat.zero_le _)
      have hcw5:CellsW (fun j=>j ≠ H4.next + 1) 2 H5 [.int .i64 n.op,.int .i64 n.imm,kv] n.cells:=.cons (.int _ _) (.cons (.int _ _) (.cons hrd5 .nil))
      have hrl5:(l.map Nd.cells ++ [[.int .i64 n.op,.int .i64 n.imm,kv]]).length=l.length + 1:=by simp
      clear hkvr grk hrd5 o5
      repeat' (first
         | (apply Rx.nl ?_;clear hK K)|apply Ry.o ?_|apply Ry.on ?_|(apply Ry.cd (fun hb hbp=>?_) (fun hb hbp=>?_) <;> try (cases hb;done))|apply Wp.seq ?_|(apply Wp.ops' fun K hK=>?_)|(apply Rx.dT 13 [(1,7),(1,10),(5,7),(9,10)] fun K hK=>?_)|(apply Rx.dT 16 [(1,7),(1,13),(1,16),(5,7),(6,7),(11,7),(11,13)] fun K hK=>?_)|(apply Rx.nq ?_;try intro _)|(apply Rx.nt ?_ ?_ <;> clear hK K)|apply WpT.step ?_|apply WpT.step0 rfl ?_|apply Wp.block ?_|apply Rx.sk ?_|apply Rx.rt ?_)
      refine ⟨rfl,H4.next + 1,l.map Nd.cells ++ [[.int .i64 n.op,.int .i64 n.imm,kv]],[.int .i64 n.op,.int .i64 n.imm,kv],⟨?_,eE,⟨H1.next,eE,g95,by omega⟩,by rw [g5];simp,?_,rfl,hone,?_,by rw [hmn];exact hcw5,by omega⟩⟩
      · rw [hrl5];exact eE
      · intro x hx
        rcases List.mem_append.1 hx with h|h
        · exact rows_nds l x h
        · rw [List.mem_singleton] at h;subst h;rfl
      · rw [if_pos c5, List.map_append]
        exact All2.append (RowsW.nds l) ⟨⟨rfl,hcw5⟩,trivial⟩
    by_cases c6:m=6
    · rw [if_pos c6] at hmn
      obtain ⟨p,hp⟩:∃ p,pickG (w64 (how.tdiv 10)) 40=p:=⟨_,rfl⟩
      have hp':pickG (IntKind.wrap .i64 (how.tdiv 10)) 40=p:=hp
      rw [hp] at hmn
      clear hp
      repeat' (first
         | (apply Rx.nl ?_;clear hK K)|apply Ry.o ?_|apply Ry.on ?_|(apply Ry.call ?_;first|refine Rx.k (pick_en (fun _=>rfl) _ _ (by decide) _) ?_)|(apply Ry.cd (fun hb hbp=>?_) (fun hb hbp=>?_) <;> try (cases hb;done))|apply Wp.seq ?_|(apply Wp.ops' fun K hK=>?_)|(apply Rx.dT 13 [(1,7),(1,10),(5,7),(9,10)] fun K hK=>?_)|(apply Rx.dT 16 [(1,7),(1,13),(1,16),(5,7),(6,7),(11,7),(11,13)] fun K hK=>?_)|(apply Rx.nq ?_;try intro _)|(apply Rx.nt ?_ ?_ <;> clear hK K)|apply WpT.step ?_|apply WpT.step0 rfl ?_|apply Wp.block ?_|apply Rx.sk ?_|apply Rx.rt ?_)
      exact ⟨rfl,hfin _ 3 p .nilS [] _ eE eE eE (by rw [Hp.get_set,if_pos rfl]) (by rw [Hp.get_set,if_neg (by omega),Hp.get_set,if_neg (by omega),Hp.get_set,if_neg (by omega)];exact gq4) rfl (nd_nil 3 p) nq4 (by omega) hmn⟩
    rw [if_neg c6] at hmn
    repeat' (first
       | (apply Rx.nl ?_;clear hK K)|apply Ry.o ?_|apply Ry.on ?_|(apply Ry.cd (fun hb hbp=>?_) (fun hb hbp=>?_) <;> try (cases hb;done))|apply Wp.seq ?_|(apply Wp.ops' fun K hK=>?_)|(apply Rx.dT 13 [(1,7),(1,10),(5,7),(9,10)] fun K hK=>?_)|(apply Rx.dT 16 [(1,7),(1,13),(1,16),(5,7),(6,7),(11,7),(11,13)] fun K hK=>?_)|(apply Rx.nq ?_;try intro _)|(apply Rx.nt ?_ ?_ <;> clear hK K)|apply WpT.step ?_|apply WpT.step0 rfl ?_|apply Wp.block ?_|apply Rx.sk ?_|apply Rx.rt ?_)
    exact ⟨rfl,hfin _ n.op n.imm kv n.kids _ eE eE eE g94 gq4 hkv1 (hd0 H4 s4) nq4 (by omega) hmn⟩
  · rintro E5 H5 ⟨q', rows, row, hF⟩
    obtain ⟨k7,k8,⟨r,k9,gr,hrq⟩,gq',hr3,hw3,hone,hrw,hcw,hlt⟩:=hF
    have hrl:rows.length=((if m=5 then l ++ [n] else l).map Nd.cells).length:=All2.len hrw
    have hkr:k < rows.length:=by
      rw [hrl,List.length_map]
      split
      · rw [List.length_append];omega
      · exact hkl
    have hst:=astore_row (P:=Try.prog) (t:=66) sz66 gq' hr3 hkr hw3 hone
    dsimp only [thenQ,blockQ]
    obtain ⟨x0,x1,x2,rfl⟩:=len3g hw3
    have hix:indexAddrA Try.prog 60 (.sl q' 0 rows.length 3) (.int .i64 (k:Int))=some (.ptr q' (k * 3)):=by
      rw [index_sl Try.underlying60 sz66 hkr,Nat.zero_add]
    clear hrl
    repeat' (first
       | (apply Rx.nl ?_;clear hK K)|apply Rx.o ?_|apply Rx.on ?_|apply Wp.seq ?_|(apply Wp.ops' fun K hK=>?_)|(apply Rx.dT 13 [(1,7),(1,10),(5,7),(9,10)] fun K hK=>?_)|(apply Rx.dT 16 [(1,7),(1,13),(1,16),(5,7),(6,7),(11,7),(11,13)] fun K hK=>?_)|(apply Rx.nq ?_;try intro _)|(apply Rx.nt ?_ ?_ <;> clear hK K)|apply WpT.step ?_|apply WpT.step0 rfl ?_|apply Wp.block ?_|apply Rx.sk ?_|apply Rx.rt ?_)
    all_goals (refine ⟨eI,_,eR,?_⟩;try simp only [oneOr])
    have hsl:(rows.set k [x0,x1,x2]).length=rows.length:=List.length_set
    have hrd:RdW (fun _=>True) 3 (H5.set q' (.cells (rows.set k [x0,x1,x2]).flatten 0 true)) (.sl q' 0 (rows.set k [x0,x1,x2]).length 3) (.lst (((if m=5 then l ++ [n] else l).map Nd.cells).set k w.cells)):=by
      refine RdW.rows (imm:=0) (tip:=true) trivial hlt (by rw [Hp.get_set,if_pos rfl]) (Nat.zero_le _) ?_
      have hk2:∀ j,j ≠ q' → (H5.set q' (.cells (rows.set k [x0,x1,x2]).flatten 0 true)).get j=H5.get j:=fun j hj=>by rw [Hp.get_set,if_neg hj]
      exact All2.set (RowsW.keep2 (H':=H5.set q' (.cells (rows.set k [x0,x1,x2]).flatten 0 true)) hrw (fun _ _ _=>trivial) (Nat.le_refl _) fun j hj _=>hk2 j hj) ⟨rfl,CellsW.keep2 (H':=H5.set q' (.cells (rows.set k [x0,x1,x2]).flatten 0 true)) hcw (fun _ _ _=>trivial) (Nat.le_refl _) fun j hj _=>hk2 j hj⟩
    obtain ⟨u,h1,h2⟩:=hrd
    obtain ⟨m0,hm0⟩:=Ic.iceV h1
    rw [hsl] at hm0
    refine ⟨m0,u,hm0 m0 (Nat.le_refl _),?_⟩
    rw [h2 60 (by omega),hmut,lstN,List.map_set])
end Go.Proofs.Ytackdnelcpbfjaa
namespace Go.Ab
set_option maxRecDepth 20000
open Go Go.WideShapes Go.Deep Go.RowKit Go.ChangeShapes
def memF (W:World):Nat → Nat → Option Value:=fun b o=>W.cell? ⟨b,o,none⟩
theorem memF_ok (W:World):∀ b o v,memF W b o=some v → W.cell? ⟨b,o,none⟩=some v:=fun _ _ _ h=>h
section
variable {H:Type} {enc:TypeId × Value → H} {P:Program} {W:World}
theorem arg_ints {r : Reach} {b0 : Nat} {t e : TypeId} {k : IntKind} {v : Value} {d : DataW H} {ps : List MemPlace} {sp : Nat → Bool} {held : Bool} (ht : P.underlying t = some (.slice e)) (he : P.underlying e = some (.int k)) (hc : P.cellsOf e = 1) (hval : Value.okWide P W r b0 t v) (hd : DataW.Trod enc P W 0 sp held t v d ps) (β : Nat → Option (Nat × Nat × Nat)) (ρ : Nat → Int) :
    ∃ l:List Int,VR ⟨β,memF W,ρ⟩ (.lst (l.map fun n=>[AV.int k n])) v ∧ l.length ≤ maxLen:=by
  obtain ⟨a0,len0,cap0,rfl⟩:=okWide_slice ht hval
  obtain ⟨fuel,hf⟩:=hd
  rcases open_slice1 ht hc hf with ⟨h,_⟩|⟨a,len,cap,m,n,V,D,Pl,h,hb,hl,hm,hmm,hx,hV⟩
  · simp [Value.cells] at h
    obtain ⟨rfl,rfl,rfl⟩:=h
    exact ⟨[],.lst0 _ _,Nat.zero_le _⟩
  · simp [Value.cells] at h
    obtain ⟨rfl,rfl,rfl⟩:=h
    have hlm:len0 ≤ m:=by rw [hmm];split <;> omega
    have hint:∀ i,∃ n:Int,i < len0 → V i=.int k n:=fun i=>by
      by_cases hi:i < len0
      · obtain ⟨n', h1, _⟩ := DataW.trod_int he (hV i (by omega)).2
        simp at h1
        exact ⟨n',fun _=>h1⟩
      · exact ⟨0,fun h=>absurd h hi⟩
    obtain ⟨N,hN⟩:=Classical.axiomOfChoice hint
    refine ⟨(List.range len0).map N,?_,by simp;omega⟩
    by_cases h0:len0=0
    · subst h0;exact .lst0 _ _
    obtain ⟨ab,ao,asp⟩:=a
    have hspot:asp=none:=by
      have:=(hV 0 (by omega)).1
      simp only [Addr.add,if_true,World.cell?] at this
      split at this
      · split at this
        · cases this
        · rename_i hn
          cases asp with
          | none=>rfl
          | some s=>simp at hn
      · cases this
    subst hspot
    have hlen:(((List.range len0).map N).map fun n=>[AV.int k n]).length=len0:=by simp
    have key:=VR.lst (G:=⟨β,memF W,ρ⟩) (xs:=((List.range len0).map N).map fun n=>[AV.int k n]) (b:=ab) (o:=ao) (cap:=cap0) (z:=1) (fun i _=>V i) ?_ ?_ ?_ (by rw [hlen];omega)
    · rw [hlen] at key;exact key
    · intro i row hr
      rw [List.getElem?_map] at hr
      cases hq:((List.range len0).map N)[i]? with
      | none=>rw [hq] at hr;simp at hr
      | some q=>rw [hq] at hr;simp only [Option.map_some,Option.some.injEq] at hr;rw [← hr];rfl
    · intro i j hi hj
      rw [hlen] at hi
      have h2:=(hV i (by omega)).1
      show W.cell? ⟨ab,ao + i * 1 + j,none⟩=some (V i)
      have hj0:j=0:=by omega
      subst hj0
      rw [← h2]
      congr 1
      unfold Addr.add
      split
      · rename_i h;subst h;rfl
      · simp
    · intro i j row c hr hcj
      rw [List.getElem?_map,List.getElem?_map] at hr
      by_cases hi:i < len0
      · rw [List.getElem?_range hi] at hr
        simp only [Option.map_some,Option.some.injEq] at hr
        subst hr
        cases j with
        | zero =>
          simp only [List.getElem?_cons_zero,Option.some.injEq] at hcj
          subst hcj
          show VR _ _ (V i)
          rw [hN i hi]
          exact .int k _
        | succ j=>simp at hcj
      · rw [List.getElem?_eq_none (by simp; omega)] at hr
        simp at hr
theorem arg_stays {t:TypeId} (hl:laidOutB P=true) (hr:P.readableRec t=true) (hrow:t < P.types.size) {W':World} {v:Value} {d:DataW H} {ps before:List MemPlace}
   (h:DataW.Trod enc P W 0 (fun _=>true) true t v d ps) (hb:Below W.heap.size W W') (hlt:∀ p ∈ before,p.block < W.heap.size) (hps:∀ p ∈ ps,p ∈ before) {sp:Nat → Bool} (hsp:∀ p ∈ before,sp p.block=true) :
   DataW.Trod enc P W' 0 sp true t v d ps:=
 WideElems.Trod_stays hl hr hrow h (fun x hx=>hb.same (hlt x (hps x hx))) fun x hx=>hsp x (hps x hx)
end
end Go.Ab
namespace Go.Proofs.Ytackdnelcpbfjaa
set_option maxRecDepth 20000
open Go Go.Ab
def intRows (l:List Int):AV:=.lst (l.map fun n=>[.int .i64 n])
theorem intRows_pure (l:List Int):PureA (intRows l):=.map fun n _=>.cons (.int _ _) .nil
theorem maxLen_lt {n:Nat} (h:n ≤ maxLen):n < 2 ^ 63:=Nat.lt_of_le_of_lt h (by decide)
theorem cells_int:Try.prog.cellsOf 3=1:=by kernel_rfl
set_option maxRecDepth 100000 in
theorem seeds_arg {H:Type} {enc:TypeId × Value → H} {W:World} {v0:Value} {r:Reach} {b0:Nat} (k0:Value.okWide Try.prog W r b0 26 v0) {d:DataW H} {ps:List MemPlace} {sp:Nat → Bool} {held:Bool} (h0:DataW.Trod enc Try.prog W 0 sp held 26 v0 d ps):∃ l:List Int,VR ⟨fun _=>none,memF W,fun _=>0⟩ (intRows l) v0 ∧ l.length < 2 ^ 63:=by
 obtain ⟨l,hv,hl⟩:=arg_ints Try.underlying26 Try.underlying3 cells_int k0 h0 (fun _=>none) (fun _=>0)
 exact ⟨l,hv,maxLen_lt hl⟩
end Go.Proofs.Ytackdnelcpbfjaa
namespace Go.Proofs.Ytackdnelcpbfjaa
set_option maxRecDepth 20000
open Go Go.Ab
def ndE (l:List Int):List AV:=[lstI l,.bool false]
theorem ndE_inj (x y:List Int) (h:ndE x=ndE y):x=y:=by
 simp only [ndE,List.cons.injEq,and_true] at h;exact lstI_inj h
noncomputable def enNd:En:=⟨23,false,spP (fun l=>l.length < 2 ^ 63) ndE fun l=>lstN (nodesL l false)⟩
theorem enNd_ok (ρ:Nat → Int):EnOk Try.prog ρ enNd:=spP_ok fun l hl=>nodes_con ρ l hl
theorem nd_en {tb:List En} (ht:∀ ar,lookN tb 23 ar=enNd.sp ar) (l:List Int) (hl:l.length < 2 ^ 63) (H:Hp):WpCall Try.prog (cfgN pls tb) 23 [lstI l,.bool false] H fun v H'=>v=lstN (nodesL l false) ∧ H'=H:=
 WpCall.en (enc:=ndE) (ok:=fun l=>l.length < 2 ^ 63) (out:=fun l=>lstN (nodesL l false)) ndE_inj (x:=l) (ht _) hl
noncomputable def enMut:En:=⟨22,true,spP muxOk muxE fun x=>lstN (mutN x.l x.how x.a)⟩
theorem enMut_ok (ρ:Nat → Int):EnOk Try.prog ρ enMut:=spP_ok fun x hx=>mutate_con ρ x hx
theorem mutn_en {tb:List En} (ht:∀ ar,lookN tb 22 ar=enMut.sp ar) (l:List Nd) (how a:Int) (hl:NdsOk l ∧ l ≠ []) (H:Hp):WpCall Try.prog (cfgN pls tb) 22 [lstN l,.int .i64 how,.int .i64 a] H fun v H'=>v=lstN (mutN l how a) ∧ H'=H:=
 WpCall.en (enc:=muxE) (ok:=muxOk) (out:=fun x=>lstN (mutN x.l x.how x.a)) muxE_inj (x:=⟨l,how,a⟩) (ht _) hl
theorem nodesL_ok (l:List Int):NdsOk (nodesL l false):=nodesK_ok l false (Nat.min_le_right _ _)
theorem mutL_ok (l:List Int) (how a:Int):NdsOk (mutN (nodesL l false) how a) ∧ (mutN (nodesL l false) how a).length ≤ 18 ∧ mutN (nodesL l false) how a ≠ []:=by
 have h1:=nodesK_len l false (min l.length 14)
 have h2:=mutN_len (nodesL l false) how a
 have h3:(nodesL l false).length ≤ 17:=by unfold nodesL;omega
 have h4:=mutN_kids (nodesK_kids l false (min l.length 14)) how a
 exact ⟨⟨by omega,fun n hn=>by have:=h4 n hn;omega⟩,by omega,mutN_ne (nodesL_ne l false) how a⟩
end Go.Proofs.Ytackdnelcpbfjaa
