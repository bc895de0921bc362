/- Parts: G1, G2. -/
import Derived.Test.YtackdnelcpbfjaaSRI
set_option linter.unusedSimpArgs false
set_option linter.unusedVariables false
set_option linter.unusedSectionVars false
set_option linter.defProp false
set_option maxHeartbeats 32000000
namespace Go.Proofs.Ytackdnelcpbfjaa
set_option maxRecDepth 20000
set_option maxRecDepth 20000
open Go Go.Ab
namespace tyG1
def tyF:=And.intro @tq3 (And.intro @tq2 (And.intro @tq54 (And.intro @tq9 (And.intro @tq35 (And.intro @bin_rem (@bin_quo))))))
end tyG1
open tyG1
noncomputable def code16:{ c:SC // slim 14 (Try.f16.body.getD .skip)=c }:=by
 refine ⟨?_,?_⟩
 rotate_left
 · simp only [Try.f16, Option.getD_some, slim, slimR, slimL, slimD, slimG, Nat.blt, Nat.ble]
   rfl
noncomputable def code56:{ c:SC // slim 25 (Try.f56.body.getD .skip)=c }:=by
 refine ⟨?_,?_⟩
 rotate_left
 · simp only [Try.f56, Option.getD_some, slim, slimR, slimL, slimD, slimG, Nat.blt, Nat.ble]
   rfl
noncomputable def code66:{ c:SC // slim 7 (Try.f66.body.getD .skip)=c }:=by
 refine ⟨?_,?_⟩
 rotate_left
 · simp only [Try.f66, Option.getD_some, slim, slimR, slimL, slimD, slimG, Nat.blt, Nat.ble]
   rfl
def pickG (n m:Int):Int:=if n.tmod m < 0 then w64 (n.tmod m + m) else n.tmod m
theorem pickG_range {n m:Int} (h:0 < m) (h2:m < 2 ^ 62):0 ≤ pickG n m ∧ pickG n m < m:=by
 unfold pickG
 have h3:=Int.tmod_lt_of_pos n h
 have h4:-m < n.tmod m:=by
   have:=Int.tmod_lt_of_pos (-n) h
   rw [Int.neg_tmod] at this
   omega
 split
 · unfold w64
   rw [IntWalk.i64_in _ (by omega)];omega
 · omega
def pkE (x:Int × Int):List AV:=[.int .i64 x.1,.int .i64 x.2]
theorem pkE_inj (x y:Int × Int) (h:pkE x=pkE y):x=y:=by
 simp only [pkE,List.cons.injEq,AV.int.injEq,and_true,true_and] at h
 exact Prod.ext h.1 h.2
theorem pick_con (ρ:Nat → Int) (x:Int × Int) (hx:x.2 ≠ 0):Con Try.prog ρ 16 (pkE x) (.int .i64 (pickG x.1 x.2)):=Con.lev fit (pls:=pls) (l:=[]) trivial (.cons (.int _ _) (.cons (.int _ _) .nil)) (.int _ _) (by
 have hw:=plain0 16
 obtain ⟨n,m⟩:=x
 rw [pkE]
 simp only [] at hx ⊢
 refine WpCall.slim (M:=14) (rs:=[.tmp 4]) (hw.call _) hw.ice hw.froz Try.func16 rfl rfl code16.2 rfl ?_;dsimp only [code16,envOf,Nat.reduceAdd]
 repeat' (first
    | (apply Rx.nl ?_;clear hK K)|apply Rx.o ?_|(apply Rx.cd (fun hb hbp=>?_) (fun hb hbp=>?_) <;> try (cases hb;done))|apply Wp.seq ?_|(apply Wp.ops' fun K hK=>?_)|apply Rx.sk ?_|apply Rx.rt ?_)
 all_goals (refine ⟨eI,_,eR,?_⟩;try simp only [oneOr])
 all_goals (simp_all [pickG];try omega))
noncomputable def enPick:En:=⟨16,false,spP (fun x=>x.2 ≠ 0) pkE fun x=>.int .i64 (pickG x.1 x.2)⟩
theorem enPick_ok (ρ:Nat → Int):EnOk Try.prog ρ enPick:=spP_ok fun x hx=>pick_con ρ x hx
theorem pick_en {l:List En} (hl:∀ ar,lookN l 16 ar=enPick.sp ar) (n m:Int) (hm:m ≠ 0) (H:Hp):WpCall Try.prog (cfgN pls l) 16 [.int .i64 n,.int .i64 m] H fun v H'=>v=.int .i64 (pickG n m) ∧ H'=H:=
 WpCall.en (enc:=pkE) (ok:=fun x=>x.2 ≠ 0) (out:=fun x=>.int .i64 (pickG x.1 x.2)) pkE_inj (x:=(n,m)) (hl _) hm
def edgesG:List Int:=[0,1,-1,2,-9223372036854775808,9223372036854775807,4294967296,-2147483648,63,64]
def wordG (n raw:Int):Int:=if pickG n 24 < 10 then edgesG.getD (pickG n 24).toNat 0 else if pickG n 24 < 22 then w64 (pickG (w64 (n.tdiv 24)) 17 - 6) else raw
theorem bsEd (H:Hp):buildSliceA Try.prog H 54 10 [(0,.int .i64 0),(1,.int .i64 1),(2,.int .i64 (-1)),(3,.int .i64 2),(4,.int .i64 (-9223372036854775808)),(5,.int .i64 9223372036854775807),(6,.int .i64 4294967296),(7,.int .i64 (-2147483648)),(8,.int .i64 63),(9,.int .i64 64)]=some (.sl H.next 0 10 1,H.alloc (.cells (edgesG.map fun n=>.int .i64 n) 0 true)):=by kernel_rfl
theorem word_con (ρ:Nat → Int) (x:Int × Int):Con Try.prog ρ 56 (pkE x) (.int .i64 (wordG x.1 x.2)):=Con.lev fit (pls:=pls) (l:=[enPick]) ⟨enPick_ok ρ,trivial⟩ (.cons (.int _ _) (.cons (.int _ _) .nil)) (.int _ _) (by
 have hw:Plain (cfgN pls [enPick]) 56:=plainN (fun _=>rfl) rfl
 obtain ⟨n,m⟩:=x
 have hr:=pickG_range (n:=n) (m:=24) (by omega) (by omega)
 have hp:0 ≤ pickG n 24:=hr.1
 rw [pkE]
 simp only []
 have hq:(24:Int) ≠ 0:=by decide
 refine WpCall.slim (M:=25) (rs:=[.tmp 4]) (hw.call _) hw.ice hw.froz Try.func56 rfl rfl code56.2 rfl ?_;dsimp only [code56,envOf,Nat.reduceAdd]
 have gh0:=@bsEd
 repeat' (first
    | (apply Rx.nl ?_;clear hK K)|apply Rx.o ?_|(apply Rx.call ?_;first|refine Rx.k (pick_en (fun _=>rfl) _ _ (by decide) _) ?_)|(apply Rx.cd (fun hb hbp=>?_) (fun hb hbp=>?_) <;> try (cases hb;done))|apply Wp.seq ?_|(apply Wp.ops' fun K hK=>?_)|apply Wp.block ?_|apply Rx.sk ?_|apply Rx.rt ?_)
 · have hlt : (pickG n 24).toNat < 10 := by omega
   have hg:edgesG[(pickG n 24).toNat]?=some (edgesG.getD (pickG n 24).toNat 0):=by
     rw [List.getD_eq_getElem?_getD,List.getElem?_eq_getElem (by simpa [edgesG] using hlt)];rfl
   repeat' (first
      | (apply Rx.nl ?_;clear hK K)|apply Ry.o ?_|apply Wp.seq ?_|(apply Wp.ops' fun K hK=>?_)|apply Wp.block ?_|apply Rx.sk ?_|apply Rx.rt ?_)
   all_goals (refine ⟨eI,_,eR,?_⟩;try simp only [oneOr])
   rw [wordG,if_pos (by assumption)]
 · all_goals (refine ⟨eI, _, eR, ?_⟩; try simp only [oneOr])
   rw [wordG,if_neg (by assumption),if_pos (by assumption)]
 · all_goals (refine ⟨eI, _, eR, ?_⟩; try simp only [oneOr])
   rw [wordG,if_neg (by assumption),if_neg (by assumption)])
noncomputable def enWord:En:=⟨56,false,spP (fun _=>True) pkE fun x=>.int .i64 (wordG x.1 x.2)⟩
theorem enWord_ok (ρ:Nat → Int):EnOk Try.prog ρ enWord:=spP_ok fun x hx=>word_con ρ x
theorem word_en {l:List En} (hl:∀ ar,lookN l 56 ar=enWord.sp ar) (n m:Int) (H:Hp):WpCall Try.prog (cfgN pls l) 56 [.int .i64 n,.int .i64 m] H fun v H'=>v=.int .i64 (wordG n m) ∧ H'=H:=
 WpCall.en (enc:=pkE) (ok:=fun _=>True) (out:=fun x=>.int .i64 (wordG x.1 x.2)) pkE_inj (x:=(n,m)) (hl _) trivial
def nmsG (f:Int):List (List UInt8):=if f=0 then [[120],[121],[105],[106]] else [[110],[105]]
theorem nmsG_len (f:Int):(nmsG f).length=4 ∨ (nmsG f).length=2:=by unfold nmsG;split <;> simp
theorem nms4 (H:Hp) (a b c d:List UInt8):buildSliceA Try.prog H 35 4 [(0,.str a),(1,.str b),(2,.str c),(3,.str d)]=some (.sl H.next 0 4 1,H.alloc (.cells [.str a,.str b,.str c,.str d] 0 true)):=by kernel_rfl
theorem nms2 (H:Hp) (a b:List UInt8):buildSliceA Try.prog H 35 2 [(0,.str a),(1,.str b)]=some (.sl H.next 0 2 1,H.alloc (.cells [.str a,.str b] 0 true)):=by kernel_rfl
theorem names_con (ρ:Nat → Int) (f:Int):Con Try.prog ρ 66 [.int .i64 f] (lstS (nmsG f)):=Con.of_made (m:=3) (cfg:=cfgN pls []) fit (noDec ρ) (fun f args r h=>by simp [cfgN,lookN] at h) (.cons (.int _ _) .nil) (by
 have hw:=plain0 66
 refine WpCall.slim (M:=7) (rs:=[.tmp 2]) (hw.call _) hw.ice hw.froz Try.func66 rfl rfl code66.2 rfl ?_;dsimp only [code66,envOf,Nat.reduceAdd]
 have gh0:=@nms4
 have gh1:=@nms2
 repeat' (first
    | (apply Rx.nl ?_;clear hK K)|apply Rx.o ?_|(apply Rx.cd (fun hb hbp=>?_) (fun hb hbp=>?_) <;> try (cases hb;done))|apply Wp.seq ?_|(apply Wp.ops' fun K hK=>?_)|apply Rx.sk ?_|apply Rx.rt ?_)
 · all_goals (refine ⟨eI, _, eR, ?_⟩; try simp only [oneOr])
   rw [nmsG,if_pos (by assumption)];rfl
 · all_goals (refine ⟨eI, _, eR, ?_⟩; try simp only [oneOr])
   rw [nmsG,if_neg (by assumption)];rfl)
noncomputable def enNms:En:=⟨66,false,spP (fun _=>True) (fun n:Int=>[.int .i64 n]) fun f=>lstS (nmsG f)⟩
theorem enNms_ok (ρ:Nat → Int):EnOk Try.prog ρ enNms:=spP_ok fun x hx=>names_con ρ x
theorem names_en {l:List En} (hl:∀ ar,lookN l 66 ar=enNms.sp ar) (f:Int) (H:Hp):WpCall Try.prog (cfgN pls l) 66 [.int .i64 f] H fun v H'=>v=lstS (nmsG f) ∧ H'=H:=
 WpCall.en (enc:=fun n:Int=>[.int .i64 n]) (ok:=fun _=>True) (out:=fun f=>lstS (nmsG f)) intE_inj (x:=f) (hl _) trivial
end Go.Proofs.Ytackdnelcpbfjaa
namespace Go.Proofs.Ytackdnelcpbfjaa
set_option maxRecDepth 20000
set_option maxRecDepth 20000
open Go Go.Ab
namespace tyG2
def tyF:=And.intro @tq3 (And.intro @tq26 (@tq80))
end tyG2
open tyG2
def RdW (S:Nat → Prop) (n:Nat) (H:Hp) (v w:AV):Prop:=∃ u,Ic S n H v u ∧ ∀ m,n ≤ m → wkN m u=w
def CellsW (S:Nat → Prop) (n:Nat) (H:Hp) (cs ws:List AV):Prop:=∃ us,All2 (Ic S n H) cs us ∧ ∀ m,n ≤ m → us.map (wkN m)=ws
theorem CellsW.frame {S S':Nat → Prop} (hS:∀ k,S k → S' k) {n:Nat} {H H':Hp} {v w:List AV} (h:CellsW S n H v w) (hn:H.next ≤ H'.next) (hf:∀ k,S k → k < H.next → SameB (H.get k) (H'.get k)):CellsW S' n H' v w:=by
 obtain ⟨u,h1,h2⟩:=h
 exact ⟨u,h1.mono fun a b k=>k.frame hS hn hf,h2⟩
theorem CellsW.keep {S S':Nat → Prop} (hS:∀ k,S k → S' k) {n:Nat} {H H':Hp} {v w:List AV} (h:CellsW S n H v w) (hn:H.next ≤ H'.next) (hf:∀ k,S k → k < H.next → H'.get k=H.get k):CellsW S' n H' v w:=h.frame hS hn fun k h1 h2=>.inl (hf k h1 h2).symm
theorem RdW.up {S:Nat → Prop} {n m:Nat} {H:Hp} {v w:AV} (h:RdW S n H v w) (hm:n ≤ m):RdW S m H v w:=by
 obtain ⟨u,h1,h2⟩:=h
 exact ⟨u,h1.up hm,fun k hk=>h2 k (by omega)⟩
theorem CellsW.up {S:Nat → Prop} {n m:Nat} {H:Hp} {v w:List AV} (h:CellsW S n H v w) (hm:n ≤ m):CellsW S m H v w:=by
 obtain ⟨u,h1,h2⟩:=h
 exact ⟨u,h1.mono fun a b k=>k.up hm,fun k hk=>h2 k (by omega)⟩
theorem CellsW.nil {S:Nat → Prop} {n:Nat} {H:Hp}:CellsW S n H [] []:=⟨[],trivial,fun _ _=>rfl⟩
theorem CellsW.cons {S:Nat → Prop} {n:Nat} {H:Hp} {v w:AV} {cs ws:List AV} (h:RdW S n H v w) (k:CellsW S n H cs ws):CellsW S n H (v :: cs) (w :: ws):=by
 obtain ⟨u,h1,h2⟩:=h
 obtain ⟨us,h3,h4⟩:=k
 exact ⟨u :: us,⟨h1,h3⟩,fun m hm=>by rw [List.map_cons,h2 m hm,h4 m hm]⟩
theorem CellsW.append {S:Nat → Prop} {n:Nat} {H:Hp}:∀ {a b c d:List AV},CellsW S n H a b → CellsW S n H c d → CellsW S n H (a ++ c) (b ++ d)
 | a,b,c,d,⟨u,h1,h2⟩,⟨v,h3,h4⟩=>⟨u ++ v,h1.append h3,fun m hm=>by rw [List.map_append,h2 m hm,h4 m hm]⟩
theorem RdW.flat {S:Nat → Prop} {n:Nat} {H:Hp} {v:AV} (h:flatA v) (hk:∀ m,wkN m v=v):RdW S (n + 1) H v v:=⟨v,Ic.flat h,fun m _=>hk m⟩
theorem RdW.int {S:Nat → Prop} {n:Nat} {H:Hp} (k:IntKind) (x:Int):RdW S (n + 1) H (.int k x) (.int k x):=.flat ⟨.int _ _,trivial⟩ fun m=>by cases m <;> rfl
theorem RdW.str {S:Nat → Prop} {n:Nat} {H:Hp} (s:List UInt8):RdW S (n + 1) H (.str s) (.str s):=.flat ⟨.str _,trivial⟩ fun m=>by cases m <;> rfl
theorem RdW.nilS {S:Nat → Prop} {n:Nat} {H:Hp}:RdW S (n + 1) H .nilS (.lst []):=⟨.nilS,Ic.flat ⟨.nilS,trivial⟩,fun m hm=>by
 obtain ⟨m,rfl⟩:∃ k,m=k + 1:=⟨m - 1,by omega⟩
 rfl⟩
def RowsW (S:Nat → Prop) (n:Nat) (H:Hp) (z:Nat):List (List AV) → List (List AV) → Prop:=All2 fun a b=>a.length=z ∧ CellsW S n H a b
theorem RowsW.two {S:Nat → Prop} {n z:Nat} {H:Hp}:∀ {a b:List (List AV)},RowsW S n H z a b → ∃ u,All2 (All2 (Ic S n H)) a u ∧ (∀ m,n ≤ m → u.map (List.map (wkN m))=b) ∧ ∀ x ∈ a,x.length=z
 | [],[],_=>⟨[],trivial,fun _ _=>rfl,by simp⟩
 | x :: a, y :: b, ⟨⟨hz, v, h1, h2⟩, h⟩ => by
   obtain ⟨u,h3,h4,h5⟩:=RowsW.two (a:=a) (b:=b) h
   exact ⟨v :: u,⟨h1,h3⟩,fun m hm=>by rw [List.map_cons,h2 m hm,h4 m hm],fun q hq=>by
     rcases List.mem_cons.1 hq with rfl|hq
     · exact hz
     · exact h5 q hq⟩
theorem RdW.rows {S:Nat → Prop} {n:Nat} {H:Hp} {r z imm:Nat} {tip:Bool} {a b:List (List AV)} (hS:S r) (hr:r < H.next) (hg:H.get r=some (.cells a.flatten imm tip)) (hi:imm ≤ a.flatten.length) (h:RowsW S n H z a b):RdW S (n + 1) H (.sl r 0 a.length z) (.lst b):=by
 obtain ⟨u,h1,h2,h3⟩:=RowsW.two h
 refine ⟨.lst u,Ic.rows hS hr hg hi h3 h1,fun m hm=>?_⟩
 obtain ⟨m,rfl⟩:∃ k,m=k + 1:=⟨m - 1,by omega⟩
 show AV.lst (u.map fun row=>row.map (wkN m))=_
 rw [← h2 m (by omega)]
theorem RowsW.frame {S S':Nat → Prop} (hS:∀ k,S k → S' k) {n z:Nat} {H H':Hp} {a b:List (List AV)} (h:RowsW S n H z a b) (hn:H.next ≤ H'.next) (hf:∀ k,S k → k < H.next → H'.get k=H.get k):RowsW S' n H' z a b:=All2.mono (fun x y k=>⟨k.1,k.2.keep hS hn hf⟩) h
theorem RowsW.up {S:Nat → Prop} {n m z:Nat} {H:Hp} {a b:List (List AV)} (h:RowsW S n H z a b) (hm:n ≤ m):RowsW S m H z a b:=All2.mono (fun x y k=>⟨k.1,k.2.up hm⟩) h
theorem CellsW.strs {S:Nat → Prop} {n:Nat} {H:Hp} (s:List UInt8):CellsW S (n + 1) H [.str s] [.str s]:=.cons (.str s) .nil
theorem RowsW.strs {S:Nat → Prop} {n:Nat} {H:Hp}:∀ l:List (List UInt8),RowsW S (n + 1) H 1 (l.map fun s=>[AV.str s]) (l.map fun s=>[AV.str s])
 | []=>trivial
 | a :: l=>⟨⟨rfl,CellsW.strs a⟩,RowsW.strs l⟩
theorem ex_node {S:Nat → Prop} {n:Nat} {H:Hp} (k nn o:Int) (s:List UInt8) {kv:AV} {es:List Ex} (h:RdW S (n + 1) H kv (.lst (es.map Ex.cells))):CellsW S (n + 1) H [.int .i64 k,.int .i64 nn,.str s,.int .i64 o,kv] (Ex.mk k nn s o es).cells:=by
 rw [Ex.cells_eq]
 exact .cons (.int _ _) (.cons (.int _ _) (.cons (.str _) (.cons (.int _ _) (.cons h .nil))))
theorem ex_leaf {S:Nat → Prop} {n:Nat} {H:Hp} (k nn o:Int) (s:List UInt8):CellsW S (n + 1) H [.int .i64 k,.int .i64 nn,.str s,.int .i64 o,.nilS] (Ex.mk k nn s o []).cells:=ex_node k nn o s .nilS
def nextG:List Int → Int × List Int
 | []=>(0,[])
 | a :: l=>(a,l)
def SeedV (lo:Nat) (H:Hp) (r:Nat) (v:AV) (L:List Int):Prop:=(v=.lst [] ∧ L=[]) ∨ ∃ b off cs imm,v=.sl b off L.length 1 ∧ H.get b=some (.cells cs imm true) ∧ cs.drop off=L.map (fun n=>AV.int .i64 n) ∧ b ≠ r ∧ b < lo
def RdOk (lo:Nat) (H:Hp) (r:Nat) (L:List Int) (c:Int):Prop:=r < lo ∧ lo ≤ H.next ∧ ∃ v,H.get r=some (.cells [v,.int .i64 c] 0 true) ∧ SeedV lo H r v L
theorem RdOk.keep {lo:Nat} {H H':Hp} {r:Nat} {L:List Int} {c:Int} (h:RdOk lo H r L c) (hn:H.next ≤ H'.next) (hg:∀ k,k < lo → H'.get k=H.get k):RdOk lo H' r L c:=by
 obtain ⟨h0,h00,v,h1,h2⟩:=h
 refine ⟨h0,by omega,v,by rw [hg _ h0];exact h1,?_⟩
 rcases h2 with h2|⟨b,off,cs,imm,e1,e2,e3,e4,e5⟩
 · exact .inl h2
 · exact .inr ⟨b,off,cs,imm,e1,by rw [hg _ e5];exact e2,e3,e4,e5⟩
noncomputable def code31:{ c:SC // slim 25 (Try.f31.body.getD .skip)=c }:=by
 refine ⟨?_,?_⟩
 rotate_left
 · simp only [Try.f31, Option.getD_some, slim, slimR, slimL, slimD, slimG, Nat.blt, Nat.ble]
   rfl
theorem next_wp {cfg : Cfg} (hw : Plain cfg 31) {lo : Nat} {H : Hp} {r : Nat} {L : List Int} {c : Int} (h : RdOk lo H r L c) (hL : L.length < 2 ^ 60) :
    WpCall Try.prog cfg 31 [.ptr r 0] H fun v H'=>v=.int .i64 (nextG L).1 ∧ RdOk lo H' r (nextG L).2 c ∧ H'.next=H.next ∧ ∀ k,k ≠ r → H'.get k=H.get k:=by
  obtain ⟨h0,h00,v,h1,h2⟩:=h
  rcases h2 with ⟨rfl,rfl⟩|⟨b,off,cs,imm,rfl,e2,e3,e4,e5⟩
  · refine WpCall.slim (M := 25) (rs := [.tmp 2]) (hw.call _) hw.ice hw.froz Try.func31 rfl rfl code31.2 rfl ?_; dsimp only [code31, envOf, Nat.reduceAdd]
    repeat' (first
       | (apply Rx.nl ?_;clear hK K)|apply Rx.o ?_|(apply Rx.cd (fun hb hbp=>?_) (fun hb hbp=>?_) <;> try (cases hb;done))|apply Wp.seq ?_|(apply Wp.ops' fun K hK=>?_)|apply Rx.sk ?_|apply Rx.rt ?_)
    all_goals (refine ⟨eI,_,eR,?_⟩;try simp only [oneOr])
    exact ⟨by first|rfl|trivial,⟨h0,h00,_,h1,.inl ⟨rfl,rfl⟩⟩,by first|rfl|trivial,fun _ _=>by first|rfl|trivial⟩
  · cases L with
    | nil =>
      refine WpCall.slim (M:=25) (rs:=[.tmp 2]) (hw.call _) hw.ice hw.froz Try.func31 rfl rfl code31.2 rfl ?_;dsimp only [code31,envOf,Nat.reduceAdd]
      repeat' (first
         | (apply Rx.nl ?_;clear hK K)|apply Rx.o ?_|(apply Rx.cd (fun hb hbp=>?_) (fun hb hbp=>?_) <;> try (cases hb;done))|apply Wp.seq ?_|(apply Wp.ops' fun K hK=>?_)|apply Rx.sk ?_|apply Rx.rt ?_)
      all_goals (refine ⟨eI,_,eR,?_⟩;try simp only [oneOr])
      exact ⟨by first|rfl|trivial,⟨h0,h00,_,h1,.inr ⟨b,off,cs,imm,rfl,e2,e3,e4,e5⟩⟩,by first|rfl|trivial,fun _ _=>by first|rfl|trivial⟩
    | cons a L =>
      have hg:cs[off]?=some (.int .i64 a):=by
        have:=congrArg (fun l=>l[0]?) e3
        simpa using this
      have hd:cs.drop (off + 1)=L.map (fun n=>AV.int .i64 n):=by
        have:=congrArg (List.drop 1) e3
        rw [List.drop_drop] at this
        simpa using this
      have hpos:0 < L.length + 1:=by omega
      have hsl:sliceA Try.prog 26 (.sl b off (L.length + 1) 1) (some (.int .i64 1)) none=if L=[] then some (.lst []) else some (.sl b (off + 1) L.length 1):=by
        simp only [sliceA,Try.underlying26,sz3,boundA]
        by_cases hn:L=[]
        · subst hn;rfl
        · have : 0 < L.length := List.length_pos_iff.2 hn
          rw [if_neg hn,if_pos ⟨by omega,Nat.le_refl _,trivial⟩,if_neg (by omega)]
          rfl
      have hne:¬ (((L.length + 1:Nat):Int)=0):=by omega
      have hrb:(b == r)=false:=ne_beq e4
      refine WpCall.slim (M:=25) (rs:=[.tmp 2]) (hw.call _) hw.ice hw.froz Try.func31 rfl rfl code31.2 rfl ?_;dsimp only [code31,envOf,Nat.reduceAdd]
      by_cases hn:L=[]
      · subst hn
        have hsl':sliceA Try.prog 26 (.sl b off 1 1) (some (.int .i64 1)) none=some (.lst []):=hsl
        have hne':¬ (((1:Nat):Int)=0):=by decide
        have hp':0 < 1:=by decide
        clear hsl hne hpos
        repeat' (first
           | (apply Rx.nl ?_;clear hK K)|apply Ry.o ?_|apply Ry.on ?_|(apply Ry.cd (fun hb hbp=>?_) (fun hb hbp=>?_) <;> try (cases hb;done))|apply Wp.seq ?_|(apply Wp.ops' fun K hK=>?_)|apply Rx.sk ?_|apply Rx.rt ?_)
        all_goals (refine ⟨eI,_,eR,?_⟩;try simp only [oneOr])
        refine ⟨by first|rfl|trivial,⟨h0,h00,_,by rw [Hp.get_set,if_pos rfl],.inl ⟨rfl,rfl⟩⟩,by first|rfl|trivial,fun k hk=>by rw [Hp.get_set,if_neg hk]⟩
      · rw [if_neg hn] at hsl
        repeat' (first
           | (apply Rx.nl ?_;clear hK K)|apply Ry.o ?_|apply Ry.on ?_|(apply Ry.cd (fun hb hbp=>?_) (fun hb hbp=>?_) <;> try (cases hb;done))|apply Wp.seq ?_|(apply Wp.ops' fun K hK=>?_)|apply Rx.sk ?_|apply Rx.rt ?_)
        all_goals (refine ⟨eI,_,eR,?_⟩;try simp only [oneOr])
        refine ⟨by first|rfl|trivial,⟨h0,h00,_,by rw [Hp.get_set,if_pos rfl];rfl,.inr ⟨b,off + 1,cs,imm,rfl,by rw [Hp.get_set,if_neg e4];exact e2,hd,e4,e5⟩⟩,by first|rfl|trivial,fun k hk=>by rw [Hp.get_set,if_neg hk]⟩
end Go.Proofs.Ytackdnelcpbfjaa
