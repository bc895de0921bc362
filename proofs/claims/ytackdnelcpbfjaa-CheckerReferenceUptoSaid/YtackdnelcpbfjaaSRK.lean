/- Parts: G3, G2r, G4, G5p, G5a, G5b, G5, G2s, G2p. -/
import Derived.Test.YtackdnelcpbfjaaSRJ
set_option linter.unusedSimpArgs false
set_option linter.unusedVariables false
set_option linter.unusedSectionVars false
set_option linter.defProp false
set_option maxHeartbeats 32000000
namespace Go.Proofs.Ytackdnelcpbfjaa
set_option maxRecDepth 20000
set_option maxRecDepth 20000
open Go Go.Ab
namespace tyG3
def tyF:=And.intro @tq2 (And.intro @tq3 (And.intro @tq9 (And.intro @tq26 (And.intro @tq35 (And.intro @tq37 (And.intro @tq39 (And.intro @nms2 (And.intro @bin_quo (@bin_rem)))))))))
end tyG3
open tyG3
noncomputable def code33:{ c:SC // slim 115 (Try.f33.body.getD .skip)=c }:=by
 refine ⟨?_,?_⟩
 rotate_left
 · simp only [Try.f33, Option.getD_some, slim, slimR, slimL, slimD, slimG, Nat.blt, Nat.ble]
   rfl
def genFn (f:FuncId):Bool:=Nat.beq f 31 || Nat.beq f 33 || Nat.beq f 32 || Nat.beq f 65 || Nat.beq f 11
structure GenL (l:List En):Prop where
 pick:∀ ar,lookN l 16 ar=enPick.sp ar
 word:∀ ar,lookN l 56 ar=enWord.sp ar
 nms:∀ ar,lookN l 66 ar=enNms.sp ar
 pl:∀ f,genFn f=true → (∀ ar,lookN l f ar=none) ∧ iceN l f=false
theorem GenL.plain {l:List En} (h:GenL l) {f:FuncId} (hf:genFn f=true):Plain (cfgN pls l) f:=plainN (h.pl f hf).1 (h.pl f hf).2
theorem genFn_cases {f:FuncId} (h:genFn f=true):f=31 ∨ f=33 ∨ f=32 ∨ f=65 ∨ f=11:=by
 simp only [genFn,Bool.or_eq_true] at h
 rcases h with (((h|h)|h)|h)|h <;> have e:=Nat.eq_of_beq_eq_true h <;> subst e <;> simp
def op2G (m:Int):Int:=if m.tmod 2=0 then 20 else 21
def arrG (m:Int):List UInt8:=if m.tmod 2=0 then [97] else [98]
def exprG (f : Int) : Nat → Nat → List Int → Ex × List Int
 | 0,_,L=>(.mk 0 0 [] 0 [],L)
 | k + 1, deep, L =>
   let n:=(nextG L).1
   let L1:=(nextG L).2
   let q:=pickG n 16
   let m:=pickG (w64 (n.tdiv 16)) 1000
   if q < 4 ∨ (3:Int) < deep then
     if q.tmod 2=0 ∨ ((3:Int) < deep ∧ 8 < q) then (.mk 2 0 ((nmsG f).getD (m.tmod (nmsG f).length).toNat []) 0 [],L1)
     else (.mk 1 (wordG m n) [] 0 [],L1)
   else if q < 6 then (.mk 3 0 (arrG m) 0 [(exprG f k (deep + 1) L1).1],(exprG f k (deep + 1) L1).2)
   else if q < 7 then
     let a:=exprG f k (deep + 1) L1
     let b:=exprG f k (deep + 1) a.2
     let c:=exprG f k (deep + 1) b.2
     (.mk 5 0 [] 0 [a.1,b.1,c.1],c.2)
   else if q < 9 then (.mk 4 0 [] (op2G m) [(exprG f k (deep + 1) L1).1],(exprG f k (deep + 1) L1).2)
   else
     let a:=exprG f k (deep + 1) L1
     let b:=exprG f k (deep + 1) a.2
     (.mk 4 0 [] (w64 (4 + m.tmod 15)) [a.1,b.1],b.2)
theorem nextG_len (L:List Int):(nextG L).2.length ≤ L.length:=by cases L <;> simp [nextG]
theorem exprG_len (f : Int) : ∀ (k deep : Nat) (L : List Int), (exprG f k deep L).2.length ≤ L.length
  | 0,_,_=>Nat.le_refl _
  | k + 1, deep, L => by
    have h:=nextG_len L
    have ih:=fun L=>exprG_len f k (deep + 1) L
    simp only [exprG]
    split
    · split <;> exact h
    · split
      · exact Nat.le_trans (ih _) h
      · split
        · exact Nat.le_trans (ih _) (Nat.le_trans (ih _) (Nat.le_trans (ih _) h))
        · split
          · exact Nat.le_trans (ih _) h
          · exact Nat.le_trans (ih _) (Nat.le_trans (ih _) h)
def MadeW (z n lo:Nat) (H:Hp) (r:Nat) (ws:List AV) (L:List Int) (c:Int) (v:AV) (H':Hp):Prop:=
 (∃ cs,v=.agg cs ∧ cs.length=z ∧ cs.all AV.one=true ∧ CellsW (fun q=>H.next ≤ q) n H' cs ws) ∧ RdOk lo H' r L c ∧ H.next ≤ H'.next ∧ ∀ q,q < H.next → q ≠ r → H'.get q=H.get q
theorem getD_tmod {α:Type} (l:List α) (hl:(l.length:Int) ≠ 0) {m:Int} (hm:0 ≤ m) (d:α):0 ≤ m.tmod l.length ∧ l[(m.tmod l.length).toNat]?=some (l.getD (m.tmod l.length).toNat d):=by
 have h1:=Int.tmod_nonneg (l.length:Int) hm
 have h2:=Int.tmod_lt_of_pos m (b:=(l.length:Int)) (by omega)
 refine ⟨h1,?_⟩
 generalize m.tmod l.length=t at *
 rw [List.getD_eq_getElem?_getD,List.getElem?_eq_getElem (by omega)];rfl
theorem tm2 {m:Int} (h:0 ≤ m):0 ≤ m.tmod 2 ∧ m.tmod 2 < 2:=⟨Int.tmod_nonneg _ h,Int.tmod_lt_of_pos _ (by omega)⟩
theorem ixS2 {m:Int} (h:0 ≤ m) (r:Nat):indexAddrA Try.prog 35 (.sl r 0 2 1) (.int .i64 (m.tmod 2))=some (.ptr r (m.tmod 2).toNat):=by
 obtain ⟨h1,h2⟩:=tm2 h
 rw [ix35s _ _ _ _ h1,decide_eq_true (by omega:(m.tmod 2).toNat < 2)];simp
theorem ixI2 {m:Int} (h:0 ≤ m) (r:Nat):indexAddrA Try.prog 26 (.sl r 0 2 1) (.int .i64 (m.tmod 2))=some (.ptr r (m.tmod 2).toNat):=by
 obtain ⟨h1,h2⟩:=tm2 h
 rw [ix26s _ _ _ _ h1,decide_eq_true (by omega:(m.tmod 2).toNat < 2)];simp
theorem two_at {α:Type} {m:Int} (h:0 ≤ m) (a b:α):[a,b][(m.tmod 2).toNat]?=some (if m.tmod 2=0 then a else b):=by
 obtain ⟨h1,h2⟩:=tm2 h
 rcases (by omega:m.tmod 2=0 ∨ m.tmod 2=1) with e|e <;> rw [e] <;> rfl
theorem arr_at {m:Int} (h:0 ≤ m):[AV.str [97],AV.str [98]][(m.tmod 2).toNat]?=some (.str (arrG m)):=by
 rw [two_at h,arrG];split <;> rfl
theorem op2_at {m:Int} (h:0 ≤ m):[AV.int .i64 20,AV.int .i64 21][(m.tmod 2).toNat]?=some (.int .i64 (op2G m)):=by
 rw [two_at h,op2G];split <;> rfl
theorem bx2 (s:List UInt8):buildA Try.prog 39 [(0,.int .i64 2),(2,.str s)]=some (.agg [.int .i64 2,.int .i64 0,.str s,.int .i64 0,.nilS]):=by kernel_rfl
theorem bx1 (n:Int):buildA Try.prog 39 [(0,.int .i64 1),(1,.int .i64 n)]=some (.agg [.int .i64 1,.int .i64 n,.str [],.int .i64 0,.nilS]):=by kernel_rfl
theorem bx3 (s:List UInt8) (r n:Nat):buildA Try.prog 39 [(0,.int .i64 3),(2,.str s),(4,.sl r 0 n 5)]=some (.agg [.int .i64 3,.int .i64 0,.str s,.int .i64 0,.sl r 0 n 5]):=by kernel_rfl
theorem bx5 (r n:Nat):buildA Try.prog 39 [(0,.int .i64 5),(4,.sl r 0 n 5)]=some (.agg [.int .i64 5,.int .i64 0,.str [],.int .i64 0,.sl r 0 n 5]):=by kernel_rfl
theorem bx4 (o:Int) (r n:Nat):buildA Try.prog 39 [(0,.int .i64 4),(3,.int .i64 o),(4,.sl r 0 n 5)]=some (.agg [.int .i64 4,.int .i64 0,.str [],.int .i64 o,.sl r 0 n 5]):=by kernel_rfl
theorem len5 {cs:List AV} (h:cs.length=5):∃ a b c d e,cs=[a,b,c,d,e]:=by
 match cs,h with
 | [a,b,c,d,e],_=>exact ⟨a,b,c,d,e,rfl⟩
theorem bsK1 (H:Hp) {cs:List AV} (h:cs.length=5) (h1:cs.all AV.one=true):buildSliceA Try.prog H 37 1 [(0,.agg cs)]=some (.sl H.next 0 1 5,H.alloc (.cells cs 0 true)):=by
 obtain ⟨a,b,c,d,e,rfl⟩:=len5 h
 kernel_rfl
theorem bsK2 (H:Hp) {cs ds:List AV} (h:cs.length=5) (k:ds.length=5):buildSliceA Try.prog H 37 2 [(0,.agg cs),(1,.agg ds)]=some (.sl H.next 0 2 5,H.alloc (.cells (cs ++ ds) 0 true)):=by
 obtain ⟨a,b,c,d,e,rfl⟩:=len5 h
 obtain ⟨a',b',c',d',e',rfl⟩:=len5 k
 kernel_rfl
theorem bsK3 (H:Hp) {cs ds es:List AV} (h:cs.length=5) (k:ds.length=5) (l:es.length=5):buildSliceA Try.prog H 37 3 [(0,.agg cs),(1,.agg ds),(2,.agg es)]=some (.sl H.next 0 3 5,H.alloc (.cells (cs ++ ds ++ es) 0 true)):=by
 obtain ⟨a,b,c,d,e,rfl⟩:=len5 h
 obtain ⟨a',b',c',d',e',rfl⟩:=len5 k
 obtain ⟨a'',b'',c'',d'',e'',rfl⟩:=len5 l
 kernel_rfl
theorem bsI2 (H:Hp) (a b:Int):buildSliceA Try.prog H 26 2 [(0,.int .i64 a),(1,.int .i64 b)]=some (.sl H.next 0 2 1,H.alloc (.cells [.int .i64 a,.int .i64 b] 0 true)):=by kernel_rfl
theorem agg5 (a b c d e:AV):aggA 5 [a,b,c,d,e]=some (.agg [a,b,c,d,e]):=rfl
set_option maxRecDepth 100000 in
theorem exprG_wp {lG : List En} (hG : GenL lG) : ∀ (k : Nat) (f : Int) (deep : Nat), 5 ≤ deep + k → deep ≤ 4 → ∀ (lo : Nat) (H : Hp) (r : Nat) (L : List Int) (c : Int), RdOk lo H r L c → L.length < 2 ^ 60 →
    WpCall Try.prog (cfgN pls lG) 33 [.ptr r 0,.int .i64 f,.int .i64 deep] H (MadeW 5 (k + 1) lo H r (exprG f k deep L).1.cells (exprG f k deep L).2 c)
  | 0,f,deep,h1,h2,_,_,_,_,_,_,_=>by omega
  | k + 1, f, deep, h1, h2, lo, H, r, L, c, hrd, hL => by
    have hw:Plain (cfgN pls lG) 33:=hG.plain (by rfl)
    have hnx:Plain (cfgN pls lG) 31:=hG.plain (by rfl)
    have hrl:=hrd.1
    have hlo:=hrd.2.1
    have hq16:(16:Int) ≠ 0:=by decide
    generalize hR:exprG f (k + 1) deep L=R
    rw [exprG] at hR
    simp only [] at hR
    refine WpCall.slim (M:=115) (rs:=[.cell 6 39]) (hw.call _) hw.ice hw.froz Try.func33 rfl rfl code33.2 rfl ?_;dsimp only [code33,envOf,Nat.reduceAdd]
    repeat' (first
       | (apply Rx.nl ?_;clear hK K)|apply Rx.o ?_|apply Rx.on ?_|apply Rx.gu ?_|(apply Rx.gd (fun hg hgp=>?_) (fun hg hgp=>?_) <;> try (cases hg;done))|(apply Rx.cd (fun hb hbp=>?_) (fun hb hbp=>?_) <;> try (cases hb;done))|apply Wp.seq ?_|(apply Wp.ops' fun K hK=>?_)|(apply Rx.dT 10 [(0,9),(0,12),(4,9),(4,12),(10,12)] fun K hK=>?_)|(apply Rx.dT 14 [(0,9),(0,12),(4,9),(4,12),(10,12)] fun K hK=>?_)|(apply Rx.nq ?_;try intro _)|(apply Rx.nt ?_ ?_ <;> clear hK K)|apply WpT.step ?_|apply WpT.step0 rfl ?_|apply Wp.block ?_|apply Rx.sk ?_|apply Rx.rt ?_)
    refine WpL.call rfl eVk eAk ?_;simp only [List.cons_append,List.nil_append,List.append_nil]
    refine WpCall.mono ?_ (next_wp hnx (hrd.keep (Nat.le_succ _) fun q hq=>by rw [Hp.get_alloc,if_neg (by omega)]) hL)
    rintro v H2 ⟨rfl,hr2,n2,o2⟩
    simp only [Hp.next_alloc] at n2
    have g2:H2.get H.next=some (.cells [.int .i64 0,.int .i64 0,.str [],.int .i64 0,.nilS] 0 true):=by rw [o2 _ (by omega),Hp.get_alloc,if_pos rfl]
    have o2':∀ q,q < H.next → q ≠ r → H2.get q=H.get q:=fun q h1 h2=>by rw [o2 q h2,Hp.get_alloc,if_neg (by omega)]
    have hL1:=nextG_len L
    generalize (nextG L).1=n at *
    generalize (nextG L).2=L1 at *
    have hq:=pickG_range (n:=n) (m:=16) (by omega) (by omega)
    have hm:=pickG_range (n:=w64 (n.tdiv 16)) (m:=1000) (by omega) (by omega)
    have hq2:(2:Int) ≠ 0:=by decide
    have hq15:(15:Int) ≠ 0:=by decide
    have hlen0:((nmsG f).length:Int) ≠ 0:=by rcases nmsG_len f with h|h <;> rw [h] <;> decide
    have hwd:IntKind.wrap .i64 ((deep:Int) + 1)=((deep + 1:Nat):Int):=wrap_succ (by omega)
    clear o2
    dsimp only [setO]
    obtain ⟨hi0,hix⟩:=getD_tmod (nmsG f) hlen0 hm.1 []
    have hxs:=ixS2 hm.1
    have hxi:=ixI2 hm.1
    have hxa:=arr_at hm.1
    have hxo:=op2_at hm.1
    have kf:∀ (H3:Hp) (x:Ex),RdOk lo H3 r L1 c → H.next ≤ H3.next → (∀ q,q < H.next → q ≠ r → H3.get q=H.get q) → ∀ cs,cs.length=5 → cs.all AV.one=true → CellsW (fun q=>H.next ≤ q) (k + 2) H3 cs x.cells → MadeW 5 (k + 2) lo H r x.cells L1 c (.agg cs) H3:=fun H3 x q1 q2 q3 cs q4 q5 q6=>⟨⟨cs,rfl,q4,q5,q6⟩,q1,q2,q3⟩
    have gh0:=@bx2
    have gh1:=@bx1
    have gh2:=@agg5
    have gh3:=@bsI2
    repeat' (first
       | (apply Rx.nl ?_;clear hK K)|apply Rx.o ?_|apply Rx.on ?_|(apply Rx.call ?_;first|refine Rx.k (names_en hG.nms _ _) ?_|refine Rx.k (pick_en hG.pick _ _ (by decide) _) ?_|refine Rx.k (word_en hG.word _ _ _) ?_)|apply Rx.gu ?_|(apply Rx.gd (fun hg hgp=>?_) (fun hg hgp=>?_) <;> try (cases hg;done))|(apply Rx.cd (fun hb hbp=>?_) (fun hb hbp=>?_) <;> try (cases hb;done))|apply Wp.seq ?_|(apply Wp.ops' fun K hK=>?_)|(apply Rx.dT 10 [(0,9),(0,12),(4,9),(4,12),(10,12)] fun K hK=>?_)|(apply Rx.dT 14 [(0,9),(0,12),(4,9),(4,12),(10,12)] fun K hK=>?_)|(apply Rx.nq ?_;try intro _)|(apply Rx.nt ?_ ?_ <;> clear hK K)|apply WpT.step ?_|apply WpT.step0 rfl ?_|apply Wp.block ?_|apply Rx.sk ?_|apply Rx.rt ?_)
    · refine ⟨eI, _, (by (try simp only [sB, sO, Nat.reduceBEq, Nat.reduceAdd, Nat.reduceLeDiff, tyF, resultsA, resultA, agg5, *]); first | done | with_reducible rfl), ?_⟩; try simp only [oneOr]
      first
      | rw [if_pos (by omega),if_pos (by omega)] at hR
      | rw [if_pos (by omega),if_neg (by omega)] at hR
      subst hR
      refine kf _ _ ?_ ?_ ?_ _ rfl rfl (ex_leaf _ _ _ _)
      · exact hr2.keep (Nat.le_refl _) fun q hq=>by rw [Hp.get_set,if_neg (by omega)]
      · simp only [Hp.next_set];omega
      · intro q h1 h2;rw [Hp.get_set,if_neg (by omega)];exact o2' q h1 h2
    · refine ⟨eI, _, (by (try simp only [sB, sO, Nat.reduceBEq, Nat.reduceAdd, Nat.reduceLeDiff, tyF, resultsA, resultA, agg5, *]); first | done | with_reducible rfl), ?_⟩; try simp only [oneOr]
      first
      | rw [if_pos (by omega),if_pos (by omega)] at hR
      | rw [if_pos (by omega),if_neg (by omega)] at hR
      subst hR
      refine kf _ _ ?_ ?_ ?_ _ rfl rfl (ex_leaf _ _ _ _)
      · exact hr2.keep (Nat.le_refl _) fun q hq=>by rw [Hp.get_set,if_neg (by omega)]
      · simp only [Hp.next_set];omega
      · intro q h1 h2;rw [Hp.get_set,if_neg (by omega)];exact o2' q h1 h2
    · refine ⟨eI, _, (by (try simp only [sB, sO, Nat.reduceBEq, Nat.reduceAdd, Nat.reduceLeDiff, tyF, resultsA, resultA, agg5, *]); first | done | with_reducible rfl), ?_⟩; try simp only [oneOr]
      first
      | rw [if_pos (by omega),if_pos (by omega)] at hR
      | rw [if_pos (by omega),if_neg (by omega)] at hR
      subst hR
      refine kf _ _ ?_ ?_ ?_ _ rfl rfl (ex_leaf _ _ _ _)
      · exact hr2.keep (Nat.le_refl _) fun q hq=>by rw [Hp.get_set,if_neg (by omega)]
      · simp only [Hp.next_set];omega
      · intro q h1 h2;rw [Hp.get_set,if_neg (by omega)];exact o2' q h1 h2
    · -- one operand
      have er:(H.next == r)=false:=ne_beq (by omega)
      refine WpL.call rfl eVk eAk ?_;simp only [List.cons_append,List.nil_append,List.append_nil]
      refine WpCall.mono ?_ (exprG_wp hG k f (deep + 1) (by omega) (by omega) lo _ r L1 c (hr2.keep (Nat.le_succ _) fun q hq=>by rw [Hp.get_alloc,if_neg (by omega)]) (by omega))
      rintro v H4 ⟨⟨cs,rfl,hc1,hc2,hc3⟩,hr4,n4,o4⟩
      simp only [Hp.next_alloc] at n4 o4 hc3
      have g4:H4.get H.next=some (.cells [.int .i64 0,.int .i64 0,.str [],.int .i64 0,.nilS] 0 true):=by rw [o4 _ (by omega) (by omega),Hp.get_alloc,if_neg (by omega)];exact g2
      have g4s:H4.get (H.next + 1)=some (.cells [.str [97],.str [98]] 0 true):=by rw [o4 _ (by omega) (by omega),Hp.get_alloc,if_pos (by omega)]
      have kb:=fun H=>bsK1 H hc1 hc2
      have e4:(H.next == H4.next)=false:=ne_beq (by omega)
      have e5:(H.next + 1 == H4.next)=false:=ne_beq (by omega)
      dsimp only [setO]
      have gh0:=@agg5
      have gh1:=@bx3
      repeat' (first
         | (apply Rx.nl ?_;clear hK K)|apply Rx.o ?_|apply Rx.on ?_|apply Rx.gu ?_|(apply Rx.gd (fun hg hgp=>?_) (fun hg hgp=>?_) <;> try (cases hg;done))|(apply Rx.cd (fun hb hbp=>?_) (fun hb hbp=>?_) <;> try (cases hb;done))|apply Wp.seq ?_|(apply Wp.ops' fun K hK=>?_)|(apply Rx.dT 10 [(0,9),(0,12),(4,9),(4,12),(10,12)] fun K hK=>?_)|(apply Rx.dT 14 [(0,9),(0,12),(4,9),(4,12),(10,12)] fun K hK=>?_)|(apply Rx.nq ?_;try intro _)|(apply Rx.nt ?_ ?_ <;> clear hK K)|apply WpT.step ?_|apply WpT.step0 rfl ?_|apply Wp.block ?_|apply Rx.sk ?_|apply Rx.rt ?_)
      · exact eK
      · refine ⟨eI, _, (by (try simp only [sB, sO, Nat.reduceBEq, Nat.reduceAdd, Nat.reduceLeDiff, tyF, resultsA, resultA, agg5, *]); first | done | with_reducible rfl), ?_⟩; try simp only [oneOr]
        rw [if_neg (by omega),if_pos (by omega)] at hR
        subst hR
        refine ⟨⟨_,rfl,rfl,rfl,?_⟩,?_,?_,?_⟩
        · refine ex_node (n:=k + 1) _ _ _ _ (RdW.rows (n:=k + 1) (a:=[cs]) (imm:=0) (tip:=true) (by show H.next ≤ H4.next;omega) (by simp only [Hp.next_set,Hp.next_alloc];omega) (by rw [Hp.get_set,if_neg (by omega),Hp.get_alloc,if_pos rfl];simp) (by simp) ⟨⟨hc1,hc3.keep (fun q hq=>by omega) (by simp only [Hp.next_set,Hp.next_alloc];omega) fun q h1 h2=>by rw [Hp.get_set,if_neg (by omega),Hp.get_alloc,if_neg (by omega)]⟩,trivial⟩)
        · exact hr4.keep (by simp only [Hp.next_set,Hp.next_alloc];omega) fun q hq=>by rw [Hp.get_set,if_neg (by omega),Hp.get_alloc,if_neg (by omega)]
        · simp only [Hp.next_set,Hp.next_alloc];omega
        · intro q h1 h2
          rw [Hp.get_set,if_neg (by omega),Hp.get_alloc,if_neg (by omega),o4 _ (by omega) h2,Hp.get_alloc,if_neg (by omega)]
          exact o2' q h1 h2
    · -- more operands
      have er:(H.next == r)=false:=ne_beq (by omega)
      refine WpL.call rfl eVk eAk ?_;simp only [List.cons_append,List.nil_append,List.append_nil]
      refine WpCall.mono ?_ (exprG_wp hG k f (deep + 1) (by omega) (by omega) lo _ r L1 c hr2 (by omega))
      rintro v H4 ⟨⟨cs,rfl,hc1,hc2,hc3⟩,hr4,n4,o4⟩
      have hl4:=exprG_len f k (deep + 1) L1
      dsimp only [setO]
      repeat' (first
         | (apply Rx.nl ?_;clear hK K)|apply Rx.o ?_|apply Rx.on ?_|apply Rx.gu ?_|(apply Rx.gd (fun hg hgp=>?_) (fun hg hgp=>?_) <;> try (cases hg;done))|(apply Rx.cd (fun hb hbp=>?_) (fun hb hbp=>?_) <;> try (cases hb;done))|apply Wp.seq ?_|(apply Wp.ops' fun K hK=>?_)|(apply Rx.dT 10 [(0,9),(0,12),(4,9),(4,12),(10,12)] fun K hK=>?_)|(apply Rx.dT 14 [(0,9),(0,12),(4,9),(4,12),(10,12)] fun K hK=>?_)|(apply Rx.nq ?_;try intro _)|(apply Rx.nt ?_ ?_ <;> clear hK K)|apply WpT.step ?_|apply WpT.step0 rfl ?_|apply Wp.block ?_|apply Rx.sk ?_|apply Rx.rt ?_)
      refine WpL.call rfl eVk eAk ?_;simp only [List.cons_append,List.nil_append,List.append_nil]
      refine WpCall.mono ?_ (exprG_wp hG k f (deep + 1) (by omega) (by omega) lo H4 r (exprG f k (deep + 1) L1).2 c hr4 (by omega))
      rintro v H5 ⟨⟨ds,rfl,hd1,hd2,hd3⟩,hr5,n5,o5⟩
      have hl5:=exprG_len f k (deep + 1) (exprG f k (deep + 1) L1).2
      dsimp only [setO]
      repeat' (first
         | (apply Rx.nl ?_;clear hK K)|apply Rx.o ?_|apply Rx.on ?_|apply Rx.gu ?_|(apply Rx.gd (fun hg hgp=>?_) (fun hg hgp=>?_) <;> try (cases hg;done))|(apply Rx.cd (fun hb hbp=>?_) (fun hb hbp=>?_) <;> try (cases hb;done))|apply Wp.seq ?_|(apply Wp.ops' fun K hK=>?_)|(apply Rx.dT 10 [(0,9),(0,12),(4,9),(4,12),(10,12)] fun K hK=>?_)|(apply Rx.dT 14 [(0,9),(0,12),(4,9),(4,12),(10,12)] fun K hK=>?_)|(apply Rx.nq ?_;try intro _)|(apply Rx.nt ?_ ?_ <;> clear hK K)|apply WpT.step ?_|apply WpT.step0 rfl ?_|apply Wp.block ?_|apply Rx.sk ?_|apply Rx.rt ?_)
      refine WpL.call rfl eVk eAk ?_;simp only [List.cons_append,List.nil_append,List.append_nil]
      refine WpCall.mono ?_ (exprG_wp hG k f (deep + 1) (by omega) (by omega) lo H5 r (exprG f k (deep + 1) (exprG f k (deep + 1) L1).2).2 c hr5 (by omega))
      rintro v H6 ⟨⟨es,rfl,he1,he2,he3⟩,hr6,n6,o6⟩
      have hl6:=exprG_len f k (deep + 1) (exprG f k (deep + 1) (exprG f k (deep + 1) L1).2).2
      dsimp only [setO]
      have gz:H6.get H.next=some (.cells [.int .i64 0,.int .i64 0,.str [],.int .i64 0,.nilS] 0 true):=by rw [o6 _ (by omega) (by omega),o5 _ (by omega) (by omega),o4 _ (by omega) (by omega)];exact g2
      have kb:=fun H=>bsK3 H hc1 hd1 he1
      have e4:(H.next == H6.next)=false:=ne_beq (by omega)
      have gh0:=@agg5
      have gh1:=@bx5
      repeat' (first
         | (apply Rx.nl ?_;clear hK K)|apply Rx.o ?_|apply Rx.on ?_|apply Rx.gu ?_|(apply Rx.gd (fun hg hgp=>?_) (fun hg hgp=>?_) <;> try (cases hg;done))|(apply Rx.cd (fun hb hbp=>?_) (fun hb hbp=>?_) <;> try (cases hb;done))|apply Wp.seq ?_|(apply Wp.ops' fun K hK=>?_)|(apply Rx.dT 10 [(0,9),(0,12),(4,9),(4,12),(10,12)] fun K hK=>?_)|(apply Rx.dT 14 [(0,9),(0,12),(4,9),(4,12),(10,12)] fun K hK=>?_)|(apply Rx.nq ?_;try intro _)|(apply Rx.nt ?_ ?_ <;> clear hK K)|apply WpT.step ?_|apply WpT.step0 rfl ?_|apply Wp.block ?_|apply Rx.sk ?_|apply Rx.rt ?_)
      refine ⟨eI,_,(by (try simp only [sB,sO,Nat.reduceBEq,Nat.reduceAdd,Nat.reduceLeDiff,tyF,resultsA,resultA,agg5, *]);first|done|with_reducible rfl),?_⟩;try simp only [oneOr]
      rw [if_neg (by omega),if_neg (by omega),if_pos (by omega)] at hR
      subst hR
      refine ⟨⟨_,rfl,rfl,rfl,?_⟩,?_,?_,?_⟩
      · refine ex_node (n:=k + 1) _ _ _ _ (RdW.rows (n:=k + 1) (a:=[cs,ds,es]) (imm:=0) (tip:=true) (by show H.next ≤ H6.next;omega) (by simp only [Hp.next_set,Hp.next_alloc];omega) (by rw [Hp.get_set,if_neg (by omega),Hp.get_alloc,if_pos rfl];simp) (by simp) ⟨⟨hc1,hc3.keep (fun q hq=>by omega) (by simp only [Hp.next_set,Hp.next_alloc];omega) fun q h1 h2=>by rw [Hp.get_set,if_neg (by omega),Hp.get_alloc,if_neg (by omega),o6 _ (by omega) (by omega),o5 _ (by omega) (by omega)]⟩,⟨hd1,hd3.keep (fun q hq=>by omega) (by simp only [Hp.next_set,Hp.next_alloc];omega) fun q h1 h2=>by rw [Hp.get_set,if_neg (by omega),Hp.get_alloc,if_neg (by omega),o6 _ (by omega) (by omega)]⟩,⟨he1,he3.keep (fun q hq=>by omega) (by simp only [Hp.next_set,Hp.next_alloc];omega) fun q h1 h2=>by rw [Hp.get_set,if_neg (by omega),Hp.get_alloc,if_neg (by omega)]⟩,trivial⟩)
      · exact hr6.keep (by simp only [Hp.next_set,Hp.next_alloc];omega) fun q hq=>by rw [Hp.get_set,if_neg (by omega),Hp.get_alloc,if_neg (by omega)]
      · simp only [Hp.next_set,Hp.next_alloc];omega
      · intro q h1 h2
        rw [Hp.get_set,if_neg (by omega),Hp.get_alloc,if_neg (by omega),o6 _ (by omega) h2,o5 _ (by omega) h2,o4 _ (by omega) h2]
        exact o2' q h1 h2
    · -- one operand
      have er:(H.next == r)=false:=ne_beq (by omega)
      refine WpL.call rfl eVk eAk ?_;simp only [List.cons_append,List.nil_append,List.append_nil]
      refine WpCall.mono ?_ (exprG_wp hG k f (deep + 1) (by omega) (by omega) lo _ r L1 c (hr2.keep (Nat.le_succ _) fun q hq=>by rw [Hp.get_alloc,if_neg (by omega)]) (by omega))
      rintro v H4 ⟨⟨cs,rfl,hc1,hc2,hc3⟩,hr4,n4,o4⟩
      simp only [Hp.next_alloc] at n4 o4 hc3
      have g4:H4.get H.next=some (.cells [.int .i64 0,.int .i64 0,.str [],.int .i64 0,.nilS] 0 true):=by rw [o4 _ (by omega) (by omega),Hp.get_alloc,if_neg (by omega)];exact g2
      have g4s:H4.get (H.next + 1)=some (.cells [.int .i64 20,.int .i64 21] 0 true):=by rw [o4 _ (by omega) (by omega),Hp.get_alloc,if_pos (by omega)]
      have kb:=fun H=>bsK1 H hc1 hc2
      have e4:(H.next == H4.next)=false:=ne_beq (by omega)
      have e5:(H.next + 1 == H4.next)=false:=ne_beq (by omega)
      dsimp only [setO]
      have gh0:=@bsI2
      have gh1:=@agg5
      have gh2:=@bx4
      repeat' (first
         | (apply Rx.nl ?_;clear hK K)|apply Rx.o ?_|apply Rx.on ?_|apply Rx.gu ?_|(apply Rx.gd (fun hg hgp=>?_) (fun hg hgp=>?_) <;> try (cases hg;done))|(apply Rx.cd (fun hb hbp=>?_) (fun hb hbp=>?_) <;> try (cases hb;done))|apply Wp.seq ?_|(apply Wp.ops' fun K hK=>?_)|(apply Rx.dT 10 [(0,9),(0,12),(4,9),(4,12),(10,12)] fun K hK=>?_)|(apply Rx.dT 14 [(0,9),(0,12),(4,9),(4,12),(10,12)] fun K hK=>?_)|(apply Rx.nq ?_;try intro _)|(apply Rx.nt ?_ ?_ <;> clear hK K)|apply WpT.step ?_|apply WpT.step0 rfl ?_|apply Wp.block ?_|apply Rx.sk ?_|apply Rx.rt ?_)
      · exact eK
      · refine ⟨eI, _, (by (try simp only [sB, sO, Nat.reduceBEq, Nat.reduceAdd, Nat.reduceLeDiff, tyF, resultsA, resultA, agg5, *]); first | done | with_reducible rfl), ?_⟩; try simp only [oneOr]
        rw [if_neg (by omega),if_neg (by omega),if_neg (by omega),if_pos (by omega)] at hR
        subst hR
        refine ⟨⟨_,rfl,rfl,rfl,?_⟩,?_,?_,?_⟩
        · refine ex_node (n:=k + 1) _ _ _ _ (RdW.rows (n:=k + 1) (a:=[cs]) (imm:=0) (tip:=true) (by show H.next ≤ H4.next;omega) (by simp only [Hp.next_set,Hp.next_alloc];omega) (by rw [Hp.get_set,if_neg (by omega),Hp.get_alloc,if_pos rfl];simp) (by simp) ⟨⟨hc1,hc3.keep (fun q hq=>by omega) (by simp only [Hp.next_set,Hp.next_alloc];omega) fun q h1 h2=>by rw [Hp.get_set,if_neg (by omega),Hp.get_alloc,if_neg (by omega)]⟩,trivial⟩)
        · exact hr4.keep (by simp only [Hp.next_set,Hp.next_alloc];omega) fun q hq=>by rw [Hp.get_set,if_neg (by omega),Hp.get_alloc,if_neg (by omega)]
        · simp only [Hp.next_set,Hp.next_alloc];omega
        · intro q h1 h2
          rw [Hp.get_set,if_neg (by omega),Hp.get_alloc,if_neg (by omega),o4 _ (by omega) h2,Hp.get_alloc,if_neg (by omega)]
          exact o2' q h1 h2
    · -- more operands
      have er:(H.next == r)=false:=ne_beq (by omega)
      refine WpL.call rfl eVk eAk ?_;simp only [List.cons_append,List.nil_append,List.append_nil]
      refine WpCall.mono ?_ (exprG_wp hG k f (deep + 1) (by omega) (by omega) lo _ r L1 c hr2 (by omega))
      rintro v H4 ⟨⟨cs,rfl,hc1,hc2,hc3⟩,hr4,n4,o4⟩
      have hl4:=exprG_len f k (deep + 1) L1
      dsimp only [setO]
      repeat' (first
         | (apply Rx.nl ?_;clear hK K)|apply Rx.o ?_|apply Rx.on ?_|apply Rx.gu ?_|(apply Rx.gd (fun hg hgp=>?_) (fun hg hgp=>?_) <;> try (cases hg;done))|(apply Rx.cd (fun hb hbp=>?_) (fun hb hbp=>?_) <;> try (cases hb;done))|apply Wp.seq ?_|(apply Wp.ops' fun K hK=>?_)|(apply Rx.dT 10 [(0,9),(0,12),(4,9),(4,12),(10,12)] fun K hK=>?_)|(apply Rx.dT 14 [(0,9),(0,12),(4,9),(4,12),(10,12)] fun K hK=>?_)|(apply Rx.nq ?_;try intro _)|(apply Rx.nt ?_ ?_ <;> clear hK K)|apply WpT.step ?_|apply WpT.step0 rfl ?_|apply Wp.block ?_|apply Rx.sk ?_|apply Rx.rt ?_)
      refine WpL.call rfl eVk eAk ?_;simp only [List.cons_append,List.nil_append,List.append_nil]
      refine WpCall.mono ?_ (exprG_wp hG k f (deep + 1) (by omega) (by omega) lo H4 r (exprG f k (deep + 1) L1).2 c hr4 (by omega))
      rintro v H5 ⟨⟨ds,rfl,hd1,hd2,hd3⟩,hr5,n5,o5⟩
      have hl5:=exprG_len f k (deep + 1) (exprG f k (deep + 1) L1).2
      dsimp only [setO]
      have gz:H5.get H.next=some (.cells [.int .i64 0,.int .i64 0,.str [],.int .i64 0,.nilS] 0 true):=by rw [o5 _ (by omega) (by omega),o4 _ (by omega) (by omega)];exact g2
      have kb:=fun H=>bsK2 H hc1 hd1
      have e4:(H.next == H5.next)=false:=ne_beq (by omega)
      have gh0:=@agg5
      have gh1:=@bx4
      repeat' (first
         | (apply Rx.nl ?_;clear hK K)|apply Rx.o ?_|apply Rx.on ?_|apply Rx.gu ?_|(apply Rx.gd (fun hg hgp=>?_) (fun hg hgp=>?_) <;> try (cases hg;done))|(apply Rx.cd (fun hb hbp=>?_) (fun hb hbp=>?_) <;> try (cases hb;done))|apply Wp.seq ?_|(apply Wp.ops' fun K hK=>?_)|(apply Rx.dT 10 [(0,9),(0,12),(4,9),(4,12),(10,12)] fun K hK=>?_)|(apply Rx.dT 14 [(0,9),(0,12),(4,9),(4,12),(10,12)] fun K hK=>?_)|(apply Rx.nq ?_;try intro _)|(apply Rx.nt ?_ ?_ <;> clear hK K)|apply WpT.step ?_|apply WpT.step0 rfl ?_|apply Wp.block ?_|apply Rx.sk ?_|apply Rx.rt ?_)
      refine ⟨eI,_,(by (try simp only [sB,sO,Nat.reduceBEq,Nat.reduceAdd,Nat.reduceLeDiff,tyF,resultsA,resultA,agg5, *]);first|done|with_reducible rfl),?_⟩;try simp only [oneOr]
      rw [if_neg (by omega),if_neg (by omega),if_neg (by omega),if_neg (by omega)] at hR
      subst hR
      refine ⟨⟨_,rfl,rfl,rfl,?_⟩,?_,?_,?_⟩
      · refine ex_node (n:=k + 1) _ _ _ _ (RdW.rows (n:=k + 1) (a:=[cs,ds]) (imm:=0) (tip:=true) (by show H.next ≤ H5.next;omega) (by simp only [Hp.next_set,Hp.next_alloc];omega) (by rw [Hp.get_set,if_neg (by omega),Hp.get_alloc,if_pos rfl];simp) (by simp) ⟨⟨hc1,hc3.keep (fun q hq=>by omega) (by simp only [Hp.next_set,Hp.next_alloc];omega) fun q h1 h2=>by rw [Hp.get_set,if_neg (by omega),Hp.get_alloc,if_neg (by omega),o5 _ (by omega) (by omega)]⟩,⟨hd1,hd3.keep (fun q hq=>by omega) (by simp only [Hp.next_set,Hp.next_alloc];omega) fun q h1 h2=>by rw [Hp.get_set,if_neg (by omega),Hp.get_alloc,if_neg (by omega)]⟩,trivial⟩)
      · exact hr5.keep (by simp only [Hp.next_set,Hp.next_alloc];omega) fun q hq=>by rw [Hp.get_set,if_neg (by omega),Hp.get_alloc,if_neg (by omega)]
      · simp only [Hp.next_set,Hp.next_alloc];omega
      · intro q h1 h2
        rw [Hp.get_set,if_neg (by omega),Hp.get_alloc,if_neg (by omega),o5 _ (by omega) h2,o4 _ (by omega) h2]
        exact o2' q h1 h2
    · refine ⟨eI, _, (by (try simp only [sB, sO, Nat.reduceBEq, Nat.reduceAdd, Nat.reduceLeDiff, tyF, resultsA, resultA, agg5, *]); first | done | with_reducible rfl), ?_⟩; try simp only [oneOr]
      first
      | rw [if_pos (by omega),if_pos (by omega)] at hR
      | rw [if_pos (by omega),if_neg (by omega)] at hR
      subst hR
      refine kf _ _ ?_ ?_ ?_ _ rfl rfl (ex_leaf _ _ _ _)
      · exact hr2.keep (Nat.le_refl _) fun q hq=>by rw [Hp.get_set,if_neg (by omega)]
      · simp only [Hp.next_set];omega
      · intro q h1 h2;rw [Hp.get_set,if_neg (by omega)];exact o2' q h1 h2
    · refine ⟨eI, _, (by (try simp only [sB, sO, Nat.reduceBEq, Nat.reduceAdd, Nat.reduceLeDiff, tyF, resultsA, resultA, agg5, *]); first | done | with_reducible rfl), ?_⟩; try simp only [oneOr]
      first
      | rw [if_pos (by omega),if_pos (by omega)] at hR
      | rw [if_pos (by omega),if_neg (by omega)] at hR
      subst hR
      refine kf _ _ ?_ ?_ ?_ _ rfl rfl (ex_leaf _ _ _ _)
      · exact hr2.keep (Nat.le_refl _) fun q hq=>by rw [Hp.get_set,if_neg (by omega)]
      · simp only [Hp.next_set];omega
      · intro q h1 h2;rw [Hp.get_set,if_neg (by omega)];exact o2' q h1 h2
    · refine ⟨eI, _, (by (try simp only [sB, sO, Nat.reduceBEq, Nat.reduceAdd, Nat.reduceLeDiff, tyF, resultsA, resultA, agg5, *]); first | done | with_reducible rfl), ?_⟩; try simp only [oneOr]
      first
      | rw [if_pos (by omega),if_pos (by omega)] at hR
      | rw [if_pos (by omega),if_neg (by omega)] at hR
      subst hR
      refine kf _ _ ?_ ?_ ?_ _ rfl rfl (ex_leaf _ _ _ _)
      · exact hr2.keep (Nat.le_refl _) fun q hq=>by rw [Hp.get_set,if_neg (by omega)]
      · simp only [Hp.next_set];omega
      · intro q h1 h2;rw [Hp.get_set,if_neg (by omega)];exact o2' q h1 h2
    · refine ⟨eI, _, (by (try simp only [sB, sO, Nat.reduceBEq, Nat.reduceAdd, Nat.reduceLeDiff, tyF, resultsA, resultA, agg5, *]); first | done | with_reducible rfl), ?_⟩; try simp only [oneOr]
      first
      | rw [if_pos (by omega),if_pos (by omega)] at hR
      | rw [if_pos (by omega),if_neg (by omega)] at hR
      subst hR
      refine kf _ _ ?_ ?_ ?_ _ rfl rfl (ex_leaf _ _ _ _)
      · exact hr2.keep (Nat.le_refl _) fun q hq=>by rw [Hp.get_set,if_neg (by omega)]
      · simp only [Hp.next_set];omega
      · intro q h1 h2;rw [Hp.get_set,if_neg (by omega)];exact o2' q h1 h2
end Go.Proofs.Ytackdnelcpbfjaa
namespace Go.Proofs.Ytackdnelcpbfjaa
set_option maxRecDepth 20000
open Go Go.Ab
theorem CellsW.keep2 {S S':Nat → Prop} {n:Nat} {H H':Hp} {v w:List AV} (h:CellsW S n H v w) (hS:∀ k,k < H.next → S k → S' k) (hn:H.next ≤ H'.next) (hf:∀ k,S k → k < H.next → H'.get k=H.get k):CellsW S' n H' v w:=by
 obtain ⟨u,h1,h2⟩:=h
 exact ⟨u,h1.mono fun a b k=>k.frame2 hS hn fun q h3 h4=>.inl (hf q h3 h4).symm,h2⟩
theorem RdW.keep2 {S S':Nat → Prop} {n:Nat} {H H':Hp} {v w:AV} (h:RdW S n H v w) (hS:∀ k,k < H.next → S k → S' k) (hn:H.next ≤ H'.next) (hf:∀ k,S k → k < H.next → H'.get k=H.get k):RdW S' n H' v w:=by
 obtain ⟨u,h1,h2⟩:=h
 exact ⟨u,h1.frame2 hS hn fun q h3 h4=>.inl (hf q h3 h4).symm,h2⟩
theorem RowsW.keep2 {S S':Nat → Prop} {n z:Nat} {H H':Hp} {a b:List (List AV)} (h:RowsW S n H z a b) (hS:∀ k,k < H.next → S k → S' k) (hn:H.next ≤ H'.next) (hf:∀ k,S k → k < H.next → H'.get k=H.get k):RowsW S' n H' z a b:=All2.mono (fun x y k=>⟨k.1,k.2.keep2 hS hn hf⟩) h
theorem RowsW.len {S:Nat → Prop} {n z:Nat} {H:Hp}:∀ {a b:List (List AV)},RowsW S n H z a b → ∀ x ∈ a,x.length=z
 | [],[],_,x,hx=>by simp at hx
 | y :: a, w :: b, h, x, hx => by
   rcases List.mem_cons.1 hx with rfl|hx
   · exact h.1.1
   · exact RowsW.len h.2 x hx
def RowOwn (S:Nat → Prop) (n:Nat) (H:Hp) (z:Nat) (v:AV) (ws:List (List AV)):Prop:=
 (v=.nilS ∧ ws=[]) ∨ ∃ q imm rows,v=.sl q 0 rows.length z ∧ S q ∧ q < H.next ∧ H.get q=some (.cells rows.flatten imm true) ∧ imm ≤ rows.flatten.length ∧ RowsW (fun k=>S k ∧ k ≠ q) n H z rows ws
theorem RowOwn.rd {S:Nat → Prop} {n:Nat} {H:Hp} {z:Nat} {v:AV} {ws:List (List AV)} (h:RowOwn S n H z v ws):RdW S (n + 1) H v (.lst ws):=by
 rcases h with ⟨rfl,rfl⟩|⟨q,imm,rows,rfl,h1,h2,h3,h4,h5⟩
 · exact .nilS
 · exact .rows h1 h2 h3 h4 (h5.frame (fun k hk=>hk.1) (Nat.le_refl _) fun _ _ _=>rfl)
theorem RowOwn.up {S:Nat → Prop} {n m:Nat} {H:Hp} {z:Nat} {v:AV} {ws:List (List AV)} (h:RowOwn S n H z v ws) (hm:n ≤ m):RowOwn S m H z v ws:=by
 rcases h with h|⟨q,imm,rows,e,h1,h2,h3,h4,h5⟩
 · exact .inl h
 · exact .inr ⟨q,imm,rows,e,h1,h2,h3,h4,RowsW.up h5 hm⟩
theorem RowOwn.keep {S S':Nat → Prop} {n:Nat} {H H':Hp} {z:Nat} {v:AV} {ws:List (List AV)} (h:RowOwn S n H z v ws) (hS:∀ k,k < H.next → S k → S' k) (hn:H.next ≤ H'.next) (hf:∀ k,S k → k < H.next → H'.get k=H.get k):RowOwn S' n H' z v ws:=by
 rcases h with h|⟨q,imm,rows,e,h1,h2,h3,h4,h5⟩
 · exact .inl h
 · exact .inr ⟨q,imm,rows,e,hS q h2 h1,by omega,by rw [hf q h1 h2];exact h3,h4,h5.keep2 (fun k hk hq=>⟨hS k hk hq.1,hq.2⟩) hn fun k h6 h7=>hf k h6.1 h7⟩
theorem RowOwn.one {S:Nat → Prop} {n:Nat} {H:Hp} {z:Nat} {v:AV} {ws:List (List AV)} (h:RowOwn S n H z v ws):AV.one v=true ∧ v.cells=[v]:=by
 rcases h with ⟨rfl,rfl⟩|⟨q,imm,rows,rfl,_⟩ <;> exact ⟨rfl,rfl⟩
theorem RowOwn.len {P:Program} {t e:TypeId} (ht:P.underlying t=some (.slice e)) {S:Nat → Prop} {n:Nat} {H H':Hp} {z:Nat} {v:AV} {ws:List (List AV)} (h:RowOwn S n H z v ws):lenAt P H' t v=some (.int .i64 ws.length):=by
 rcases h with ⟨rfl,rfl⟩|⟨q,imm,rows,rfl,h1,h2,h3,h4,h5⟩
 · exact lenAt_nil ht
 · rw [lenAt_sl ht,show rows.length=ws.length from All2.len h5]
theorem RowOwn.push {P : Program} {t e : TypeId} {z b : Nat} {zz : List AV} (ht : P.underlying t = some (.slice e)) (hs : sizeA P e = some z) (hb : bytesA P e = some b) (hz : zeroA P e = some zz) (hzz : zz.length = z) (hsrc : srcType P t = true)
    {lo n:Nat} {H:Hp} {v:AV} {ws:List (List AV)} (h:RowOwn (fun k=>lo ≤ k) n H z v ws) (hlo:lo ≤ H.next) {r imm:Nat} {row w:List AV} (hg:H.get r=some (.cells row imm true)) (hrow:row.length=z) (hone:row.all AV.one=true)
    (hw:CellsW (fun k=>lo ≤ k ∧ ∀ o m z',v ≠ .sl k o m z') n H row w) (hb1:(ws.length + 1) * b ≤ maxRoom) (hb2:ws.length + 1 ≤ maxRoom) :
    ∃ v' H',appendA P false H t t v (.sl r 0 1 z)=some (v',H') ∧ RowOwn (fun k=>lo ≤ k) n H' z v' (ws ++ [w]) ∧ H'.next=H.next + 1 ∧ (∀ k,k < H.next → (∀ o m z',v ≠ .sl k o m z') → H'.get k=H.get k) ∧ ∀ k o m z',v'=.sl k o m z' → k=H.next:=by
  have hx:srcCells H z (.sl r 0 1 z)=some (1,row):=by
    have:=src_sl (H:=H) (r:=r) (o:=0) (n:=1) (z:=z) (s:=z) hg (by rw [List.drop_zero,List.length_take];omega)
    rw [this,List.drop_zero,List.take_of_length_le (by omega)]
  rcases h with ⟨rfl,rfl⟩|⟨q,imm',rows,rfl,h1,h2,h3,h4,h5⟩
  · refine ⟨.sl H.next 0 1 z, H.alloc (.cells row 0 true), append_nil ht hs hb hz hsrc hx hone hzz (by simpa using hb1) (by simpa using hb2), .inr ⟨H.next, 0, [row], rfl, hlo, Nat.lt_succ_self _, by rw [Hp.get_alloc, if_pos rfl]; simp, by simp, ⟨⟨hrow, hw.keep2 (fun k h1 h2 => ⟨h2.1, by omega⟩) (Nat.le_succ _) fun k h1 h2 => by rw [Hp.get_alloc, if_neg (by omega)]⟩, trivial⟩⟩, rfl, fun k hk _ => by rw [Hp.get_alloc, if_neg (by omega)], fun k o m z' e => ?_⟩
    simp only [AV.sl.injEq] at e
    exact e.1.symm
  · have hrl := rows_len (RowsW.len h5)
    have hwl:rows.length=ws.length:=All2.len h5
    have htr:trimA false H z (.sl q 0 rows.length z)=H:=by
      unfold trimA
      simp only [h3,Nat.zero_add]
      have:Nat.blt (rows.length * z) rows.flatten.length=false:=by
        cases hb:Nat.blt (rows.length * z) rows.flatten.length with
        | false=>rfl
        | true=>rw [Nat.blt_eq] at hb;omega
      simp only [Bool.not_false,Bool.true_and,this,Bool.false_and]
    refine ⟨.sl H.next 0 (rows.length + 1) z,(H.kill q).alloc (.cells (rows.flatten ++ row) (imm' - 0) true),?_,.inr ⟨H.next,imm' - 0,rows ++ [row],by simp,hlo,Nat.lt_succ_self _,?_,by rw [List.flatten_append,List.length_append];omega,?_⟩,rfl,fun k hk hno=>?_,fun k o m z' e=>?_⟩
    · simp only [appendA, ht, hs, hb, hz, hsrc, hx, hone, htr, hzz, and_self, if_true, appendOnto, h3, Nat.zero_add, List.drop_zero, Bool.false_eq_true, if_false]
      rw [if_pos ⟨by rw [hwl];exact hb1,by rw [hwl];exact hb2,by omega,trivial,h4⟩]
    · show ((H.kill q).alloc _).get (H.kill q).next = _
      rw [Hp.get_alloc,if_pos rfl];simp
    · have hold : ∀ k, k < H.next → k ≠ q → ((H.kill q).alloc (.cells (rows.flatten ++ row) (imm' - 0) true)).get k = H.get k := fun k h6 h7 => by rw [Hp.get_alloc, if_neg (by simp only [Hp.next_kill]; omega), Hp.get_kill, if_neg h7]
      refine All2.append (h5.keep2 (fun k h6 h7=>⟨h7.1,by omega⟩) (Nat.le_succ _) fun k h6 h7=>hold k h7 h6.2) ⟨⟨hrow,hw.keep2 (fun k h6 h7=>⟨h7.1,by omega⟩) (Nat.le_succ _) fun k h6 h7=>hold k h7 fun e=>h6.2 0 rows.length z (by rw [e])⟩,trivial⟩
    · rw [Hp.get_alloc,if_neg (by simp only [Hp.next_kill];omega),Hp.get_kill,if_neg (fun e=>hno 0 rows.length z (by rw [e]))]
    · simp only [AV.sl.injEq] at e
      exact e.1.symm
end Go.Proofs.Ytackdnelcpbfjaa
namespace Go.Proofs.Ytackdnelcpbfjaa
set_option maxRecDepth 20000
set_option maxRecDepth 20000
open Go Go.Ab
namespace tyG4
def tyF:=And.intro @tq3 (And.intro @tq26 (And.intro @tq36 (And.intro @tq46 (And.intro @tq80 (And.intro @tq9 (And.intro @tq35 (And.intro @tq37 (@tq39))))))))
end tyG4
open tyG4
noncomputable def code32:{ c:SC // slim 36 (Try.f32.body.getD .skip)=c }:=by
 refine ⟨?_,?_⟩
 rotate_left
 · simp only [Try.f32, Option.getD_some, slim, slimR, slimL, slimD, slimG, Nat.blt, Nat.ble]
   rfl
noncomputable def code65:{ c:SC // slim 156 (Try.f65.body.getD .skip)=c }:=by
 refine ⟨?_,?_⟩
 rotate_left
 · simp only [Try.f65, Option.getD_some, slim, slimR, slimL, slimD, slimG, Nat.blt, Nat.ble]
   rfl
abbrev Sd:=List Int × Int
def stsG (step:Sd → St × Sd):Nat → Sd → List St × Sd
 | 0,s=>([],s)
 | n + 1,s=>if s.1=[] then ([],s) else ((step s).1 :: (stsG step n (step s).2).1,(stsG step n (step s).2).2)
def argsG (f:Int):Nat → List Int → List Ex × List Int
 | 0,L=>([],L)
 | n + 1,L=>((exprG f 3 2 L).1 :: (argsG f n (exprG f 3 2 L).2).1,(argsG f n (exprG f 3 2 L).2).2)
def zE:Ex:=.mk 0 0 [] 0 []
def fgG (m:Int):List UInt8:=if m.tmod 2=0 then [102] else [103]
def stmtT (sub:Int → Sd → List St × Sd) (f:Int) (L1:List Int) (c q m:Int):St × Sd:=
 if q < 6 then (.mk 1 ((nmsG f).getD (m.tmod (nmsG f).length).toNat []) [] 0 zE (exprG f 5 0 L1).1 [] [] [],((exprG f 5 0 L1).2,c))
 else if q < 8 then (.mk 2 (arrG m) [] 0 (exprG f 3 2 L1).1 (exprG f 4 1 (exprG f 3 2 L1).2).1 [] [] [],((exprG f 4 1 (exprG f 3 2 L1).2).2,c))
 else if q < 10 then (.mk 3 [] [] 0 zE (exprG f 4 1 L1).1 [] (sub 3 ((exprG f 4 1 L1).2,c)).1 (sub 2 (sub 3 ((exprG f 4 1 L1).2,c)).2).1,(sub 2 (sub 3 ((exprG f 4 1 L1).2,c)).2).2)
 else if q < 12 then (.mk 4 [] [] 0 zE (exprG f 4 1 L1).1 [] (sub 3 ((exprG f 4 1 L1).2,w64 (c + 1))).1 [],(sub 3 ((exprG f 4 1 L1).2,w64 (c + 1))).2)
 else if q < 14 then (.mk 5 [] [] 0 zE (exprG f 4 1 L1).1 [] [] [],((exprG f 4 1 L1).2,c))
 else if q < 15 then (.mk 6 ((nmsG f).getD (m.tmod (nmsG f).length).toNat []) (fgG m) 0 zE zE (argsG f (2 - m.tmod 2).toNat L1).1 [] [],((argsG f (2 - m.tmod 2).toNat L1).2,c))
 else (.mk 7 [] [] m zE zE [] [] [],(L1,c))
def kindG (deep:Nat) (c q0:Int):Int:=if ((2:Int) < deep ∧ 8 ≤ q0 ∧ q0 < 12) ∨ (10 ≤ c ∧ 10 ≤ q0) then 0 else q0
def stmtB (sub:Int → Sd → List St × Sd) (f:Int) (deep:Nat) (s:Sd):St × Sd:=
 stmtT sub f (nextG s.1).2 s.2 (kindG deep s.2 (pickG (nextG s.1).1 16)) (pickG (w64 ((nextG s.1).1.tdiv 16)) 1000)
def stmtG (f:Int):Nat → Nat → Sd → St × Sd
 | 0,_,s=>(.mk 0 [] [] 0 zE zE [] [] [],s)
 | k + 1,deep,s=>stmtB (fun most s=>stsG (stmtG f k (deep + 1)) (pickG (nextG s.1).1 (most + 1)).toNat ((nextG s.1).2,s.2)) f deep s
def stmtsG (f:Int) (k deep:Nat) (most:Int) (s:Sd):List St × Sd:=stsG (stmtG f k deep) (pickG (nextG s.1).1 (most + 1)).toNat ((nextG s.1).2,s.2)
theorem stsG_len {step:Sd → St × Sd} (h:∀ s,(step s).2.1.length ≤ s.1.length):∀ (n:Nat) (s:Sd),(stsG step n s).2.1.length ≤ s.1.length
 | 0,_=>Nat.le_refl _
 | n + 1, s => by
   rw [stsG]
   split
   · exact Nat.le_refl _
   · exact Nat.le_trans (stsG_len h n _) (h s)
theorem argsG_len (f:Int):∀ (n:Nat) (L:List Int),(argsG f n L).2.length ≤ L.length
 | 0,_=>Nat.le_refl _
 | n + 1,L=>Nat.le_trans (argsG_len f n _) (exprG_len f 3 2 L)
theorem stmtB_len {sub:Int → Sd → List St × Sd} (h2:∀ (most:Int) (s:Sd),(sub most s).2.1.length ≤ s.1.length) (f:Int) (deep:Nat) (s:Sd):(stmtB sub f deep s).2.1.length ≤ s.1.length:=by
 have h:=nextG_len s.1
 have e41:=exprG_len f 4 1 (nextG s.1).2
 have e50:=exprG_len f 5 0 (nextG s.1).2
 have e32:=exprG_len f 3 2 (nextG s.1).2
 have e43:=exprG_len f 4 1 (exprG f 3 2 (nextG s.1).2).2
 rw [stmtB,stmtT]
 generalize kindG deep s.2 (pickG (nextG s.1).1 16)=q
 by_cases c1:q < 6
 · rw [if_pos c1];exact Nat.le_trans e50 h
 rw [if_neg c1]
 by_cases c2:q < 8
 · rw [if_pos c2];exact Nat.le_trans e43 (Nat.le_trans e32 h)
 rw [if_neg c2]
 by_cases c3:q < 10
 · rw [if_pos c3];exact Nat.le_trans (h2 _ _) (Nat.le_trans (h2 _ _) (Nat.le_trans e41 h))
 rw [if_neg c3]
 by_cases c4:q < 12
 · rw [if_pos c4];exact Nat.le_trans (h2 _ _) (Nat.le_trans e41 h)
 rw [if_neg c4]
 by_cases c5:q < 14
 · rw [if_pos c5];exact Nat.le_trans e41 h
 rw [if_neg c5]
 by_cases c6:q < 15
 · rw [if_pos c6];exact Nat.le_trans (argsG_len f _ _) h
 rw [if_neg c6];exact h
theorem stmtG_len (f:Int):∀ (k deep:Nat) (s:Sd),(stmtG f k deep s).2.1.length ≤ s.1.length
 | 0,_,_=>Nat.le_refl _
 | k + 1,deep,s=>stmtB_len (fun most s=>Nat.le_trans (stsG_len (stmtG_len f k (deep + 1)) _ _) (nextG_len s.1)) f deep s
def stC (k:Int) (nm to:List UInt8) (n:Int) (a v:List AV) (args thn els:AV):List AV:=[.int .i64 k,.str nm,.str to,.int .i64 n] ++ a ++ v ++ [args,thn,els]
theorem st_node {S:Nat → Prop} {n:Nat} {H:Hp} (k:Int) (nm to:List UInt8) (nn:Int) {a v:List AV} {ax vx:Ex} {args thn els:AV} {al:List Ex} {ts es:List St} (ha:CellsW S (n + 1) H a ax.cells) (hv:CellsW S (n + 1) H v vx.cells) (h1:RdW S (n + 1) H args (.lst (al.map Ex.cells))) (h2:RdW S (n + 1) H thn (.lst (ts.map St.cells))) (h3:RdW S (n + 1) H els (.lst (es.map St.cells))) :
   CellsW S (n + 1) H (stC k nm to nn a v args thn els) (St.mk k nm to nn ax vx al ts es).cells:=by
 have e:(St.mk k nm to nn ax vx al ts es).cells=[.int .i64 k,.str nm,.str to,.int .i64 nn] ++ ax.cells ++ vx.cells ++ [.lst (al.map Ex.cells),.lst (ts.map St.cells),.lst (es.map St.cells)]:=by
   rw [St.cells_eq,Ex.cells_eq,Ex.cells_eq];rfl
 rw [e]
 exact (((CellsW.cons (.int _ _) (.cons (.str _) (.cons (.str _) (.cons (.int _ _) .nil)))).append ha).append hv).append (.cons h1 (.cons h2 (.cons h3 .nil)))
def zC:List AV:=[.int .i64 0,.int .i64 0,.str [],.int .i64 0,.nilS]
theorem zC_w {S:Nat → Prop} {n:Nat} {H:Hp}:CellsW S (n + 1) H zC zE.cells:=ex_leaf 0 0 0 []
theorem bS1 (nm:List UInt8) {v:List AV} (h:v.length=5):buildA Try.prog 46 [(0,.int .i64 1),(1,.str nm),(5,.agg v)]=some (.agg (stC 1 nm [] 0 zC v .nilS .nilS .nilS)):=by
 obtain ⟨a,b,c,d,e,rfl⟩:=len5 h;kernel_rfl
theorem bS2 (nm:List UInt8) {a v:List AV} (h:a.length=5) (k:v.length=5):buildA Try.prog 46 [(0,.int .i64 2),(1,.str nm),(4,.agg a),(5,.agg v)]=some (.agg (stC 2 nm [] 0 a v .nilS .nilS .nilS)):=by
 obtain ⟨a,b,c,d,e,rfl⟩:=len5 h;obtain ⟨a',b',c',d',e',rfl⟩:=len5 k;kernel_rfl
theorem bS3 (k:Int) {v:List AV} (h:v.length=5):buildA Try.prog 46 [(0,.int .i64 k),(5,.agg v)]=some (.agg (stC k [] [] 0 zC v .nilS .nilS .nilS)):=by
 obtain ⟨a,b,c,d,e,rfl⟩:=len5 h;kernel_rfl
theorem bS6 (nm to:List UInt8):buildA Try.prog 46 [(0,.int .i64 6),(1,.str nm),(2,.str to)]=some (.agg (stC 6 nm to 0 zC zC .nilS .nilS .nilS)):=by kernel_rfl
theorem bS7 (n:Int):buildA Try.prog 46 [(0,.int .i64 7),(3,.int .i64 n)]=some (.agg (stC 7 [] [] n zC zC .nilS .nilS .nilS)):=by kernel_rfl
theorem len17 {cs:List AV} (h:cs.length=17):∃ c0 c1 c2 c3 c4 c5 c6 c7 c8 c9 d0 d1 d2 d3 d4 d5 d6,cs=[c0,c1,c2,c3,c4,c5,c6,c7,c8,c9,d0,d1,d2,d3,d4,d5,d6]:=by
 match cs,h with
 | [c0,c1,c2,c3,c4,c5,c6,c7,c8,c9,d0,d1,d2,d3,d4,d5,d6],_=>exact ⟨c0,c1,c2,c3,c4,c5,c6,c7,c8,c9,d0,d1,d2,d3,d4,d5,d6,rfl⟩
theorem bsT1 (H:Hp) {cs:List AV} (h:cs.length=17):buildSliceA Try.prog H 36 1 [(0,.agg cs)]=some (.sl H.next 0 1 17,H.alloc (.cells cs 0 true)):=by
 obtain ⟨c0,c1,c2,c3,c4,c5,c6,c7,c8,c9,d0,d1,d2,d3,d4,d5,d6,rfl⟩:=len17 h
 kernel_rfl
def MadeL (z n lo:Nat) (H:Hp) (r:Nat) (ws:List (List AV)) (L:List Int) (c:Int) (v:AV) (H':Hp):Prop:=
 RowOwn (fun q=>H.next ≤ q) n H' z v ws ∧ RdOk lo H' r L c ∧ H.next ≤ H'.next ∧ ∀ q,q < H.next → q ≠ r → H'.get q=H.get q
theorem RdOk.len {lo:Nat} {H:Hp} {r:Nat} {L:List Int} {c:Int} (h:RdOk lo H r L c):∃ v,H.get r=some (.cells [v,.int .i64 c] 0 true) ∧ ∀ H',lenAt Try.prog H' 26 v=some (.int .i64 L.length):=by
 obtain ⟨_,_,v,h1,h2⟩:=h
 refine ⟨v,h1,fun H'=>?_⟩
 rcases h2 with ⟨rfl,rfl⟩|⟨b,off,cs,imm,rfl,_⟩
 · exact lenAt_lst Try.underlying26 _
 · exact lenAt_sl Try.underlying26 _ _ _ _
def StmtSpec (lG:List En) (k:Nat) (f:Int) (deep:Nat):Prop:=∀ (lo:Nat) (H:Hp) (r:Nat) (s:Sd),RdOk lo H r s.1 s.2 → s.1.length < 2 ^ 60 →
 WpCall Try.prog (cfgN pls lG) 65 [.ptr r 0,.int .i64 f,.int .i64 deep] H (MadeW 17 (8 + k) lo H r (stmtG f k deep s).1.cells (stmtG f k deep s).2.1 (stmtG f k deep s).2.2)
set_option maxRecDepth 100000 in
theorem stmts_wp {lG : List En} (hG : GenL lG) {k : Nat} {f : Int} {deep : Nat} (hst : StmtSpec lG k f deep) (most : Int) (h0 : 0 ≤ most) (h1 : most ≤ 5) (lo : Nat) (H : Hp) (r : Nat) (s : Sd) (hrd : RdOk lo H r s.1 s.2) (hL : s.1.length < 2 ^ 60) :
    WpCall Try.prog (cfgN pls lG) 32 [.ptr r 0,.int .i64 f,.int .i64 deep,.int .i64 most] H (MadeL 17 (8 + k) lo H r ((stmtsG f k deep most s).1.map St.cells) (stmtsG f k deep most s).2.1 (stmtsG f k deep most s).2.2):=by
  have hw:Plain (cfgN pls lG) 32:=hG.plain (by rfl)
  have hkeep:(cfgN pls lG).keep 32=false:=rfl
  have hnx:Plain (cfgN pls lG) 31:=hG.plain (by rfl)
  have hrl:=hrd.1
  have hlo:=hrd.2.1
  have hw1:IntKind.wrap .i64 (most + 1)=most + 1:=i64_id (by omega) (by omega)
  rw [stmtsG]
  refine WpCall.slim (M:=36) (rs:=[.tmp 8]) (hw.call _) hw.ice hw.froz Try.func32 rfl rfl code32.2 rfl ?_;dsimp only [code32,envOf,Nat.reduceAdd]
  repeat' (first
     | (apply Rx.nl ?_;clear hK K)|apply Rx.o ?_|(apply Rx.gd (fun hg hgp=>?_) (fun hg hgp=>?_) <;> try (cases hg;done))|(apply Rx.cd (fun hb hbp=>?_) (fun hb hbp=>?_) <;> try (cases hb;done))|apply Wp.seq ?_|(apply Wp.ops' fun K hK=>?_)|apply Wp.block ?_|apply Rx.sk ?_|apply Rx.rt ?_|apply Rx.xt ?_)
  refine WpL.call rfl eVk eAk ?_;simp only [List.cons_append,List.nil_append,List.append_nil]
  refine WpCall.mono ?_ (next_wp hnx hrd hL)
  rintro v H2 ⟨rfl,hr2,n2,o2⟩
  have hL1:=nextG_len s.1
  generalize (nextG s.1).1=n at *
  generalize (nextG s.1).2=L1 at *
  have hm1:most + 1 ≠ 0:=by omega
  have hp:=pickG_range (n:=n) (m:=most + 1) (by omega) (by omega)
  generalize hc:(pickG n (most + 1)).toNat=cnt at *
  have hpc:pickG n (most + 1)=(cnt:Int):=by omega
  dsimp only [setO]
  repeat' (first
     | (apply Rx.nl ?_;clear hK K)|apply Rx.o ?_|(apply Rx.call ?_;first|refine Rx.k (pick_en hG.pick _ _ hm1 _) ?_)|(apply Rx.gd (fun hg hgp=>?_) (fun hg hgp=>?_) <;> try (cases hg;done))|(apply Rx.cd (fun hb hbp=>?_) (fun hb hbp=>?_) <;> try (cases hb;done))|apply Wp.seq ?_|(apply Wp.ops' fun K hK=>?_)|apply Wp.block ?_|apply Rx.sk ?_|apply Rx.rt ?_|apply Rx.xt ?_)
  refine Wp.forM [0,1,2,8] [] (fun i E H3=>i ≤ cnt ∧ E.at 10=.int .i64 i ∧ ∃ v l sd,E.at 9=v ∧ RowOwn (fun q=>H.next ≤ q) (8 + k) H3 17 v (l.map St.cells) ∧ RdOk lo H3 r sd.1 sd.2 ∧ (∀ q,q < H.next → q ≠ r → H3.get q=H.get q) ∧ l.length + i=cnt ∧ sd.1.length < 2 ^ 60 ∧
    stsG (stmtG f k deep) cnt (L1,s.2)=(l ++ (stsG (stmtG f k deep) i sd).1,(stsG (stmtG f k deep) i sd).2)) cnt ⟨Nat.le_refl _,(by first|(simp only [sB,Nat.reduceBEq,hpc, *];done)|rfl),.nilS,[],(L1,s.2),eE,.inl ⟨rfl,rfl⟩,hr2,fun q h1 h2=>o2 q h2,by simp,by simp only [];omega,by simp⟩ ?_
  rintro i E H3 hcE hrH hnH ⟨hic,hsI,v,l,sd,k9,hrow,hr3,o3,hli,hsl,hJ⟩
  (try simp only [forall_cons,forall_nil,and_true,sB,sO,Nat.reduceBEq,Nat.reduceAdd,Nat.reduceLeDiff,tyF, *] at hcE)
  obtain ⟨lv,hgr,hlen⟩:=hr3.len
  have hle:H.next ≤ H3.next:=by omega
  repeat' (first
     | (apply Rx.nl ?_;clear hK K)|apply Rx.o ?_|(apply Rx.gd (fun hg hgp=>?_) (fun hg hgp=>?_) <;> try (cases hg;done))|(apply Rx.cd (fun hb hbp=>?_) (fun hb hbp=>?_) <;> try (cases hb;done))|apply Wp.seq ?_|(apply Wp.ops' fun K hK=>?_)|apply Wp.block ?_|apply Rx.sk ?_|apply Rx.rt ?_|apply Rx.xt ?_)
  · refine WpL.call rfl eVk eAk ?_; simp only [List.cons_append, List.nil_append, List.append_nil]
    refine WpCall.mono ?_ (hst lo H3 r sd hr3 hsl)
    rintro v' H4 ⟨⟨cs,rfl,hc1,hc2,hc3⟩,hr4,n4,o4⟩
    have kb:=fun H=>bsT1 H hc1
    dsimp only [setO]
    repeat' (first
       | (apply Rx.nl ?_;clear hK K)|apply Rx.o ?_|(apply Rx.gd (fun hg hgp=>?_) (fun hg hgp=>?_) <;> try (cases hg;done))|(apply Rx.cd (fun hb hbp=>?_) (fun hb hbp=>?_) <;> try (cases hb;done))|apply Wp.seq ?_|(apply Wp.ops' fun K hK=>?_)|apply Wp.block ?_|apply Rx.sk ?_|apply Rx.rt ?_|apply Rx.xt ?_)
    have hvq:∀ q o m z',v=.sl q o m z' → H.next ≤ q ∧ q < H3.next:=fun q o m z' e=>by
      rcases hrow with ⟨rfl,_⟩|⟨q',imm,rows,rfl,e1,e2,_⟩
      · cases e
      · simp only [AV.sl.injEq] at e
        rw [← e.1];exact ⟨e1,e2⟩
    have hrow4:RowOwn (fun q=>H.next ≤ q) (8 + k) (H4.alloc (.cells cs 0 true)) 17 v (l.map St.cells):=hrow.keep (fun q _ h=>h) (by simp only [Hp.next_alloc];omega) fun q h1 h2=>by rw [Hp.get_alloc,if_neg (by omega),o4 q h2 (by omega)]
    obtain ⟨v5,H5,a5,s5,n5,f5,q5⟩:=RowOwn.push (P:=Try.prog) (t:=36) Try.underlying36 sz46 bt46 zr46 rfl (by kernel_rfl) hrow4 (by simp only [Hp.next_alloc];omega) (r:=H4.next) (imm:=0) (row:=cs) (w:=(stmtG f k deep sd).1.cells) (by rw [Hp.get_alloc,if_pos rfl]) hc1 hc2 (hc3.keep2 (fun q h1 h2=>⟨by omega,fun o m z' e=>by have:=(hvq q o m z' e).2;omega⟩) (Nat.le_succ _) fun q h1 h2=>by rw [Hp.get_alloc,if_neg (by omega)]) (by simp only [List.length_map,maxRoom];omega) (by simp only [List.length_map,maxRoom];omega)
    refine WpL.append eV eV (by rw [hkeep];exact a5) ?_
    have hi0:0 < i:=by omega
    obtain ⟨i,rfl⟩:∃ j,i=j + 1:=⟨i - 1,by omega⟩
    have hwd:IntKind.wrap .i64 (((i + 1:Nat):Int) - 1)=(i:Int):=by rw [i64_id (by omega) (by omega)];omega
    simp only [Hp.next_alloc] at n5 f5
    have n5':H3.next ≤ H5.next:=by omega
    have o5:∀ q,q < H.next → q ≠ r → H5.get q=H.get q:=fun q h1 h2=>by rw [f5 q (by omega) (fun o m z' e=>by have:=(hvq q o m z' e).1;omega),Hp.get_alloc,if_neg (by omega),o4 q (by omega) h2,o3 q h1 h2]
    have hr5:RdOk lo H5 r (stmtG f k deep sd).2.1 (stmtG f k deep sd).2.2:=hr4.keep (by omega) fun q hq=>by rw [f5 q (by omega) (fun o m z' e=>by have:=(hvq q o m z' e).1;omega),Hp.get_alloc,if_neg (by omega)]
    clear n5 f5 a5 hrow4 o4 hr4
    repeat' (first
       | (apply Rx.nl ?_;clear hK K)|apply Rx.o ?_|(apply Rx.gd (fun hg hgp=>?_) (fun hg hgp=>?_) <;> try (cases hg;done))|(apply Rx.cd (fun hb hbp=>?_) (fun hb hbp=>?_) <;> try (cases hb;done))|apply Wp.seq ?_|(apply Wp.ops' fun K hK=>?_)|apply Wp.block ?_|apply Rx.sk ?_|apply Rx.rt ?_|apply Rx.xt ?_)
    have hne:sd.1 ≠ []:=by
      intro e
      have:sd.1.length=0:=by rw [e];rfl
      omega
    have hsd:=stmtG_len f k deep sd
    refine ⟨(by simp only [forall_cons,forall_nil,and_true,sB,sO,Nat.reduceBEq,Nat.reduceAdd,Nat.reduceLeDiff,tyF, *]),(by simp only [forall_nil]),by omega,i,Nat.lt_succ_self _,by omega,eE,v5,l ++ [(stmtG f k deep sd).1],(stmtG f k deep sd).2,eE,by rw [List.map_append];exact s5,hr5,o5,by simp;omega,by omega,?_⟩
    rw [hJ,stsG,if_neg hne]
    simp
  all_goals
    all_goals (refine ⟨eI,_,eR,?_⟩;try simp only [oneOr])
    have hfin:stsG (stmtG f k deep) i sd=([],sd):=by
      rcases (by omega:i=0 ∨ sd.1.length=0) with h|h
      · rw [h];rfl
      · cases i with
        | zero=>rfl
        | succ i=>rw [stsG,if_pos (List.eq_nil_of_length_eq_zero h)]
    rw [hJ,hfin]
    exact ⟨by rw [List.append_nil];exact hrow,hr3,hle,o3⟩
end Go.Proofs.Ytackdnelcpbfjaa
namespace Go.Proofs.Ytackdnelcpbfjaa
set_option maxRecDepth 20000
open Go Go.Ab
theorem zStmt:zeroA Try.prog 46=some (stC 0 [] [] 0 zC zC .nilS .nilS .nilS):=by kernel_rfl
theorem fg_at {m:Int} (h:0 ≤ m):[AV.str [102],AV.str [103]][(m.tmod 2).toNat]?=some (.str (fgG m)):=by
 rw [two_at h,fgG];split <;> rfl
theorem Wp.join {P:Program} {cfg:Cfg} {f N:Nat} {a:SC} {E:Env} {H:Hp} {Q:AX → Env → Hp → Prop} (F:Env → Hp → Prop) (h1:Wp P cfg f N a E H fun x E' H'=>x=.normal ∧ F E' H') (h2:∀ E' H',F E' H' → Q .normal E' H'):Wp P cfg f N a E H Q:=
 Wp.mono (fun x E' H' h=>by obtain ⟨rfl,h⟩:=h;exact h2 E' H' h) h1
theorem RdOk.tick {lo:Nat} {H:Hp} {r:Nat} {L:List Int} {c:Int} (h:RdOk lo H r L c):∃ v,H.get r=some (.cells [v,.int .i64 c] 0 true) ∧ ∀ c',RdOk lo (H.set r (.cells [v,.int .i64 c'] 0 true)) r L c':=by
 obtain ⟨h0,h00,v,h1,h2⟩:=h
 refine ⟨v,h1,fun c'=>⟨h0,h00,v,by rw [Hp.get_set,if_pos rfl],?_⟩⟩
 rcases h2 with h2|⟨b,off,cs,imm,e1,e2,e3,e4,e5⟩
 · exact .inl h2
 · exact .inr ⟨b,off,cs,imm,e1,by rw [Hp.get_set,if_neg e4];exact e2,e3,e4,e5⟩
theorem kb1 (nm:List UInt8) (v0 v1 v2 v3 v4:AV):buildA Try.prog 46 [(0,.int .i64 1),(1,.str nm),(5,.agg [v0,v1,v2,v3,v4])]=some (.agg [.int .i64 1,.str nm,.str [],.int .i64 0,.int .i64 0,.int .i64 0,.str [],.int .i64 0,.nilS,v0,v1,v2,v3,v4,.nilS,.nilS,.nilS]):=bS1 nm rfl
theorem kb2 (nm:List UInt8) (a0 a1 a2 a3 a4 v0 v1 v2 v3 v4:AV):buildA Try.prog 46 [(0,.int .i64 2),(1,.str nm),(4,.agg [a0,a1,a2,a3,a4]),(5,.agg [v0,v1,v2,v3,v4])]=some (.agg [.int .i64 2,.str nm,.str [],.int .i64 0,a0,a1,a2,a3,a4,v0,v1,v2,v3,v4,.nilS,.nilS,.nilS]):=bS2 nm rfl rfl
theorem kb3 (k:Int) (v0 v1 v2 v3 v4:AV):buildA Try.prog 46 [(0,.int .i64 k),(5,.agg [v0,v1,v2,v3,v4])]=some (.agg [.int .i64 k,.str [],.str [],.int .i64 0,.int .i64 0,.int .i64 0,.str [],.int .i64 0,.nilS,v0,v1,v2,v3,v4,.nilS,.nilS,.nilS]):=bS3 k rfl
theorem kb6 (nm to:List UInt8):buildA Try.prog 46 [(0,.int .i64 6),(1,.str nm),(2,.str to)]=some (.agg [.int .i64 6,.str nm,.str to,.int .i64 0,.int .i64 0,.int .i64 0,.str [],.int .i64 0,.nilS,.int .i64 0,.int .i64 0,.str [],.int .i64 0,.nilS,.nilS,.nilS,.nilS]):=bS6 nm to
theorem kb7 (n:Int):buildA Try.prog 46 [(0,.int .i64 7),(3,.int .i64 n)]=some (.agg [.int .i64 7,.str [],.str [],.int .i64 n,.int .i64 0,.int .i64 0,.str [],.int .i64 0,.nilS,.int .i64 0,.int .i64 0,.str [],.int .i64 0,.nilS,.nilS,.nilS,.nilS]):=bS7 n
theorem ag17 (c0 c1 c2 c3 c4 c5 c6 c7 c8 c9 d0 d1 d2 d3 d4 d5 d6:AV):aggA 17 [c0,c1,c2,c3,c4,c5,c6,c7,c8,c9,d0,d1,d2,d3,d4,d5,d6]=some (.agg [c0,c1,c2,c3,c4,c5,c6,c7,c8,c9,d0,d1,d2,d3,d4,d5,d6]):=rfl
theorem zS17:zeroA Try.prog 46=some [.int .i64 0,.str [],.str [],.int .i64 0,.int .i64 0,.int .i64 0,.str [],.int .i64 0,.nilS,.int .i64 0,.int .i64 0,.str [],.int .i64 0,.nilS,.nilS,.nilS,.nilS]:=by kernel_rfl
theorem all5 {a b c d e:AV} (h:[a,b,c,d,e].all AV.one=true):AV.one a=true ∧ AV.one b=true ∧ AV.one c=true ∧ AV.one d=true ∧ AV.one e=true:=by
 simp only [List.all_cons,List.all_nil,Bool.and_true,Bool.and_eq_true] at h
 exact ⟨h.1,h.2.1,h.2.2.1,h.2.2.2.1,h.2.2.2.2⟩
theorem made17 {lo:Nat} {H:Hp} {r n:Nat} {H5:Hp} {L:List Int} {c:Int} {cs:List AV} {x:St} (hl:cs.length=17) (ha:cs.all AV.one=true) (hc:CellsW (fun q=>H.next ≤ q) n H5 cs x.cells) (hr:RdOk lo H5 r L c) (hn:H.next ≤ H5.next) (ho:∀ q,q < H.next → q ≠ r → H5.get q=H.get q):MadeW 17 n lo H r x.cells L c (.agg cs) H5:=⟨⟨cs,rfl,hl,ha,hc⟩,hr,hn,ho⟩
def scR:SC → SC
 | .seq _ b=>b
 | x=>x
noncomputable def tail51:SC:=scR (scR (scR (scR (scR (scR code65.1)))))
noncomputable def subG (f:Int) (k deep:Nat):Int → Sd → List St × Sd:=fun most s=>stsG (stmtG f k (deep + 1)) (pickG (nextG s.1).1 (most + 1)).toNat ((nextG s.1).2,s.2)
structure AtT (f:Int) (deep lo:Nat) (H H2:Hp) (r:Nat) (L1:List Int) (c q m:Int) (E2:Env):Prop where
 hd:deep ≤ 3
 hrl:r < lo
 hlo:lo ≤ H.next
 n2:H2.next=H.next + 1
 g2:H2.get H.next=some (.cells [.int .i64 0,.str [],.str [],.int .i64 0,.int .i64 0,.int .i64 0,.str [],.int .i64 0,.nilS,.int .i64 0,.int .i64 0,.str [],.int .i64 0,.nilS,.nilS,.nilS,.nilS] 0 true)
 o2:∀ q,q < H.next → q ≠ r → H2.get q=H.get q
 hr2:RdOk lo H2 r L1 c
 hL:L1.length < 2 ^ 60
 hm:0 ≤ m ∧ m < 1000
 hqd:8 ≤ q → q < 12 → deep ≤ 2
 k0:E2.at 0=.ptr r 0
 k1:E2.at 1=.int .i64 f
 k2:E2.at 2=.int .i64 deep
 k6:E2.at 6=.ptr H.next 0
 k8:E2.at 8=lstS (nmsG f)
 k9:E2.at 9=.int .i64 m
 k10:E2.at 10=.int .i64 q
def TailW (k:Nat) (f:Int) (deep lo:Nat) (H:Hp) (r:Nat) (L1:List Int) (c q m:Int):AX → Env → Hp → Prop:=fun x E' H'=>(x=.normal ∨ x=.ret) ∧ ∃ vs,resultsA Try.prog E' H' [.cell 6 46]=some vs ∧ MadeW 17 (8 + (k + 1)) lo H r (stmtT (subG f k deep) f L1 c q m).1.cells (stmtT (subG f k deep) f L1 c q m).2.1 (stmtT (subG f k deep) f L1 c q m).2.2 (oneOr vs) H'
end Go.Proofs.Ytackdnelcpbfjaa
namespace Go.Proofs.Ytackdnelcpbfjaa
set_option maxRecDepth 20000
set_option maxRecDepth 20000
open Go Go.Ab
namespace tyG5a
def tyF:=And.intro @tq3 (And.intro @tq9 (And.intro @tq26 (And.intro @tq35 (And.intro @tq36 (And.intro @tq37 (And.intro @tq39 (And.intro @tq46 (And.intro @tq80 (And.intro @bin_rem (And.intro @kb7 (And.intro @ag17 (And.intro @nms2 (And.intro @kb1 (And.intro @kb2 (@kb3)))))))))))))))
end tyG5a
open tyG5a
set_option maxRecDepth 100000 in
theorem tail_assign {lG:List En} (hG:GenL lG) {k:Nat} {f:Int} {deep lo:Nat} {H H2:Hp} {r:Nat} {L1:List Int} {c q m:Int} {E2:Env} (hst:deep ≤ 2 → StmtSpec lG k f (deep + 1)) (hat:AtT f deep lo H H2 r L1 c q m E2)  (hp0:q < 6):Wp Try.prog (cfgN pls lG) 65 156 tail51 E2 H2 (TailW k f deep lo H r L1 c q m):=by
 obtain ⟨hd,hrl,hlo,n2,g2,o2',hr2,hL1,hm,hqd,k0,k1,k2,k6,k8,k9,k10⟩:=hat
 have hkeep:(cfgN pls lG).keep 65=false:=rfl
 have hq2:(2:Int) ≠ 0:=by decide
 have hlen0:((nmsG f).length:Int) ≠ 0:=by rcases nmsG_len f with h|h <;> rw [h] <;> decide
 obtain ⟨hi0,hix⟩:=getD_tmod (nmsG f) hlen0 hm.1 []
 have hxs:=ixS2 hm.1
 have hxa:=arr_at hm.1
 have hxf:=fg_at hm.1
 have er:(H.next == r)=false:=ne_beq (by omega)
 have e41:=exprG_len f 4 1 L1
 have e50:=exprG_len f 5 0 L1
 have e32:=exprG_len f 3 2 L1
 have hwd:IntKind.wrap .i64 ((deep:Int) + 1)=((deep + 1:Nat):Int):=wrap_succ (by omega)
 unfold TailW
 generalize hR:stmtT (subG f k deep) f L1 c q m=R
 rw [stmtT] at hR
 dsimp only [tail51,scR,code65]
 repeat' (first
    | (apply Rx.nl ?_;clear hK K)|apply Ry.o ?_|(apply Ry.cd (fun hb hbp=>?_) (fun hb hbp=>?_) <;> try (cases hb;done))|apply Wp.seq ?_|(apply Wp.ops' fun K hK=>?_)|(apply Rx.dT 8 [(3,9),(3,11),(6,9),(6,11)] fun K hK=>?_)|(apply Rx.dT 10 [(0,7),(0,10),(0,12),(4,7),(4,10),(4,12)] fun K hK=>?_)|(apply Rx.dT 24 [(3,14),(6,14),(7,14),(11,14),(13,14)] fun K hK=>?_)|(apply Rx.dT 28 [(1,4),(1,6),(5,6)] fun K hK=>?_)|(apply Rx.nq ?_;try intro _)|(apply Rx.nt ?_ ?_ <;> clear hK K)|apply WpT.step ?_|apply WpT.step0 rfl ?_|apply Wp.block ?_|apply Rx.rt ?_)

 refine WpL.call rfl eVk eAk ?_;simp only [List.cons_append,List.nil_append,List.append_nil]
 refine WpCall.mono ?_ (exprG_wp hG 5 f 0 (by omega) (by omega) lo _ r L1 c hr2 (by omega))
 rintro v H4 ⟨⟨cs,rfl,hc1,hc2,hc3⟩,hr4,n4,o4⟩
 obtain ⟨v0,v1,v2,v3,v4,rfl⟩:=len5 hc1
 obtain ⟨w0,w1,w2,w3,w4⟩:=all5 hc2
 have g4:H4.get H.next=some (.cells [.int .i64 0,.str [],.str [],.int .i64 0,.int .i64 0,.int .i64 0,.str [],.int .i64 0,.nilS,.int .i64 0,.int .i64 0,.str [],.int .i64 0,.nilS,.nilS,.nilS,.nilS] 0 true):=by rw [o4 _ (by omega) (by omega)];exact g2
 dsimp only [setO]
 repeat' (first
    | (apply Rx.nl ?_;clear hK K)|apply Rx.o ?_|apply Rx.on ?_|apply Wp.seq ?_|(apply Wp.ops' fun K hK=>?_)|(apply Rx.dT 8 [(3,9),(3,11),(6,9),(6,11)] fun K hK=>?_)|(apply Rx.dT 10 [(0,7),(0,10),(0,12),(4,7),(4,10),(4,12)] fun K hK=>?_)|(apply Rx.dT 24 [(3,14),(6,14),(7,14),(11,14),(13,14)] fun K hK=>?_)|(apply Rx.dT 28 [(1,4),(1,6),(5,6)] fun K hK=>?_)|(apply Rx.nq ?_;try intro _)|(apply Rx.nt ?_ ?_ <;> clear hK K)|apply WpT.step ?_|apply WpT.step0 rfl ?_|apply Wp.block ?_|apply Rx.rt ?_)
 · exact eK
 · refine ⟨eI, _, (by (try simp only [sB, sO, Nat.reduceBEq, Nat.reduceAdd, Nat.reduceLeDiff, tyF, resultsA, resultA, ag17, *]); first | done | with_reducible rfl), ?_⟩; try simp only [oneOr]
   rw [if_pos (by omega)] at hR
   subst hR
   refine made17 rfl (by simp only [List.all_cons,List.all_nil,w0,w1,w2,w3,w4,Bool.and_true];rfl) (st_node (n:=8 + k) 1 _ [] 0 zC_w ((hc3.up (by omega)).keep2 (fun q _ hq=>by omega) (by simp only [Hp.next_set];omega) fun q h1 h2=>by rw [Hp.get_set,if_neg (by omega)]) .nilS .nilS .nilS) ?_ ?_ ?_
   · exact hr4.keep (by simp only [Hp.next_set];omega) fun q hq=>by rw [Hp.get_set,if_neg (by omega)]
   · simp only [Hp.next_set];omega
   · intro q h1 h2
     rw [Hp.get_set,if_neg (by omega),o4 _ (by omega) h2]
     exact o2' q h1 h2
set_option maxRecDepth 100000 in
theorem tail_store {lG:List En} (hG:GenL lG) {k:Nat} {f:Int} {deep lo:Nat} {H H2:Hp} {r:Nat} {L1:List Int} {c q m:Int} {E2:Env} (hst:deep ≤ 2 → StmtSpec lG k f (deep + 1)) (hat:AtT f deep lo H H2 r L1 c q m E2) (hn0:¬ q < 6) (hp0:q < 8):Wp Try.prog (cfgN pls lG) 65 156 tail51 E2 H2 (TailW k f deep lo H r L1 c q m):=by
 obtain ⟨hd,hrl,hlo,n2,g2,o2',hr2,hL1,hm,hqd,k0,k1,k2,k6,k8,k9,k10⟩:=hat
 have hkeep:(cfgN pls lG).keep 65=false:=rfl
 have hq2:(2:Int) ≠ 0:=by decide
 have hlen0:((nmsG f).length:Int) ≠ 0:=by rcases nmsG_len f with h|h <;> rw [h] <;> decide
 obtain ⟨hi0,hix⟩:=getD_tmod (nmsG f) hlen0 hm.1 []
 have hxs:=ixS2 hm.1
 have hxa:=arr_at hm.1
 have hxf:=fg_at hm.1
 have er:(H.next == r)=false:=ne_beq (by omega)
 have e41:=exprG_len f 4 1 L1
 have e50:=exprG_len f 5 0 L1
 have e32:=exprG_len f 3 2 L1
 have hwd:IntKind.wrap .i64 ((deep:Int) + 1)=((deep + 1:Nat):Int):=wrap_succ (by omega)
 unfold TailW
 generalize hR:stmtT (subG f k deep) f L1 c q m=R
 rw [stmtT] at hR
 dsimp only [tail51,scR,code65]
 repeat' (first
    | (apply Rx.nl ?_;clear hK K)|apply Ry.o ?_|(apply Ry.cd (fun hb hbp=>?_) (fun hb hbp=>?_) <;> try (cases hb;done))|apply Wp.seq ?_|(apply Wp.ops' fun K hK=>?_)|(apply Rx.dT 8 [(3,9),(3,11),(6,9),(6,11)] fun K hK=>?_)|(apply Rx.dT 10 [(0,7),(0,10),(0,12),(4,7),(4,10),(4,12)] fun K hK=>?_)|(apply Rx.dT 24 [(3,14),(6,14),(7,14),(11,14),(13,14)] fun K hK=>?_)|(apply Rx.dT 28 [(1,4),(1,6),(5,6)] fun K hK=>?_)|(apply Rx.nq ?_;try intro _)|(apply Rx.nt ?_ ?_ <;> clear hK K)|apply WpT.step ?_|apply WpT.step0 rfl ?_|apply Wp.block ?_|apply Rx.rt ?_)

 refine WpL.call rfl eVk eAk ?_;simp only [List.cons_append,List.nil_append,List.append_nil]
 refine WpCall.mono ?_ (exprG_wp hG 3 f 2 (by omega) (by omega) lo _ r L1 c (hr2.keep (Nat.le_succ _) fun q hq=>by rw [Hp.get_alloc,if_neg (by omega)]) (by omega))
 rintro v H4 ⟨⟨al,rfl,ha1,ha2,ha3⟩,hr4,n4,o4⟩
 simp only [Hp.next_alloc] at n4 o4 ha3
 obtain ⟨a0,a1,a2,a3,a4,rfl⟩:=len5 ha1
 obtain ⟨u0,u1,u2,u3,u4⟩:=all5 ha2
 have g4s:H4.get (H.next + 1)=some (.cells [.str [97],.str [98]] 0 true):=by rw [o4 _ (by omega) (by omega),Hp.get_alloc,if_pos (by omega)]
 dsimp only [setO]
 repeat' (first
    | (apply Rx.nl ?_;clear hK K)|apply Rx.o ?_|apply Rx.on ?_|apply Wp.seq ?_|(apply Wp.ops' fun K hK=>?_)|(apply Rx.dT 8 [(3,9),(3,11),(6,9),(6,11)] fun K hK=>?_)|(apply Rx.dT 10 [(0,7),(0,10),(0,12),(4,7),(4,10),(4,12)] fun K hK=>?_)|(apply Rx.dT 24 [(3,14),(6,14),(7,14),(11,14),(13,14)] fun K hK=>?_)|(apply Rx.dT 28 [(1,4),(1,6),(5,6)] fun K hK=>?_)|(apply Rx.nq ?_;try intro _)|(apply Rx.nt ?_ ?_ <;> clear hK K)|apply WpT.step ?_|apply WpT.step0 rfl ?_|apply Wp.block ?_|apply Rx.rt ?_)
 refine WpL.call rfl eVk eAk ?_;simp only [List.cons_append,List.nil_append,List.append_nil]
 refine WpCall.mono ?_ (exprG_wp hG 4 f 1 (by omega) (by omega) lo H4 r _ c hr4 (by omega))
 rintro v H5 ⟨⟨cs,rfl,hc1,hc2,hc3⟩,hr5,n5,o5⟩
 obtain ⟨v0,v1,v2,v3,v4,rfl⟩:=len5 hc1
 obtain ⟨w0,w1,w2,w3,w4⟩:=all5 hc2
 have g5s:H5.get (H.next + 1)=some (.cells [.str [97],.str [98]] 0 true):=by rw [o5 _ (by omega) (by omega)];exact g4s
 have g5:H5.get H.next=some (.cells [.int .i64 0,.str [],.str [],.int .i64 0,.int .i64 0,.int .i64 0,.str [],.int .i64 0,.nilS,.int .i64 0,.int .i64 0,.str [],.int .i64 0,.nilS,.nilS,.nilS,.nilS] 0 true):=by rw [o5 _ (by omega) (by omega),o4 _ (by omega) (by omega),Hp.get_alloc,if_neg (by omega)];exact g2
 dsimp only [setO]
 repeat' (first
    | (apply Rx.nl ?_;clear hK K)|apply Rx.o ?_|apply Rx.on ?_|apply Wp.seq ?_|(apply Wp.ops' fun K hK=>?_)|(apply Rx.dT 8 [(3,9),(3,11),(6,9),(6,11)] fun K hK=>?_)|(apply Rx.dT 10 [(0,7),(0,10),(0,12),(4,7),(4,10),(4,12)] fun K hK=>?_)|(apply Rx.dT 24 [(3,14),(6,14),(7,14),(11,14),(13,14)] fun K hK=>?_)|(apply Rx.dT 28 [(1,4),(1,6),(5,6)] fun K hK=>?_)|(apply Rx.nq ?_;try intro _)|(apply Rx.nt ?_ ?_ <;> clear hK K)|apply WpT.step ?_|apply WpT.step0 rfl ?_|apply Wp.block ?_|apply Rx.rt ?_)
 · exact eK
 · refine ⟨eI, _, (by (try simp only [sB, sO, Nat.reduceBEq, Nat.reduceAdd, Nat.reduceLeDiff, tyF, resultsA, resultA, ag17, *]); first | done | with_reducible rfl), ?_⟩; try simp only [oneOr]
   rw [if_neg (by omega),if_pos (by omega)] at hR
   subst hR
   refine made17 rfl (by simp only [List.all_cons,List.all_nil,u0,u1,u2,u3,u4,w0,w1,w2,w3,w4,Bool.and_true];rfl) (st_node (n:=8 + k) 2 _ [] 0 ((ha3.up (by omega)).keep2 (fun q _ hq=>by omega) (by simp only [Hp.next_set];omega) fun q h1 h2=>by rw [Hp.get_set,if_neg (by omega),o5 _ (by omega) (by omega)]) ((hc3.up (by omega)).keep2 (fun q _ hq=>by omega) (by simp only [Hp.next_set];omega) fun q h1 h2=>by rw [Hp.get_set,if_neg (by omega)]) .nilS .nilS .nilS) ?_ ?_ ?_
   · exact hr5.keep (by simp only [Hp.next_set];omega) fun q hq=>by rw [Hp.get_set,if_neg (by omega)]
   · simp only [Hp.next_set];omega
   · intro q h1 h2
     rw [Hp.get_set,if_neg (by omega),o5 _ (by omega) h2,o4 _ (by omega) h2,Hp.get_alloc,if_neg (by omega)]
     exact o2' q h1 h2
set_option maxRecDepth 100000 in
theorem tail_out {lG:List En} (hG:GenL lG) {k:Nat} {f:Int} {deep lo:Nat} {H H2:Hp} {r:Nat} {L1:List Int} {c q m:Int} {E2:Env} (hst:deep ≤ 2 → StmtSpec lG k f (deep + 1)) (hat:AtT f deep lo H H2 r L1 c q m E2) (hn0:¬ q < 6) (hn1:¬ q < 8) (hn2:¬ q < 10) (hn3:¬ q < 12) (hp0:q < 14):Wp Try.prog (cfgN pls lG) 65 156 tail51 E2 H2 (TailW k f deep lo H r L1 c q m):=by
 obtain ⟨hd,hrl,hlo,n2,g2,o2',hr2,hL1,hm,hqd,k0,k1,k2,k6,k8,k9,k10⟩:=hat
 have hkeep:(cfgN pls lG).keep 65=false:=rfl
 have hq2:(2:Int) ≠ 0:=by decide
 have hlen0:((nmsG f).length:Int) ≠ 0:=by rcases nmsG_len f with h|h <;> rw [h] <;> decide
 obtain ⟨hi0,hix⟩:=getD_tmod (nmsG f) hlen0 hm.1 []
 have hxs:=ixS2 hm.1
 have hxa:=arr_at hm.1
 have hxf:=fg_at hm.1
 have er:(H.next == r)=false:=ne_beq (by omega)
 have e41:=exprG_len f 4 1 L1
 have e50:=exprG_len f 5 0 L1
 have e32:=exprG_len f 3 2 L1
 have hwd:IntKind.wrap .i64 ((deep:Int) + 1)=((deep + 1:Nat):Int):=wrap_succ (by omega)
 unfold TailW
 generalize hR:stmtT (subG f k deep) f L1 c q m=R
 rw [stmtT] at hR
 dsimp only [tail51,scR,code65]
 repeat' (first
    | (apply Rx.nl ?_;clear hK K)|apply Ry.o ?_|(apply Ry.cd (fun hb hbp=>?_) (fun hb hbp=>?_) <;> try (cases hb;done))|apply Wp.seq ?_|(apply Wp.ops' fun K hK=>?_)|apply Wp.block ?_|apply Rx.rt ?_)

 refine WpL.call rfl eVk eAk ?_;simp only [List.cons_append,List.nil_append,List.append_nil]
 refine WpCall.mono ?_ (exprG_wp hG 4 f 1 (by omega) (by omega) lo _ r L1 c hr2 (by omega))
 rintro v H4 ⟨⟨cs,rfl,hc1,hc2,hc3⟩,hr4,n4,o4⟩
 obtain ⟨v0,v1,v2,v3,v4,rfl⟩:=len5 hc1
 obtain ⟨w0,w1,w2,w3,w4⟩:=all5 hc2
 have g4:H4.get H.next=some (.cells [.int .i64 0,.str [],.str [],.int .i64 0,.int .i64 0,.int .i64 0,.str [],.int .i64 0,.nilS,.int .i64 0,.int .i64 0,.str [],.int .i64 0,.nilS,.nilS,.nilS,.nilS] 0 true):=by rw [o4 _ (by omega) (by omega)];exact g2
 dsimp only [setO]
 repeat' (first
    | (apply Rx.nl ?_;clear hK K)|apply Rx.o ?_|apply Rx.on ?_|apply Wp.seq ?_|(apply Wp.ops' fun K hK=>?_)|apply Wp.block ?_|apply Rx.rt ?_)
 refine ⟨eI,_,(by (try simp only [sB,sO,Nat.reduceBEq,Nat.reduceAdd,Nat.reduceLeDiff,tyF,resultsA,resultA,ag17, *]);first|done|with_reducible rfl),?_⟩;try simp only [oneOr]
 rw [if_neg (by omega),if_neg (by omega),if_neg (by omega),if_neg (by omega),if_pos (by omega)] at hR
 subst hR
 refine made17 rfl (by simp only [List.all_cons,List.all_nil,w0,w1,w2,w3,w4,Bool.and_true];rfl) (st_node (n:=8 + k) 5 [] [] 0 zC_w ((hc3.up (by omega)).keep2 (fun q _ hq=>by omega) (by simp only [Hp.next_set];omega) fun q h1 h2=>by rw [Hp.get_set,if_neg (by omega)]) .nilS .nilS .nilS) ?_ ?_ ?_
 · exact hr4.keep (by simp only [Hp.next_set];omega) fun q hq=>by rw [Hp.get_set,if_neg (by omega)]
 · simp only [Hp.next_set];omega
 · intro q h1 h2
   rw [Hp.get_set,if_neg (by omega),o4 _ (by omega) h2]
   exact o2' q h1 h2
set_option maxRecDepth 100000 in
theorem tail_trap {lG:List En} (hG:GenL lG) {k:Nat} {f:Int} {deep lo:Nat} {H H2:Hp} {r:Nat} {L1:List Int} {c q m:Int} {E2:Env} (hst:deep ≤ 2 → StmtSpec lG k f (deep + 1)) (hat:AtT f deep lo H H2 r L1 c q m E2) (hn0:¬ q < 6) (hn1:¬ q < 8) (hn2:¬ q < 10) (hn3:¬ q < 12) (hn4:¬ q < 14) (hn5:¬ q < 15)  : Wp Try.prog (cfgN pls lG) 65 156 tail51 E2 H2 (TailW k f deep lo H r L1 c q m):=by
 obtain ⟨hd,hrl,hlo,n2,g2,o2',hr2,hL1,hm,hqd,k0,k1,k2,k6,k8,k9,k10⟩:=hat
 have hkeep:(cfgN pls lG).keep 65=false:=rfl
 have hq2:(2:Int) ≠ 0:=by decide
 have hlen0:((nmsG f).length:Int) ≠ 0:=by rcases nmsG_len f with h|h <;> rw [h] <;> decide
 obtain ⟨hi0,hix⟩:=getD_tmod (nmsG f) hlen0 hm.1 []
 have hxs:=ixS2 hm.1
 have hxa:=arr_at hm.1
 have hxf:=fg_at hm.1
 have er:(H.next == r)=false:=ne_beq (by omega)
 have e41:=exprG_len f 4 1 L1
 have e50:=exprG_len f 5 0 L1
 have e32:=exprG_len f 3 2 L1
 have hwd:IntKind.wrap .i64 ((deep:Int) + 1)=((deep + 1:Nat):Int):=wrap_succ (by omega)
 unfold TailW
 generalize hR:stmtT (subG f k deep) f L1 c q m=R
 rw [stmtT] at hR
 dsimp only [tail51,scR,code65]
 repeat' (first
    | (apply Rx.nl ?_;clear hK K)|apply Ry.o ?_|apply Ry.on ?_|(apply Ry.cd (fun hb hbp=>?_) (fun hb hbp=>?_) <;> try (cases hb;done))|apply Wp.seq ?_|(apply Wp.ops' fun K hK=>?_)|apply Wp.block ?_|apply Rx.sk ?_|apply Rx.rt ?_)

 refine ⟨eI,_,(by (try simp only [sB,sO,Nat.reduceBEq,Nat.reduceAdd,Nat.reduceLeDiff,tyF,resultsA,resultA,ag17, *]);first|done|with_reducible rfl),?_⟩;try simp only [oneOr]
 rw [if_neg (by omega),if_neg (by omega),if_neg (by omega),if_neg (by omega),if_neg (by omega),if_neg (by omega)] at hR
 subst hR
 refine made17 rfl rfl (st_node (n:=8 + k) 7 [] [] _ zC_w zC_w .nilS .nilS .nilS) ?_ ?_ ?_
 · exact hr2.keep (by simp only [Hp.next_set];omega) fun q hq=>by rw [Hp.get_set,if_neg (by omega)]
 · simp only [Hp.next_set];omega
 · intro q h1 h2
   rw [Hp.get_set,if_neg (by omega)]
   exact o2' q h1 h2
end Go.Proofs.Ytackdnelcpbfjaa
namespace Go.Proofs.Ytackdnelcpbfjaa
set_option maxRecDepth 20000
set_option maxRecDepth 20000
open Go Go.Ab
namespace tyG5b
def tyF:=And.intro @tq3 (And.intro @tq9 (And.intro @tq26 (And.intro @tq35 (And.intro @tq36 (And.intro @tq37 (And.intro @tq39 (And.intro @tq46 (And.intro @tq80 (And.intro @bin_rem (And.intro @kb7 (And.intro @ag17 (And.intro @nms2 (And.intro @kb3 (And.intro @zS17 (@kb6)))))))))))))))
end tyG5b
open tyG5b
set_option maxRecDepth 100000 in
theorem tail_if {lG:List En} (hG:GenL lG) {k:Nat} {f:Int} {deep lo:Nat} {H H2:Hp} {r:Nat} {L1:List Int} {c q m:Int} {E2:Env} (hst:deep ≤ 2 → StmtSpec lG k f (deep + 1)) (hat:AtT f deep lo H H2 r L1 c q m E2) (hn0:¬ q < 6) (hn1:¬ q < 8) (hp0:q < 10):Wp Try.prog (cfgN pls lG) 65 156 tail51 E2 H2 (TailW k f deep lo H r L1 c q m):=by
 obtain ⟨hd,hrl,hlo,n2,g2,o2',hr2,hL1,hm,hqd,k0,k1,k2,k6,k8,k9,k10⟩:=hat
 have hkeep:(cfgN pls lG).keep 65=false:=rfl
 have hq2:(2:Int) ≠ 0:=by decide
 have hlen0:((nmsG f).length:Int) ≠ 0:=by rcases nmsG_len f with h|h <;> rw [h] <;> decide
 obtain ⟨hi0,hix⟩:=getD_tmod (nmsG f) hlen0 hm.1 []
 have hxs:=ixS2 hm.1
 have hxa:=arr_at hm.1
 have hxf:=fg_at hm.1
 have er:(H.next == r)=false:=ne_beq (by omega)
 have e41:=exprG_len f 4 1 L1
 have e50:=exprG_len f 5 0 L1
 have e32:=exprG_len f 3 2 L1
 have hwd:IntKind.wrap .i64 ((deep:Int) + 1)=((deep + 1:Nat):Int):=wrap_succ (by omega)
 unfold TailW
 generalize hR:stmtT (subG f k deep) f L1 c q m=R
 rw [stmtT] at hR
 dsimp only [tail51,scR,code65]
 repeat' (first
    | (apply Rx.nl ?_;clear hK K)|apply Ry.o ?_|(apply Ry.cd (fun hb hbp=>?_) (fun hb hbp=>?_) <;> try (cases hb;done))|apply Wp.seq ?_|(apply Wp.ops' fun K hK=>?_)|apply Wp.block ?_|apply Rx.rt ?_)

 refine WpL.call rfl eVk eAk ?_;simp only [List.cons_append,List.nil_append,List.append_nil]
 refine WpCall.mono ?_ (exprG_wp hG 4 f 1 (by omega) (by omega) lo _ r L1 c hr2 (by omega))
 rintro v H4 ⟨⟨cs,rfl,hc1,hc2,hc3⟩,hr4,n4,o4⟩
 obtain ⟨v0,v1,v2,v3,v4,rfl⟩:=len5 hc1
 obtain ⟨w0,w1,w2,w3,w4⟩:=all5 hc2
 dsimp only [setO]
 repeat' (first
    | (apply Rx.nl ?_;clear hK K)|apply Rx.o ?_|apply Rx.on ?_|apply Wp.seq ?_|(apply Wp.ops' fun K hK=>?_)|apply Wp.block ?_|apply Rx.rt ?_)
 generalize hHa:Hp.set (Hp.alloc H4 _) H4.next _=Ha
 have na:Ha.next=H4.next + 1:=by rw [← hHa];rfl
 have oa:∀ q,q < H4.next → Ha.get q=H4.get q:=fun q hq=>by rw [← hHa,Hp.get_set,if_neg (by omega),Hp.get_alloc,if_neg (by omega)]
 have ga:Ha.get H4.next=some (.cells [.int .i64 3,.str [],.str [],.int .i64 0,.int .i64 0,.int .i64 0,.str [],.int .i64 0,.nilS,v0,v1,v2,v3,v4,.nilS,.nilS,.nilS] 0 true):=by rw [← hHa,Hp.get_set,if_pos rfl]
 clear hHa
 refine WpL.call rfl eVk eAk ?_;simp only [List.cons_append,List.nil_append,List.append_nil]
 refine WpCall.mono ?_ (stmts_wp hG (hst (by omega)) 3 (by omega) (by omega) lo Ha r ((exprG f 4 1 L1).2,c) (hr4.keep (by omega) fun q hq=>oa q (by omega)) (by simp only [];omega))
 rintro tv H5 ⟨hrow5,hr5,n5,o5⟩
 have hl5:(stmtsG f k (deep + 1) 3 ((exprG f 4 1 L1).2,c)).2.1.length ≤ (exprG f 4 1 L1).2.length:=Nat.le_trans (stsG_len (stmtG_len f k (deep + 1)) _ _) (nextG_len _)
 obtain ⟨t1,t2⟩:=hrow5.one
 have g5:H5.get H4.next=some (.cells [.int .i64 3,.str [],.str [],.int .i64 0,.int .i64 0,.int .i64 0,.str [],.int .i64 0,.nilS,v0,v1,v2,v3,v4,.nilS,.nilS,.nilS] 0 true):=by rw [o5 _ (by omega) (by omega)];exact ga
 dsimp only [setO]
 repeat' (first
    | (apply Rx.nl ?_;clear hK K)|apply Rx.o ?_|apply Rx.on ?_|apply Wp.seq ?_|(apply Wp.ops' fun K hK=>?_)|apply Wp.block ?_|apply Rx.rt ?_)
 generalize hHb:Hp.set H5 H4.next _=Hb
 have nb:Hb.next=H5.next:=by rw [← hHb];rfl
 have ob:∀ q,q ≠ H4.next → Hb.get q=H5.get q:=fun q hq=>by rw [← hHb,Hp.get_set,if_neg hq]
 have gb:Hb.get H4.next=some (.cells [.int .i64 3,.str [],.str [],.int .i64 0,.int .i64 0,.int .i64 0,.str [],.int .i64 0,.nilS,v0,v1,v2,v3,v4,.nilS,tv,.nilS] 0 true):=by rw [← hHb,Hp.get_set,if_pos rfl]
 clear hHb
 refine WpL.call rfl eVk eAk ?_;simp only [List.cons_append,List.nil_append,List.append_nil]
 refine WpCall.mono ?_ (stmts_wp hG (hst (by omega)) 2 (by omega) (by omega) lo Hb r (stmtsG f k (deep + 1) 3 ((exprG f 4 1 L1).2,c)).2 (hr5.keep (by omega) fun q hq=>ob q (by omega)) (by omega))
 rintro uv H6 ⟨hrow6,hr6,n6,o6⟩
 obtain ⟨p1,p2⟩:=hrow6.one
 have g6t:H6.get H4.next=some (.cells [.int .i64 3,.str [],.str [],.int .i64 0,.int .i64 0,.int .i64 0,.str [],.int .i64 0,.nilS,v0,v1,v2,v3,v4,.nilS,tv,.nilS] 0 true):=by rw [o6 _ (by omega) (by omega)];exact gb
 have g6:H6.get H.next=some (.cells [.int .i64 0,.str [],.str [],.int .i64 0,.int .i64 0,.int .i64 0,.str [],.int .i64 0,.nilS,.int .i64 0,.int .i64 0,.str [],.int .i64 0,.nilS,.nilS,.nilS,.nilS] 0 true):=by rw [o6 _ (by omega) (by omega),ob _ (by omega),o5 _ (by omega) (by omega),oa _ (by omega),o4 _ (by omega) (by omega)];exact g2
 have e46:(H.next == H4.next)=false:=ne_beq (by omega)
 have e64:(H4.next == H.next)=false:=ne_beq (by omega)
 dsimp only [setO]
 repeat' (first
    | (apply Rx.nl ?_;clear hK K)|apply Rx.o ?_|apply Rx.on ?_|apply Wp.seq ?_|(apply Wp.ops' fun K hK=>?_)|apply Wp.block ?_|apply Rx.rt ?_)
 refine ⟨eI,_,(by (try simp only [sB,sO,Nat.reduceBEq,Nat.reduceAdd,Nat.reduceLeDiff,tyF,resultsA,resultA,ag17, *]);first|done|with_reducible rfl),?_⟩;try simp only [oneOr]
 rw [if_neg (by omega),if_neg (by omega),if_pos (by omega)] at hR
 subst hR
 have hk6:∀ q,Hb.next ≤ q → q < H6.next → ((H6.set H4.next (.cells [.int .i64 3,.str [],.str [],.int .i64 0,.int .i64 0,.int .i64 0,.str [],.int .i64 0,.nilS,v0,v1,v2,v3,v4,.nilS,tv,uv] 0 true)).set H.next (.cells [.int .i64 3,.str [],.str [],.int .i64 0,.int .i64 0,.int .i64 0,.str [],.int .i64 0,.nilS,v0,v1,v2,v3,v4,.nilS,tv,uv] 0 true)).get q=H6.get q:=fun q h1 h2=>by rw [Hp.get_set,if_neg (by omega),Hp.get_set,if_neg (by omega)]
 have hk5:∀ q,Ha.next ≤ q → q < H5.next → ((H6.set H4.next (.cells [.int .i64 3,.str [],.str [],.int .i64 0,.int .i64 0,.int .i64 0,.str [],.int .i64 0,.nilS,v0,v1,v2,v3,v4,.nilS,tv,uv] 0 true)).set H.next (.cells [.int .i64 3,.str [],.str [],.int .i64 0,.int .i64 0,.int .i64 0,.str [],.int .i64 0,.nilS,v0,v1,v2,v3,v4,.nilS,tv,uv] 0 true)).get q=H5.get q:=fun q h1 h2=>by rw [Hp.get_set,if_neg (by omega),Hp.get_set,if_neg (by omega),o6 _ (by omega) (by omega),ob _ (by omega)]
 refine made17 rfl (by simp only [List.all_cons,List.all_nil,w0,w1,w2,w3,w4,t1,p1,Bool.and_true];rfl) (st_node (n:=8 + k) 3 [] [] 0 zC_w ((hc3.up (by omega)).keep2 (fun q _ hq=>by omega) (by simp only [Hp.next_set];omega) fun q h1 h2=>by rw [Hp.get_set,if_neg (by omega),Hp.get_set,if_neg (by omega),o6 _ (by omega) (by omega),ob _ (by omega),o5 _ (by omega) (by omega),oa _ (by omega)]) .nilS (hrow5.keep (fun q _ hq=>by omega) (by simp only [Hp.next_set];omega) fun q h1 h2=>hk5 q h1 h2).rd (hrow6.keep (fun q _ hq=>by omega) (by simp only [Hp.next_set];omega) fun q h1 h2=>hk6 q h1 h2).rd) ?_ ?_ ?_
 · exact hr6.keep (by simp only [Hp.next_set];omega) fun q hq=>by rw [Hp.get_set,if_neg (by omega),Hp.get_set,if_neg (by omega)]
 · simp only [Hp.next_set];omega
 · intro q h1 h2
   rw [Hp.get_set,if_neg (by omega),Hp.get_set,if_neg (by omega),o6 _ (by omega) h2,ob _ (by omega),o5 _ (by omega) h2,oa _ (by omega),o4 _ (by omega) h2]
   exact o2' q h1 h2
set_option maxRecDepth 100000 in
theorem tail_while {lG:List En} (hG:GenL lG) {k:Nat} {f:Int} {deep lo:Nat} {H H2:Hp} {r:Nat} {L1:List Int} {c q m:Int} {E2:Env} (hst:deep ≤ 2 → StmtSpec lG k f (deep + 1)) (hat:AtT f deep lo H H2 r L1 c q m E2) (hn0:¬ q < 6) (hn1:¬ q < 8) (hn2:¬ q < 10) (hp0:q < 12):Wp Try.prog (cfgN pls lG) 65 156 tail51 E2 H2 (TailW k f deep lo H r L1 c q m):=by
 obtain ⟨hd,hrl,hlo,n2,g2,o2',hr2,hL1,hm,hqd,k0,k1,k2,k6,k8,k9,k10⟩:=hat
 have hkeep:(cfgN pls lG).keep 65=false:=rfl
 have hq2:(2:Int) ≠ 0:=by decide
 have hlen0:((nmsG f).length:Int) ≠ 0:=by rcases nmsG_len f with h|h <;> rw [h] <;> decide
 obtain ⟨hi0,hix⟩:=getD_tmod (nmsG f) hlen0 hm.1 []
 have hxs:=ixS2 hm.1
 have hxa:=arr_at hm.1
 have hxf:=fg_at hm.1
 have er:(H.next == r)=false:=ne_beq (by omega)
 have e41:=exprG_len f 4 1 L1
 have e50:=exprG_len f 5 0 L1
 have e32:=exprG_len f 3 2 L1
 have hwd:IntKind.wrap .i64 ((deep:Int) + 1)=((deep + 1:Nat):Int):=wrap_succ (by omega)
 unfold TailW
 generalize hR:stmtT (subG f k deep) f L1 c q m=R
 rw [stmtT] at hR
 dsimp only [tail51,scR,code65]
 repeat' (first
    | (apply Rx.nl ?_;clear hK K)|apply Ry.o ?_|(apply Ry.cd (fun hb hbp=>?_) (fun hb hbp=>?_) <;> try (cases hb;done))|apply Wp.seq ?_|(apply Wp.ops' fun K hK=>?_)|apply Wp.block ?_|apply Rx.rt ?_)

 obtain ⟨lv,hg,htick⟩:=hr2.tick
 have hcw:IntKind.wrap .i64 (c + 1)=w64 (c + 1):=rfl
 repeat' (first
    | (apply Rx.nl ?_;clear hK K)|apply Rx.o ?_|apply Rx.on ?_|apply Wp.seq ?_|(apply Wp.ops' fun K hK=>?_)|apply Wp.block ?_|apply Rx.rt ?_)
 generalize hHt:Hp.set _ r _=Ht
 have nt:Ht.next=H.next + 1:=by rw [← hHt];simpa using n2
 have ot:∀ q,q ≠ r → Ht.get q=_:=fun q hq=>by rw [← hHt,Hp.get_set,if_neg hq]
 have hrt:RdOk lo Ht r L1 (w64 (c + 1)):=by rw [← hHt];exact htick _
 have gt:Ht.get H.next=some (.cells [.int .i64 0,.str [],.str [],.int .i64 0,.int .i64 0,.int .i64 0,.str [],.int .i64 0,.nilS,.int .i64 0,.int .i64 0,.str [],.int .i64 0,.nilS,.nilS,.nilS,.nilS] 0 true):=by rw [ot _ (by omega)];exact g2
 clear hHt
 refine WpL.call rfl eVk eAk ?_;simp only [List.cons_append,List.nil_append,List.append_nil]
 refine WpCall.mono ?_ (exprG_wp hG 4 f 1 (by omega) (by omega) lo Ht r L1 _ hrt (by omega))
 rintro v H4 ⟨⟨cs,rfl,hc1,hc2,hc3⟩,hr4,n4,o4⟩
 obtain ⟨v0,v1,v2,v3,v4,rfl⟩:=len5 hc1
 obtain ⟨w0,w1,w2,w3,w4⟩:=all5 hc2
 dsimp only [setO]
 repeat' (first
    | (apply Rx.nl ?_;clear hK K)|apply Rx.o ?_|apply Rx.on ?_|apply Wp.seq ?_|(apply Wp.ops' fun K hK=>?_)|apply Wp.block ?_|apply Rx.rt ?_)
 generalize hHa:Hp.set (Hp.alloc H4 _) H4.next _=Ha
 have na:Ha.next=H4.next + 1:=by rw [← hHa];rfl
 have oa:∀ q,q < H4.next → Ha.get q=H4.get q:=fun q hq=>by rw [← hHa,Hp.get_set,if_neg (by omega),Hp.get_alloc,if_neg (by omega)]
 have ga:Ha.get H4.next=some (.cells [.int .i64 4,.str [],.str [],.int .i64 0,.int .i64 0,.int .i64 0,.str [],.int .i64 0,.nilS,v0,v1,v2,v3,v4,.nilS,.nilS,.nilS] 0 true):=by rw [← hHa,Hp.get_set,if_pos rfl]
 clear hHa
 refine WpL.call rfl eVk eAk ?_;simp only [List.cons_append,List.nil_append,List.append_nil]
 refine WpCall.mono ?_ (stmts_wp hG (hst (by omega)) 3 (by omega) (by omega) lo Ha r ((exprG f 4 1 L1).2,w64 (c + 1)) (hr4.keep (by omega) fun q hq=>oa q (by omega)) (by simp only [];omega))
 rintro tv H5 ⟨hrow5,hr5,n5,o5⟩
 obtain ⟨t1,t2⟩:=hrow5.one
 have g5:H5.get H4.next=some (.cells [.int .i64 4,.str [],.str [],.int .i64 0,.int .i64 0,.int .i64 0,.str [],.int .i64 0,.nilS,v0,v1,v2,v3,v4,.nilS,.nilS,.nilS] 0 true):=by rw [o5 _ (by omega) (by omega)];exact ga
 have g6:H5.get H.next=some (.cells [.int .i64 0,.str [],.str [],.int .i64 0,.int .i64 0,.int .i64 0,.str [],.int .i64 0,.nilS,.int .i64 0,.int .i64 0,.str [],.int .i64 0,.nilS,.nilS,.nilS,.nilS] 0 true):=by rw [o5 _ (by omega) (by omega),oa _ (by omega),o4 _ (by omega) (by omega)];exact gt
 have e46:(H.next == H4.next)=false:=ne_beq (by omega)
 have e64:(H4.next == H.next)=false:=ne_beq (by omega)
 dsimp only [setO]
 repeat' (first
    | (apply Rx.nl ?_;clear hK K)|apply Rx.o ?_|apply Rx.on ?_|apply Wp.seq ?_|(apply Wp.ops' fun K hK=>?_)|apply Wp.block ?_|apply Rx.rt ?_)
 refine ⟨eI,_,(by (try simp only [sB,sO,Nat.reduceBEq,Nat.reduceAdd,Nat.reduceLeDiff,tyF,resultsA,resultA,ag17, *]);first|done|with_reducible rfl),?_⟩;try simp only [oneOr]
 rw [if_neg (by omega),if_neg (by omega),if_neg (by omega),if_pos (by omega)] at hR
 subst hR
 have hk5:∀ q,Ha.next ≤ q → q < H5.next → ((H5.set H4.next (.cells [.int .i64 4,.str [],.str [],.int .i64 0,.int .i64 0,.int .i64 0,.str [],.int .i64 0,.nilS,v0,v1,v2,v3,v4,.nilS,tv,.nilS] 0 true)).set H.next (.cells [.int .i64 4,.str [],.str [],.int .i64 0,.int .i64 0,.int .i64 0,.str [],.int .i64 0,.nilS,v0,v1,v2,v3,v4,.nilS,tv,.nilS] 0 true)).get q=H5.get q:=fun q h1 h2=>by rw [Hp.get_set,if_neg (by omega),Hp.get_set,if_neg (by omega)]
 refine made17 rfl (by simp only [List.all_cons,List.all_nil,w0,w1,w2,w3,w4,t1,Bool.and_true];rfl) (st_node (n:=8 + k) 4 [] [] 0 zC_w ((hc3.up (by omega)).keep2 (fun q _ hq=>by omega) (by simp only [Hp.next_set];omega) fun q h1 h2=>by rw [Hp.get_set,if_neg (by omega),Hp.get_set,if_neg (by omega),o5 _ (by omega) (by omega),oa _ (by omega)]) .nilS (hrow5.keep (fun q _ hq=>by omega) (by simp only [Hp.next_set];omega) fun q h1 h2=>hk5 q h1 h2).rd .nilS) ?_ ?_ ?_
 · exact hr5.keep (by simp only [Hp.next_set];omega) fun q hq=>by rw [Hp.get_set,if_neg (by omega),Hp.get_set,if_neg (by omega)]
 · simp only [Hp.next_set];omega
 · intro q h1 h2
   rw [Hp.get_set,if_neg (by omega),Hp.get_set,if_neg (by omega),o5 _ (by omega) h2,oa _ (by omega),o4 _ (by omega) h2,ot _ h2]
   exact o2' q h1 h2
set_option maxRecDepth 100000 in
theorem tail_call {lG : List En} (hG : GenL lG) {k : Nat} {f : Int} {deep lo : Nat} {H H2 : Hp} {r : Nat} {L1 : List Int} {c q m : Int} {E2 : Env} (hst : deep ≤ 2 → StmtSpec lG k f (deep + 1)) (hat : AtT f deep lo H H2 r L1 c q m E2) (hn0 : ¬ q < 6) (hn1 : ¬ q < 8) (hn2 : ¬ q < 10) (hn3 : ¬ q < 12) (hn4 : ¬ q < 14) (hp0 : q < 15) : Wp Try.prog (cfgN pls lG) 65 156 tail51 E2 H2 (TailW k f deep lo H r L1 c q m) := by
  obtain ⟨hd,hrl,hlo,n2,g2,o2',hr2,hL1,hm,hqd,k0,k1,k2,k6,k8,k9,k10⟩:=hat
  have hkeep:(cfgN pls lG).keep 65=false:=rfl
  have hq2:(2:Int) ≠ 0:=by decide
  have hlen0:((nmsG f).length:Int) ≠ 0:=by rcases nmsG_len f with h|h <;> rw [h] <;> decide
  obtain ⟨hi0,hix⟩:=getD_tmod (nmsG f) hlen0 hm.1 []
  have hxs:=ixS2 hm.1
  have hxa:=arr_at hm.1
  have hxf:=fg_at hm.1
  have er:(H.next == r)=false:=ne_beq (by omega)
  have e41:=exprG_len f 4 1 L1
  have e50:=exprG_len f 5 0 L1
  have e32:=exprG_len f 3 2 L1
  have hwd:IntKind.wrap .i64 ((deep:Int) + 1)=((deep + 1:Nat):Int):=wrap_succ (by omega)
  unfold TailW
  generalize hR:stmtT (subG f k deep) f L1 c q m=R
  rw [stmtT] at hR
  dsimp only [tail51,scR,code65]
  repeat' (first
     | (apply Rx.nl ?_;clear hK K)|apply Ry.o ?_|apply Ry.on ?_|(apply Ry.cd (fun hb hbp=>?_) (fun hb hbp=>?_) <;> try (cases hb;done))|apply Wp.seq ?_|(apply Wp.ops' fun K hK=>?_)|(apply Rx.dT 8 [(3,9),(3,11),(6,9),(6,11)] fun K hK=>?_)|(apply Rx.dT 10 [(0,7),(0,10),(0,12),(4,7),(4,10),(4,12)] fun K hK=>?_)|(apply Rx.dT 24 [(3,14),(6,14),(7,14),(11,14),(13,14)] fun K hK=>?_)|(apply Rx.dT 28 [(1,4),(1,6),(5,6)] fun K hK=>?_)|(apply Rx.nq ?_;try intro _)|(apply Rx.nt ?_ ?_ <;> clear hK K)|apply WpT.step ?_|apply WpT.step0 rfl ?_|apply Wp.block ?_|apply Rx.sk ?_|apply Rx.rt ?_|apply Rx.xt ?_)

  repeat' (first
     | (apply Rx.nl ?_;clear hK K)|apply Rx.o ?_|apply Rx.on ?_|(apply Rx.cd (fun hb hbp=>?_) (fun hb hbp=>?_) <;> try (cases hb;done))|apply Wp.seq ?_|(apply Wp.ops' fun K hK=>?_)|(apply Rx.dT 8 [(3,9),(3,11),(6,9),(6,11)] fun K hK=>?_)|(apply Rx.dT 10 [(0,7),(0,10),(0,12),(4,7),(4,10),(4,12)] fun K hK=>?_)|(apply Rx.dT 24 [(3,14),(6,14),(7,14),(11,14),(13,14)] fun K hK=>?_)|(apply Rx.dT 28 [(1,4),(1,6),(5,6)] fun K hK=>?_)|(apply Rx.nq ?_;try intro _)|(apply Rx.nt ?_ ?_ <;> clear hK K)|apply WpT.step ?_|apply WpT.step0 rfl ?_|apply Wp.block ?_|apply Rx.sk ?_|apply Rx.rt ?_|apply Rx.xt ?_)
  · exact eK
  generalize hHa:Hp.set (Hp.alloc (Hp.alloc _ _) _) _ _=Ha
  have na:Ha.next=H.next + 3:=by rw [← hHa];simp only [Hp.next_set,Hp.next_alloc];omega
  have oa:∀ q,q < H.next → q ≠ r → Ha.get q=H.get q:=fun q h1 h2=>by
    rw [← hHa,Hp.get_set,if_neg (by omega),Hp.get_alloc,if_neg (by simp only [Hp.next_alloc];omega),Hp.get_alloc,if_neg (by omega)];exact o2' q h1 h2
  have gz:Ha.get H.next=some (.cells [.int .i64 0,.str [],.str [],.int .i64 0,.int .i64 0,.int .i64 0,.str [],.int .i64 0,.nilS,.int .i64 0,.int .i64 0,.str [],.int .i64 0,.nilS,.nilS,.nilS,.nilS] 0 true):=by
    rw [← hHa,Hp.get_set,if_neg (by omega),Hp.get_alloc,if_neg (by simp only [Hp.next_alloc];omega),Hp.get_alloc,if_neg (by omega)];exact g2
  have hra:RdOk lo Ha r L1 c:=by
    rw [← hHa]
    exact hr2.keep (by simp only [Hp.next_set,Hp.next_alloc];omega) fun q hq=>by rw [Hp.get_set,if_neg (by omega),Hp.get_alloc,if_neg (by simp only [Hp.next_alloc];omega),Hp.get_alloc,if_neg (by omega)]
  have ga:Ha.get (H.next + 2)=some (.cells [.int .i64 6,.str ((nmsG f).getD (m.tmod (nmsG f).length).toNat []),.str (fgG m),.int .i64 0,.int .i64 0,.int .i64 0,.str [],.int .i64 0,.nilS,.int .i64 0,.int .i64 0,.str [],.int .i64 0,.nilS,.nilS,.nilS,.nilS] 0 true):=by rw [← hHa,Hp.get_set,if_pos (by omega)]
  clear hHa
  have htm:0 ≤ m.tmod 2 ∧ m.tmod 2 < 2:=tm2 hm.1
  have hw2:IntKind.wrap .i64 (2 - m.tmod 2)=2 - m.tmod 2:=i64_id (by omega) (by omega)
  generalize hcnt:(2 - m.tmod 2).toNat=cnt at *
  have hcn:2 - m.tmod 2=(cnt:Int):=by omega
  rw [hcn] at hw2
  refine Wp.forI [0,1,6,9,13] [H.next] 14 cnt (fun j E H'=>∃ v es Lj,H'.get (H.next + 2)=some (.cells [.int .i64 6,.str ((nmsG f).getD (m.tmod (nmsG f).length).toNat []),.str (fgG m),.int .i64 0,.int .i64 0,.int .i64 0,.str [],.int .i64 0,.nilS,.int .i64 0,.int .i64 0,.str [],.int .i64 0,.nilS,v,.nilS,.nilS] 0 true) ∧ RowOwn (fun q=>H.next + 3 ≤ q) 4 H' 5 v (es.map Ex.cells) ∧ RdOk lo H' r Lj c ∧ (∀ q,q < H.next → q ≠ r → H'.get q=H.get q) ∧ es.length=j ∧ Lj.length ≤ L1.length ∧ argsG f cnt L1=(es ++ (argsG f (cnt - j) Lj).1,(argsG f (cnt - j) Lj).2)) eE ⟨.nilS,[],L1,ga,.inl ⟨rfl,rfl⟩,hra,oa,rfl,Nat.le_refl _,by simp⟩ ?_
  clear ga hra oa g2 hr2 o2'
  rintro j E3 H3 hj hcE hrH hnH hsI ⟨v,es,Lj,g3,hrow,hr3,o3,hel,hLj,hJ⟩
  (try simp only [forall_cons,forall_nil,and_true,sB,sO,Nat.reduceBEq,Nat.reduceAdd,Nat.reduceLeDiff,tyF,gz, *] at hcE)
  (try simp only [forall_cons,forall_nil,and_true,sB,sO,Nat.reduceBEq,Nat.reduceAdd,Nat.reduceLeDiff,tyF,gz, *] at hrH)
  (try simp only [Hp.next_alloc,Hp.next_set,H0_next,Nat.zero_add,Nat.reduceAdd] at hnH)
  have hB0:(H.next == H3.next)=false:=ne_beq (by omega)
  have hC0:(H3.next == H.next)=false:=ne_beq (by omega)
  have hle:H.next + 3 ≤ H3.next:=by omega
  have e02:(H.next == H.next + 2)=false:=ne_beq (by omega)
  have e20:(H.next + 2 == H.next)=false:=ne_beq (by omega)
  obtain ⟨v1,v2⟩:=hrow.one
  repeat' (first
     | (apply Rx.nl ?_;clear hK K)|apply Rx.o ?_|apply Rx.on ?_|(apply Rx.cd (fun hb hbp=>?_) (fun hb hbp=>?_) <;> try (cases hb;done))|apply Wp.seq ?_|(apply Wp.ops' fun K hK=>?_)|(apply Rx.dT 8 [(3,9),(3,11),(6,9),(6,11)] fun K hK=>?_)|(apply Rx.dT 10 [(0,7),(0,10),(0,12),(4,7),(4,10),(4,12)] fun K hK=>?_)|(apply Rx.dT 24 [(3,14),(6,14),(7,14),(11,14),(13,14)] fun K hK=>?_)|(apply Rx.dT 28 [(1,4),(1,6),(5,6)] fun K hK=>?_)|(apply Rx.nq ?_;try intro _)|(apply Rx.nt ?_ ?_ <;> clear hK K)|apply WpT.step ?_|apply WpT.step0 rfl ?_|apply Wp.block ?_|apply Rx.sk ?_|apply Rx.rt ?_|apply Rx.xt ?_)
  · have hlt : j < cnt := by omega
    refine WpL.call rfl eVk eAk ?_;simp only [List.cons_append,List.nil_append,List.append_nil]
    refine WpCall.mono ?_ (exprG_wp hG 3 f 2 (by omega) (by omega) lo H3 r Lj c hr3 (by omega))
    rintro v' H4 ⟨⟨cs,rfl,hc1,hc2,hc3⟩,hr4,n4,o4⟩
    have hl4:=exprG_len f 3 2 Lj
    have g4:H4.get (H.next + 2)=some (.cells [.int .i64 6,.str ((nmsG f).getD (m.tmod (nmsG f).length).toNat []),.str (fgG m),.int .i64 0,.int .i64 0,.int .i64 0,.str [],.int .i64 0,.nilS,.int .i64 0,.int .i64 0,.str [],.int .i64 0,.nilS,v,.nilS,.nilS] 0 true):=by rw [o4 _ (by omega) (by omega)];exact g3
    have g40:H4.get H.next=some (.cells [.int .i64 0,.str [],.str [],.int .i64 0,.int .i64 0,.int .i64 0,.str [],.int .i64 0,.nilS,.int .i64 0,.int .i64 0,.str [],.int .i64 0,.nilS,.nilS,.nilS,.nilS] 0 true):=by rw [o4 _ (by omega) (by omega)];exact hrH
    have kb:=fun H=>bsK1 H hc1 hc2
    have hvq:∀ q o m z',v=.sl q o m z' → H.next + 3 ≤ q ∧ q < H3.next:=fun q o m z' e=>by
      rcases hrow with ⟨rfl,_⟩|⟨q',imm,rows,rfl,e1,e2,_⟩
      · cases e
      · simp only [AV.sl.injEq] at e
        rw [← e.1];exact ⟨e1,e2⟩
    have ob:∀ q,q < H4.next → (H4.alloc (.cells cs 0 true)).get q=H4.get q:=fun q hq=>by rw [Hp.get_alloc,if_neg (by omega)]
    have hrow4:RowOwn (fun q=>H.next + 3 ≤ q) 4 (H4.alloc (.cells cs 0 true)) 5 v (es.map Ex.cells):=hrow.keep (fun q _ h=>h) (by simp only [Hp.next_alloc];omega) fun q h1 h2=>by rw [ob _ (by omega),o4 q h2 (by omega)]
    have gcs:(H4.alloc (.cells cs 0 true)).get H4.next=some (.cells cs 0 true):=by rw [Hp.get_alloc,if_pos rfl]
    have g4b:(H4.alloc (.cells cs 0 true)).get (H.next + 2)=some (.cells [.int .i64 6,.str ((nmsG f).getD (m.tmod (nmsG f).length).toNat []),.str (fgG m),.int .i64 0,.int .i64 0,.int .i64 0,.str [],.int .i64 0,.nilS,.int .i64 0,.int .i64 0,.str [],.int .i64 0,.nilS,v,.nilS,.nilS] 0 true):=by rw [ob _ (by omega)];exact g4
    obtain ⟨v5,H5,a5,s5,n5,f5,q5⟩:=RowOwn.push (P:=Try.prog) (t:=37) Try.underlying37 sz39 bt39 zr39 rfl (by kernel_rfl) hrow4 (by simp only [Hp.next_alloc];omega) (r:=H4.next) (imm:=0) (row:=cs) (w:=(exprG f 3 2 Lj).1.cells) gcs hc1 hc2 (hc3.keep2 (fun q h1 h2=>⟨by omega,fun o m z' e=>by have:=(hvq q o m z' e).2;omega⟩) (Nat.le_succ _) fun q h1 h2=>ob q h2) (by simp only [List.length_map,maxRoom];omega) (by simp only [List.length_map,maxRoom];omega)
    simp only [Hp.next_alloc] at n5 f5
    have o5:∀ q,q < H4.next → q < H.next + 3 → H5.get q=H4.get q:=fun q h1 h2=>by rw [f5 q (by omega) (fun o m z' e=>by have:=(hvq q o m z' e).1;omega),ob q h1]
    have g5:H5.get (H.next + 2)=some (.cells [.int .i64 6,.str ((nmsG f).getD (m.tmod (nmsG f).length).toNat []),.str (fgG m),.int .i64 0,.int .i64 0,.int .i64 0,.str [],.int .i64 0,.nilS,.int .i64 0,.int .i64 0,.str [],.int .i64 0,.nilS,v,.nilS,.nilS] 0 true):=by rw [o5 _ (by omega) (by omega)];exact g4
    have n5':H4.next + 2 ≤ H5.next:=by omega
    obtain ⟨p1,p2⟩:=s5.one
    clear f5 q5 hrow hrow4 hr3
    dsimp only [setO]
    repeat' (first
       | (apply Rx.nl ?_;clear hK K)|apply Rx.o ?_|apply Rx.on ?_|(apply Rx.cd (fun hb hbp=>?_) (fun hb hbp=>?_) <;> try (cases hb;done))|apply Wp.seq ?_|(apply Wp.ops' fun K hK=>?_)|(apply Rx.dT 8 [(3,9),(3,11),(6,9),(6,11)] fun K hK=>?_)|(apply Rx.dT 10 [(0,7),(0,10),(0,12),(4,7),(4,10),(4,12)] fun K hK=>?_)|(apply Rx.dT 24 [(3,14),(6,14),(7,14),(11,14),(13,14)] fun K hK=>?_)|(apply Rx.dT 28 [(1,4),(1,6),(5,6)] fun K hK=>?_)|(apply Rx.nq ?_;try intro _)|(apply Rx.nt ?_ ?_ <;> clear hK K)|apply WpT.step ?_|apply WpT.step0 rfl ?_|apply Wp.block ?_|apply Rx.sk ?_|apply Rx.rt ?_|apply Rx.xt ?_)
    · exact eK
    · have o6 : ∀ q, q ≠ H.next + 2 → (H5.set (H.next + 2) (.cells [.int .i64 6, .str ((nmsG f).getD (m.tmod (nmsG f).length).toNat []), .str (fgG m), .int .i64 0, .int .i64 0, .int .i64 0, .str [], .int .i64 0, .nilS, .int .i64 0, .int .i64 0, .str [], .int .i64 0, .nilS, v5, .nilS, .nilS] 0 true)).get q = H5.get q := fun q hq => by rw [Hp.get_set, if_neg hq]
      have g60:H5.get H.next=some (.cells [.int .i64 0,.str [],.str [],.int .i64 0,.int .i64 0,.int .i64 0,.str [],.int .i64 0,.nilS,.int .i64 0,.int .i64 0,.str [],.int .i64 0,.nilS,.nilS,.nilS,.nilS] 0 true):=by rw [o5 _ (by omega) (by omega)];exact g40
      refine ⟨by omega,(by simp only [forall_cons,forall_nil,and_true,sB,sO,Nat.reduceBEq,Nat.reduceAdd,Nat.reduceLeDiff,tyF,g60, *]),(by simp only [forall_cons,forall_nil,and_true,sB,sO,Nat.reduceBEq,Nat.reduceAdd,Nat.reduceLeDiff,tyF,g60, *]),eN,(by simp only [sB,Nat.reduceBEq, *];exact i64_succ (n:=cnt) (by omega) (by omega)),?_⟩
      refine ⟨v5,es ++ [(exprG f 3 2 Lj).1],(exprG f 3 2 Lj).2,by rw [Hp.get_set,if_pos rfl],by rw [List.map_append];exact s5.keep (fun q _ h=>h) (by simp only [Hp.next_set];omega) fun q h1 h2=>o6 q (by omega),hr4.keep (by simp only [Hp.next_set];omega) fun q hq=>by rw [o6 q (by omega),o5 q (by omega) (by omega)],fun q h1 h2=>by rw [o6 q (by omega),o5 q (by omega) (by omega),o4 q (by omega) h2,o3 q h1 h2],by simp [hel],by omega,?_⟩
      rw [hJ,show cnt - j=(cnt - (j + 1)) + 1 by omega,argsG]
      simp
  · have hje : j = cnt := by omega
    subst hje
    repeat' (first
       | (apply Rx.nl ?_;clear hK K)|apply Rx.o ?_|apply Rx.on ?_|(apply Rx.cd (fun hb hbp=>?_) (fun hb hbp=>?_) <;> try (cases hb;done))|apply Wp.seq ?_|(apply Wp.ops' fun K hK=>?_)|(apply Rx.dT 8 [(3,9),(3,11),(6,9),(6,11)] fun K hK=>?_)|(apply Rx.dT 10 [(0,7),(0,10),(0,12),(4,7),(4,10),(4,12)] fun K hK=>?_)|(apply Rx.dT 24 [(3,14),(6,14),(7,14),(11,14),(13,14)] fun K hK=>?_)|(apply Rx.dT 28 [(1,4),(1,6),(5,6)] fun K hK=>?_)|(apply Rx.nq ?_;try intro _)|(apply Rx.nt ?_ ?_ <;> clear hK K)|apply WpT.step ?_|apply WpT.step0 rfl ?_|apply Wp.block ?_|apply Rx.sk ?_|apply Rx.rt ?_|apply Rx.xt ?_)
    refine ⟨eI,_,(by (try simp only [sB,sO,Nat.reduceBEq,Nat.reduceAdd,Nat.reduceLeDiff,tyF,resultsA,resultA,ag17, *]);first|done|with_reducible rfl),?_⟩;try simp only [oneOr]
    rw [if_neg (by omega),if_neg (by omega),if_neg (by omega),if_neg (by omega),if_neg (by omega),if_pos (by omega),hJ,Nat.sub_self] at hR
    subst hR
    simp only [argsG,List.append_nil]
    refine made17 rfl (by simp only [List.all_cons,List.all_nil,v1,Bool.and_true];rfl) (st_node (n:=8 + k) 6 _ _ 0 zC_w zC_w ((hrow.keep (fun q _ hq=>by omega) (by simp only [Hp.next_set];omega) fun q h1 h2=>by rw [Hp.get_set,if_neg (by omega)]).rd.up (by omega)) .nilS .nilS) ?_ ?_ ?_
    · exact hr3.keep (by simp only [Hp.next_set];omega) fun q hq=>by rw [Hp.get_set,if_neg (by omega)]
    · simp only [Hp.next_set];omega
    · intro q h1 h2
      rw [Hp.get_set,if_neg (by omega)]
      exact o3 q h1 h2
end Go.Proofs.Ytackdnelcpbfjaa
namespace Go.Proofs.Ytackdnelcpbfjaa
set_option maxRecDepth 20000
set_option maxRecDepth 20000
open Go Go.Ab
namespace tyG5
def tyF:=And.intro @tq3 (And.intro @tq9 (And.intro @tq26 (And.intro @tq35 (And.intro @tq36 (And.intro @tq37 (And.intro @tq39 (And.intro @tq46 (And.intro @tq80 (And.intro @zS17 (@bin_quo))))))))))
end tyG5
open tyG5
set_option maxRecDepth 100000 in
theorem stmtG_step {lG : List En} (hG : GenL lG) {k : Nat} {f : Int} {deep : Nat} (hd : deep ≤ 3) (hst : deep ≤ 2 → StmtSpec lG k f (deep + 1)) : StmtSpec lG (k + 1) f deep := by
  intro lo H r s hrd hL
  have hw:Plain (cfgN pls lG) 65:=hG.plain (by rfl)
  have hnx:Plain (cfgN pls lG) 31:=hG.plain (by rfl)
  have hkeep:(cfgN pls lG).keep 65=false:=rfl
  have hrl:=hrd.1
  have hlo:=hrd.2.1
  have hq16:(16:Int) ≠ 0:=by decide
  have hq2:(2:Int) ≠ 0:=by decide
  have hlen0:((nmsG f).length:Int) ≠ 0:=by rcases nmsG_len f with h|h <;> rw [h] <;> decide
  rw [stmtG,stmtB]
  refine WpCall.slim (M:=156) (rs:=[.cell 6 46]) (hw.call _) hw.ice hw.froz Try.func65 rfl rfl code65.2 rfl ?_;dsimp only [code65,envOf,Nat.reduceAdd]
  repeat' (first
     | (apply Rx.nl ?_;clear hK K)|apply Rx.o ?_|apply Rx.gu ?_|(apply Rx.gd (fun hg hgp=>?_) (fun hg hgp=>?_) <;> try (cases hg;done))|(apply Rx.cd (fun hb hbp=>?_) (fun hb hbp=>?_) <;> try (cases hb;done))|apply Wp.seq ?_|(apply Wp.ops' fun K hK=>?_)|apply Rx.sk ?_)
  refine WpL.call rfl eVk eAk ?_;simp only [List.cons_append,List.nil_append,List.append_nil]
  refine WpCall.mono ?_ (next_wp hnx (hrd.keep (Nat.le_succ _) fun q hq=>by rw [Hp.get_alloc,if_neg (by omega)]) hL)
  rintro v H2 ⟨rfl,hr2,n2,o2⟩
  simp only [Hp.next_alloc] at n2
  have g2:H2.get H.next=some (.cells [.int .i64 0,.str [],.str [],.int .i64 0,.int .i64 0,.int .i64 0,.str [],.int .i64 0,.nilS,.int .i64 0,.int .i64 0,.str [],.int .i64 0,.nilS,.nilS,.nilS,.nilS] 0 true):=by rw [o2 _ (by omega),Hp.get_alloc,if_pos rfl]
  have o2':∀ q,q < H.next → q ≠ r → H2.get q=H.get q:=fun q h1 h2=>by rw [o2 q h2,Hp.get_alloc,if_neg (by omega)]
  have hL1:=nextG_len s.1
  generalize (nextG s.1).1=n at *
  generalize (nextG s.1).2=L1 at *
  obtain ⟨sL,c⟩:=s
  simp only [] at *
  have hq:=pickG_range (n:=n) (m:=16) (by omega) (by omega)
  have hm:=pickG_range (n:=w64 (n.tdiv 16)) (m:=1000) (by omega) (by omega)
  obtain ⟨hi0,hix⟩:=getD_tmod (nmsG f) hlen0 hm.1 []
  have hxs:=ixS2 hm.1
  have hxa:=arr_at hm.1
  have hxf:=fg_at hm.1
  clear o2
  dsimp only [setO]
  repeat' (first
     | (apply Rx.nl ?_;clear hK K)|apply Rx.o ?_|(apply Rx.call ?_;first|refine Rx.k (names_en hG.nms _ _) ?_|refine Rx.k (pick_en hG.pick _ 1000 (by decide) _) ?_)|apply Rx.gu ?_|(apply Rx.gd (fun hg hgp=>?_) (fun hg hgp=>?_) <;> try (cases hg;done))|(apply Rx.cd (fun hb hbp=>?_) (fun hb hbp=>?_) <;> try (cases hb;done))|apply Wp.seq ?_|(apply Wp.ops' fun K hK=>?_)|apply Rx.sk ?_)
  refine WpL.call rfl eVk eAk ?_;simp only [List.cons_append,List.nil_append,List.append_nil]
  refine WpCall.mono ?_ (pick_en hG.pick n 16 (by decide) _)
  rintro _ _ ⟨rfl,rfl⟩
  dsimp only [setO]
  refine Rx.o ?_
  refine WpL.nil (hK _ _ ?_)
  clear hK K
  dsimp only [thenQ,blockQ]
  generalize pickG n 16=q0 at *
  generalize pickG (w64 (n.tdiv 16)) 1000=m at *
  obtain ⟨lv,hgr,hlen⟩:=hr2.len
  rename_i H2
  simp only [slimR,slimL,slimD,slimG,Nat.blt,Nat.ble,List.getElem?_cons_succ,List.getElem?_cons_zero,Option.bind_some]
  refine Wp.seq ?_
  refine Wp.seq ?_
  refine Wp.ops' fun K hK0=>?_
  have hK:∀ E2 H3,(E2.at 0=.ptr r 0 ∧ E2.at 1=.int .i64 f ∧ E2.at 2=.int .i64 deep ∧ E2.at 6=.ptr H.next 0 ∧ E2.at 8=lstS (nmsG f) ∧ E2.at 9=.int .i64 m ∧ E2.at 10=.int .i64 q0 ∧ (∃ b,E2.at 44=.bool b ∧ (b=true ↔ (((2:Int) < deep ∧ 8 ≤ q0 ∧ q0 < 12) ∨ (10 ≤ c ∧ 10 ≤ q0)))) ∧ H3=H2) → K E2 H3:=by
    rintro E2 H3 ⟨k0,k1,k2,k6,k8,k9,k10,⟨b,k44,hb⟩,rfl⟩
    apply hK0
    clear hK0 K
    dsimp only [thenQ,blockQ]
    have hqe:kindG deep c q0=if ((2:Int) < deep ∧ 8 ≤ q0 ∧ q0 < 12) ∨ (10 ≤ c ∧ 10 ≤ q0) then 0 else q0:=rfl
    generalize kindG deep c q0=q at *
    have hqr:0 ≤ q ∧ q < 16:=by rw [hqe];split <;> omega
    have hqd:8 ≤ q → q < 12 → deep ≤ 2:=by rw [hqe];split <;> omega
    refine Wp.join (fun E' H'=>E'.at 0=.ptr r 0 ∧ E'.at 1=.int .i64 f ∧ E'.at 2=.int .i64 deep ∧ E'.at 6=.ptr H.next 0 ∧ E'.at 8=lstS (nmsG f) ∧ E'.at 9=.int .i64 m ∧ E'.at 10=.int .i64 q ∧ H'=H3) ?_ ?_
    · cases b with
      | true =>
        rw [if_pos (hb.1 rfl)] at hqe
        repeat' (first
           | (apply Rx.nl ?_;clear hK K)|apply Rx.o ?_|apply Rx.gu ?_|(apply Rx.gd (fun hg hgp=>?_) (fun hg hgp=>?_) <;> try (cases hg;done))|(apply Rx.cd (fun hb hbp=>?_) (fun hb hbp=>?_) <;> try (cases hb;done))|apply Wp.seq ?_|(apply Wp.ops' fun K hK=>?_)|apply Rx.sk ?_)
        exact ⟨rfl,eE,eE,eE,eE,eE,eE,(by first|(simp only [sB,Nat.reduceBEq,hqe, *];done)|rfl),rfl⟩
      | false =>
        rw [if_neg (fun h=>by have:=hb.2 h;cases this)] at hqe
        repeat' (first
           | (apply Rx.nl ?_;clear hK K)|apply Rx.o ?_|apply Rx.gu ?_|(apply Rx.gd (fun hg hgp=>?_) (fun hg hgp=>?_) <;> try (cases hg;done))|(apply Rx.cd (fun hb hbp=>?_) (fun hb hbp=>?_) <;> try (cases hb;done))|apply Wp.seq ?_|(apply Wp.ops' fun K hK=>?_)|apply Rx.sk ?_)
        exact ⟨rfl,eE,eE,eE,eE,eE,eE,(by first|(simp only [sB,Nat.reduceBEq,hqe, *];done)|rfl),rfl⟩
    clear k0 k1 k2 k6 k8 k9 k10 k44 hb hqe hq
    rintro E3 H' ⟨k0,k1,k2,k6,k8,k9,k10,rfl⟩
    have hat:AtT f deep lo H H' r L1 c q m E3:=⟨hd,hrl,hlo,n2,g2,o2',hr2,by omega,hm,hqd,k0,k1,k2,k6,k8,k9,k10⟩
    by_cases c1:q < 6
    · exact tail_assign hG hst hat c1
    by_cases c2:q < 8
    · exact tail_store hG hst hat c1 c2
    by_cases c3:q < 10
    · exact tail_if hG hst hat c1 c2 c3
    by_cases c4:q < 12
    · exact tail_while hG hst hat c1 c2 c3 c4
    by_cases c5:q < 14
    · exact tail_out hG hst hat c1 c2 c3 c4 c5
    by_cases c6:q < 15
    · exact tail_call hG hst hat c1 c2 c3 c4 c5 c6
    exact tail_trap hG hst hat c1 c2 c3 c4 c5 c6
  clear hK0
  repeat' (first
     | (apply Rx.nl ?_;clear hK K)|apply Rx.o ?_|apply Rx.gu ?_|(apply Rx.gd (fun hg hgp=>?_) (fun hg hgp=>?_) <;> try (cases hg;done))|apply Wp.seq ?_|(apply Wp.ops' fun K hK=>?_)|apply Rx.sk ?_)
  all_goals
    refine ⟨eE,eE,eE,eE,eE,eE,eE,⟨_,eE,?_⟩,rfl⟩
    first
    | exact ⟨fun _=>by omega,fun _=>rfl⟩
    | exact ⟨fun h=>(by cases h),fun h=>(by omega:False).elim⟩
    | exact ⟨fun h=>by (have h:=of_decide_eq_true h;omega),fun h=>decide_eq_true (by omega)⟩
theorem stmt_all {lG:List En} (hG:GenL lG) (f:Int):∀ (k deep:Nat),4 ≤ deep + k → deep ≤ 3 → StmtSpec lG k f deep
 | 0,deep,h1,h2=>by omega
 | k + 1,deep,h1,h2=>stmtG_step hG h2 fun h=>stmt_all hG f k (deep + 1) (by omega) (by omega)
end Go.Proofs.Ytackdnelcpbfjaa
namespace Go.Proofs.Ytackdnelcpbfjaa
set_option maxRecDepth 20000
open Go Go.Ab
theorem src_rows {z:Nat} {H:Hp} {rows:List (List AV)} (h:∀ r ∈ rows,r.length=z):srcCells H z (.lst rows)=some (rows.length,rows.flatten):=by
 simp only [srcCells]
 rw [if_pos (by rw [List.all_eq_true];intro r hr;simp [h r hr])]
theorem Ex.wk:∀ (m:Nat) (x:Ex),x.cells.map (wkN m)=x.cells
 | 0,x=>by rw [show wkN 0=id from rfl,List.map_id]
 | m + 1, x => by
   rw [Ex.cells_eq]
   simp only [List.map_cons,List.map_nil,wkN,List.map_map]
   have:(fun row=>List.map (wkN m) row) ∘ Ex.cells=Ex.cells:=funext fun y=>Ex.wk m y
   rw [this]
theorem wk_exs (l:List Ex) (m:Nat):wkN m (.lst (l.map Ex.cells))=.lst (l.map Ex.cells):=by
 cases m with
 | zero=>rfl
 | succ m =>
   simp only [wkN,List.map_map]
   have:(fun row=>List.map (wkN m) row) ∘ Ex.cells=Ex.cells:=funext fun y=>Ex.wk m y
   rw [this]
theorem St.wk:∀ (m:Nat) (x:St),x.cells.map (wkN m)=x.cells
 | 0,x=>by rw [show wkN 0=id from rfl,List.map_id]
 | m + 1, x => by
   rw [St.cells_eq]
   simp only [List.map_cons,List.map_nil,wkN,List.map_map]
   have h1:(fun row=>List.map (wkN m) row) ∘ Ex.cells=Ex.cells:=funext fun y=>Ex.wk m y
   have h2:(fun row=>List.map (wkN m) row) ∘ St.cells=St.cells:=funext fun y=>St.wk m y
   rw [h1,h2]
theorem wk_sts (l:List St) (m:Nat):wkN m (.lst (l.map St.cells))=.lst (l.map St.cells):=by
 cases m with
 | zero=>rfl
 | succ m =>
   simp only [wkN,List.map_map]
   have:(fun row=>List.map (wkN m) row) ∘ St.cells=St.cells:=funext fun y=>St.wk m y
   rw [this]
theorem RdW.exs {S:Nat → Prop} {n:Nat} {H:Hp} (l:List Ex):RdW S (n + 1) H (.lst (l.map Ex.cells)) (.lst (l.map Ex.cells)):=.flat ⟨exs_pure l,trivial⟩ (wk_exs l)
theorem RdW.sts {S:Nat → Prop} {n:Nat} {H:Hp} (l:List St):RdW S (n + 1) H (.lst (l.map St.cells)) (.lst (l.map St.cells)):=.flat ⟨sts_pure l,trivial⟩ (wk_sts l)
theorem CellsW.ex {S:Nat → Prop} {n:Nat} {H:Hp} (x:Ex):CellsW S (n + 1) H x.cells x.cells:=by
 rw [Ex.cells_eq]
 exact .cons (.int _ _) (.cons (.int _ _) (.cons (.str _) (.cons (.int _ _) (.cons (.exs _) .nil))))
theorem CellsW.st {S:Nat → Prop} {n:Nat} {H:Hp} (x:St):CellsW S (n + 1) H x.cells x.cells:=by
 rw [St.cells_eq]
 exact .cons (.int _ _) (.cons (.str _) (.cons (.str _) (.cons (.int _ _) (.cons (.int _ _) (.cons (.int _ _) (.cons (.str _) (.cons (.int _ _) (.cons (.exs _) (.cons (.int _ _) (.cons (.int _ _) (.cons (.str _) (.cons (.int _ _) (.cons (.exs _) (.cons (.exs _) (.cons (.sts _) (.cons (.sts _) .nil))))))))))))))))
theorem wk_strs (l:List (List UInt8)) (m:Nat):wkN m (lstS l)=lstS l:=by
 cases m with
 | zero=>rfl
 | succ m =>
   show AV.lst ((l.map fun s=>[AV.str s]).map fun row=>row.map (wkN m))=_
   rw [List.map_map]
   congr 1
   exact List.map_congr_left fun s _=>by cases m <;> rfl
theorem wk_int (m:Nat) (k:IntKind) (n:Int):wkN m (.int k n)=.int k n:=by cases m <;> rfl
theorem wk_str (m:Nat) (s:List UInt8):wkN m (.str s)=.str s:=by cases m <;> rfl
theorem Fu.wk (m:Nat) (x:Fu):x.cells.map (wkN m)=x.cells:=by
 rw [Fu.cells_eq]
 simp only [List.map_cons,List.map_nil,wk_str,wk_int,wk_strs,wk_sts,wk_exs]
theorem Ar.wk (m:Nat) (x:Ar):x.cells.map (wkN m)=x.cells:=by
 rw [Ar.cells_eq]
 simp only [List.map_cons,List.map_nil,wk_str,wk_int]
theorem wk_rows {α:Type} {f:α → List AV} (h:∀ m x,(f x).map (wkN m)=f x) (l:List α) (m:Nat):wkN m (.lst (l.map f))=.lst (l.map f):=by
 cases m with
 | zero=>rfl
 | succ m =>
   simp only [wkN,List.map_map]
   have:(fun row=>List.map (wkN m) row) ∘ f=f:=funext fun y=>h m y
   rw [this]
theorem CellsW.pr {S:Nat → Prop} {n:Nat} {H:Hp} (x:Pr):CellsW S (n + 1) H x.cells x.cells:=
 .cons (.flat ⟨.map fun x _=>x.pure,trivial⟩ (wk_rows Ar.wk _)) (.cons (.flat ⟨.map fun x _=>x.pure,trivial⟩ (wk_rows Fu.wk _)) .nil)
theorem con_of_wk2 {cfg:Cfg} (fit:Fit Try.prog) {ρ:Nat → Int} (hD:DecOk cfg.dec ρ) (hc:∀ f args r,cfg.call f args=some r → Con Try.prog ρ f args r) {g:FuncId} {args:List AV} {r:AV} {n:Nat}
   (hp:PureL args) (h:WpCall Try.prog cfg g args H0 fun v H'=>∃ m u,iceV H' m v=some u ∧ wkN n u=r):Con Try.prog ρ g args r:=by
 unfold WpCall at h
 obtain ⟨v,H',h1,m,u,h2,h3⟩:=h
 refine Con.wk' n (Con.of_made (m:=m) fit hD hc hp ?_) h3
 unfold WpCall
 exact ⟨v,H',h1,h2⟩
end Go.Proofs.Ytackdnelcpbfjaa
namespace Go.Proofs.Ytackdnelcpbfjaa
set_option maxRecDepth 20000
open Go Go.Ab
theorem RowOwn.pushS {P : Program} {t e : TypeId} {z b : Nat} {zz : List AV} (ht : P.underlying t = some (.slice e)) (hs : sizeA P e = some z) (hb : bytesA P e = some b) (hz : zeroA P e = some zz) (hzz : zz.length = z) (hsrc : srcType P t = true)
    {S S':Nat → Prop} {n:Nat} {H:Hp} {v:AV} {ws:List (List AV)} (h:RowOwn S n H z v ws) (hSS:∀ k,k < H.next → S k → S' k) (hN:S' H.next) {r imm:Nat} {row:List AV} (hg:H.get r=some (.cells row imm true)) (hrow:row.length=z) (hone:row.all AV.one=true)
    (hb1:(ws.length + 1) * b ≤ maxRoom) (hb2:ws.length + 1 ≤ maxRoom) :
    ∃ H' rows imm', appendA P false H t t v (.sl r 0 1 z) = some (.sl H.next 0 (ws.length + 1) z, H') ∧ rows.length = ws.length ∧ (∀ x ∈ rows, x.length = z) ∧ H'.get H.next = some (.cells (rows.flatten ++ row) imm' true) ∧ imm' ≤ rows.flatten.length ∧ H'.next = H.next + 1 ∧ (∀ k, k < H.next → (∀ o m z', v ≠ .sl k o m z') → H'.get k = H.get k) ∧
      RowsW (fun k=>S' k ∧ k ≠ H.next) n H' z rows ws:=by
  have hx:srcCells H z (.sl r 0 1 z)=some (1,row):=by
    have:=src_sl (H:=H) (r:=r) (o:=0) (n:=1) (z:=z) (s:=z) hg (by rw [List.drop_zero,List.length_take];omega)
    rw [this,List.drop_zero,List.take_of_length_le (by omega)]
  rcases h with ⟨rfl,rfl⟩|⟨q,imm',rows,rfl,h1,h2,h3,h4,h5⟩
  · exact ⟨H.alloc (.cells row 0 true),[],0,append_nil ht hs hb hz hsrc hx hone hzz (by simpa using hb1) (by simpa using hb2),rfl,by simp,by rw [Hp.get_alloc,if_pos rfl];simp,Nat.zero_le _,rfl,fun k hk _=>by rw [Hp.get_alloc,if_neg (by omega)],trivial⟩
  · have hrl := rows_len (RowsW.len h5)
    have hwl:rows.length=ws.length:=All2.len h5
    have htr:trimA false H z (.sl q 0 rows.length z)=H:=by
      unfold trimA
      simp only [h3,Nat.zero_add]
      have:Nat.blt (rows.length * z) rows.flatten.length=false:=by
        cases hb:Nat.blt (rows.length * z) rows.flatten.length with
        | false=>rfl
        | true=>rw [Nat.blt_eq] at hb;omega
      simp only [Bool.not_false,Bool.true_and,this,Bool.false_and]
    refine ⟨(H.kill q).alloc (.cells (rows.flatten ++ row) (imm' - 0) true),rows,imm' - 0,?_,hwl,RowsW.len h5,?_,by omega,rfl,fun k hk hno=>?_,?_⟩
    · simp only [appendA, ht, hs, hb, hz, hsrc, hx, hone, htr, hzz, and_self, if_true, appendOnto, h3, Nat.zero_add, List.drop_zero, Bool.false_eq_true, if_false]
      rw [if_pos ⟨by rw [hwl];exact hb1,by rw [hwl];exact hb2,by omega,trivial,h4⟩,hwl]
    · show ((H.kill q).alloc _).get (H.kill q).next = _
      rw [Hp.get_alloc,if_pos rfl]
    · rw [Hp.get_alloc,if_neg (by simp only [Hp.next_kill];omega),Hp.get_kill,if_neg (fun e=>hno 0 rows.length z (by rw [e]))]
    · exact h5.keep2 (fun k h6 h7=>⟨hSS k h6 h7.1,by omega⟩) (Nat.le_succ _) fun k h6 h7=>by rw [Hp.get_alloc,if_neg (by simp only [Hp.next_kill];omega),Hp.get_kill,if_neg h6.2]
theorem RowOwn.of {S:Nat → Prop} {n q z imm:Nat} {H:Hp} {rows ws:List (List AV)} {row w:List AV} (hS:S q) (hq:q < H.next) (hz:∀ x ∈ rows,x.length=z) (hrow:row.length=z) (hg:H.get q=some (.cells (rows.flatten ++ row) imm true)) (hi:imm ≤ rows.flatten.length) (hr:RowsW (fun k=>S k ∧ k ≠ q) n H z rows ws) (hw:CellsW (fun k=>S k ∧ k ≠ q) n H row w):RowOwn S n H z (.sl q 0 (ws.length + 1) z) (ws ++ [w]):=by
 have hl:rows.length=ws.length:=All2.len hr
 exact .inr ⟨q,imm,rows ++ [row],by rw [List.length_append,hl];rfl,hS,hq,by rw [hg];simp,by rw [List.flatten_append,List.length_append];omega,hr.append ⟨⟨hrow,hw⟩,trivial⟩⟩
theorem own_strs {S:Nat → Prop} {n:Nat} {H:Hp} {r:Nat} (l:List (List UInt8)) (hS:S r) (hr:r < H.next) (hg:H.get r=some (.cells (l.map .str) 0 true)):RowOwn S (n + 1) H 1 (.sl r 0 l.length 1) (l.map fun s=>[AV.str s]):=
 .inr ⟨r,0,l.map fun s=>[AV.str s],by rw [List.length_map],hS,hr,by rw [strs_flat];exact hg,Nat.zero_le _,RowsW.strs l⟩
structure FnL (pt:Nat → Nat) (b n:Nat) (H:Hp) (f:Fu) (p l bo:AV) (v:List AV):Prop where
 len:v.length=5
 one:v.all AV.one=true
 ps:RowOwn (fun q=>pt q=b) n H 1 p (f.params.map fun s=>[AV.str s])
 ls:RowOwn (fun q=>pt q=b + 1) n H 1 l (f.locals.map fun s=>[AV.str s])
 bo:RowOwn (fun q=>pt q=b + 2) n H 17 bo (f.body.map St.cells)
 vw:CellsW (fun q=>pt q=b + 3) n H v f.value.cells
def fnC (nm:List UInt8) (p l bo:AV) (v:List AV):List AV:=[.str nm,p,l,bo] ++ v
structure ProgL (pt:Nat → Nat) (n:Nat) (H:Hp) (ra rf:Nat) (x y:Int) (f g:Fu) (pf lf bf:AV) (vf:List AV) (pg lg bg:AV) (vg:List AV):Prop where
 ga:H.get ra=some (.cells [.str [97],.int .i64 x,.str [98],.int .i64 y] 0 true)
 gf:H.get rf=some (.cells (fnC f.name pf lf bf vf ++ fnC g.name pg lg bg vg) 0 true)
 ltA:ra < H.next
 ltF:rf < H.next
 lra:pt ra=1
 lrf:pt rf=2
 F:FnL pt 3 n H f pf lf bf vf
 G:FnL pt 7 n H g pg lg bg vg
def labP (M a b c q:Nat):Nat:=if q ≤ M then 0 else if q=M + 1 then 1 else if q=M + 7 then 2 else if q=M + 3 then 3 else if q=M + 4 then 4 else if q=M + 5 then 7 else if q=M + 6 then 8 else if q < a then 5 else if q < b then 6 else if q < c then 9 else 10
theorem labP5 {M a b c q:Nat} (h:M + 8 ≤ q) (h1:q < a):labP M a b c q=5:=by unfold labP;(repeat' split) <;> omega
theorem labP6 {M a b c q:Nat} (h:M + 8 ≤ q) (h1:a ≤ q) (h2:q < b):labP M a b c q=6:=by unfold labP;(repeat' split) <;> omega
theorem labP9 {M a b c q:Nat} (h:M + 8 ≤ q) (h0:a ≤ q) (h1:b ≤ q) (h2:q < c):labP M a b c q=9:=by unfold labP;(repeat' split) <;> omega
theorem labP10 {M a b c q:Nat} (h:M + 8 ≤ q) (h0:a ≤ q) (h1:b ≤ q) (h2:c ≤ q):labP M a b c q=10:=by unfold labP;(repeat' split) <;> omega
end Go.Proofs.Ytackdnelcpbfjaa
