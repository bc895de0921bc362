/- Parts: G6, L4a, Sem6, Rep6, Rep6c, L4b, GOk, GF, SglA, P4e. -/
import Derived.Test.YtackdnelcpbfjaaSRK
set_option linter.unusedSimpArgs false
set_option linter.unusedVariables false
set_option linter.unusedSectionVars false
set_option linter.defProp false
set_option maxHeartbeats 32000000
namespace Go.Proofs.Ytackdnelcpbfjaa
set_option maxRecDepth 20000
set_option maxRecDepth 20000
open Go Go.Ab
namespace tyG6
def tyF:=And.intro @tq2 (And.intro @tq3 (And.intro @tq9 (And.intro @tq22 (And.intro @tq23 (And.intro @tq25 (And.intro @tq26 (And.intro @tq35 (And.intro @tq36 (And.intro @tq37 (And.intro @tq39 (And.intro @tq41 (And.intro @tq44 (And.intro @tq46 (And.intro @tq80 (And.intro @bin_quo (And.intro @nms2 (And.intro @Nat.zero_mul (@Nat.one_mul))))))))))))))))))
end tyG6
open tyG6
noncomputable def code11:{ c:SC // slim 61 (Try.f11.body.getD .skip)=c }:=by
 refine ⟨?_,?_⟩
 rotate_left
 · simp only [Try.f11, Option.getD_some, slim, slimR, slimL, slimD, slimG, Nat.blt, Nat.ble]
   rfl
def StAll (lG:List En):Prop:=∀ (f:Int) (k deep:Nat),4 ≤ deep + k → deep ≤ 3 → StmtSpec lG k f deep
theorem stAll {lG:List En} (hG:GenL lG):StAll lG:=stmt_all hG
def genB1 (L:List Int):List St × Sd:=stmtsG 0 4 0 5 ((nextG L).2,0)
def genV1 (L:List Int):Ex × List Int:=exprG 0 4 1 (genB1 L).2.1
def genB2 (L:List Int):List St × Sd:=stmtsG 1 3 1 3 ((genV1 L).2,(genB1 L).2.2)
def genV2 (L:List Int):Ex × List Int:=exprG 1 4 1 (genB2 L).2.1
def genF (L:List Int):Fu:=⟨[102],[[120],[121]],[[105],[106]],(genB1 L).1,(genV1 L).1⟩
def genGf (L:List Int):Fu:=⟨[103],[[110]],[[105]],(genB2 L).1,(genV2 L).1⟩
def genAr (L:List Int):List Ar:=[⟨[97],1 + pickG (nextG L).1 4⟩,⟨[98],1 + pickG (w64 ((nextG L).1.tdiv 4)) 4⟩]
def genP (l:List Int):Pr:=⟨genAr (l.take 60),[genF (l.take 60),genGf (l.take 60)]⟩
structure ProgM (lo n:Nat) (H:Hp) (p:Pr) (ra rf:Nat) (x y:Int) (f g:Fu) (cf cg:List AV):Prop where
 ep:p=⟨[⟨[97],x⟩,⟨[98],y⟩],[f,g]⟩
 ga:H.get ra=some (.cells [.str [97],.int .i64 x,.str [98],.int .i64 y] 0 true)
 gf:H.get rf=some (.cells (cf ++ cg) 0 true)
 la:lo ≤ ra ∧ ra < H.next
 lf:lo ≤ rf ∧ rf < H.next
 ne:ra ≠ rf
 lcf:cf.length=9
 lcg:cg.length=9
 wf:CellsW (fun q=>lo ≤ q ∧ q ≠ ra ∧ q ≠ rf) n H cf f.cells
 wg:CellsW (fun q=>lo ≤ q ∧ q ≠ ra ∧ q ≠ rf) n H cg g.cells
theorem ProgM.cells {lo n:Nat} {H:Hp} {p:Pr} {ra rf:Nat} {x y:Int} {f g:Fu} {cf cg:List AV} (h:ProgM lo (n + 1) H p ra rf x y f g cf cg):CellsW (fun q=>lo ≤ q) (n + 2) H [.sl ra 0 2 2,.sl rf 0 2 9] p.cells:=by
 rw [h.ep]
 refine .cons ?_ (.cons ?_ .nil)
 · refine RdW.rows (n:=n + 1) (a:=[[.str [97],.int .i64 x],[.str [98],.int .i64 y]]) (imm:=0) (tip:=true) h.la.1 h.la.2 h.ga (by simp) ⟨⟨rfl,.cons (.str _) (.cons (.int _ _) .nil)⟩,⟨rfl,.cons (.str _) (.cons (.int _ _) .nil)⟩,trivial⟩
 · refine RdW.rows (n:=n + 1) (a:=[cf,cg]) (imm:=0) (tip:=true) h.lf.1 h.lf.2 (by rw [h.gf];simp) (by simp) ⟨⟨h.lcf,h.wf.keep (fun q hq=>hq.1) (Nat.le_refl _) fun _ _ _=>rfl⟩,⟨h.lcg,h.wg.keep (fun q hq=>hq.1) (Nat.le_refl _) fun _ _ _=>rfl⟩,trivial⟩
theorem fu_node {S:Nat → Prop} {n:Nat} {H:Hp} (nm:List UInt8) {p l b:AV} {v:List AV} {f:Fu} (hn:f.name=nm) (h1:RdW S (n + 1) H p (lstS f.params)) (h2:RdW S (n + 1) H l (lstS f.locals)) (h3:RdW S (n + 1) H b (.lst (f.body.map St.cells))) (h4:CellsW S (n + 1) H v f.value.cells):CellsW S (n + 1) H ([.str nm,p,l,b] ++ v) f.cells:=by
 have e:f.cells=[.str f.name,lstS f.params,lstS f.locals,.lst (f.body.map St.cells)] ++ f.value.cells:=by rw [Ex.cells_eq];rfl
 rw [e,hn]
 exact (CellsW.cons (.str _) (.cons h1 (.cons h2 (.cons h3 .nil)))).append h4
theorem rd_strs {S:Nat → Prop} {n:Nat} {H:Hp} {r imm:Nat} {tip:Bool} (l:List (List UInt8)) (hS:S r) (hr:r < H.next) (hg:H.get r=some (.cells (l.map .str) imm tip)) (hi:imm ≤ l.length):RdW S (n + 2) H (.sl r 0 l.length 1) (lstS l):=by
 have:=RdW.rows (n:=n + 1) (a:=l.map fun s=>[AV.str s]) (z:=1) hS hr (by rw [strs_flat];exact hg) (by rw [strs_flat];simpa using hi) (RowsW.strs l)
 rw [List.length_map] at this
 exact this
theorem bsI0 (H:Hp):buildSliceA Try.prog H 26 0 []=some (.sl H.next 0 0 1,H.alloc (.cells [] 0 true)):=by kernel_rfl
theorem bldRd (v:Nat) (n:Nat):buildA Try.prog 80 [(0,.sl v 0 n 1)]=some (.agg [.sl v 0 n 1,.int .i64 0]):=by kernel_rfl
theorem bldAr (s:List UInt8) (n:Int):buildA Try.prog 44 [(0,.str s),(1,.int .i64 n)]=some (.agg [.str s,.int .i64 n]):=by kernel_rfl
theorem bsA2 (H:Hp) (a b:List UInt8) (x y:Int):buildSliceA Try.prog H 22 2 [(0,.agg [.str a,.int .i64 x]),(1,.agg [.str b,.int .i64 y])]=some (.sl H.next 0 2 2,H.alloc (.cells [.str a,.int .i64 x,.str b,.int .i64 y] 0 true)):=by kernel_rfl
theorem bldP0 (r n:Nat):buildA Try.prog 25 [(0,.sl r 0 n 2)]=some (.agg [.sl r 0 n 2,.nilS]):=by kernel_rfl
theorem bldFu (s:List UInt8) (r n q m:Nat):buildA Try.prog 41 [(0,.str s),(1,.sl r 0 n 1),(2,.sl q 0 m 1)]=some (.agg [.str s,.sl r 0 n 1,.sl q 0 m 1,.nilS,.int .i64 0,.int .i64 0,.str [],.int .i64 0,.nilS]):=by kernel_rfl
theorem bsF2 (H:Hp) (a0 a1 a2 a3 a4 a5 a6 a7 a8 b0 b1 b2 b3 b4 b5 b6 b7 b8:AV):buildSliceA Try.prog H 23 2 [(0,.agg [a0,a1,a2,a3,a4,a5,a6,a7,a8]),(1,.agg [b0,b1,b2,b3,b4,b5,b6,b7,b8])]=some (.sl H.next 0 2 9,H.alloc (.cells [a0,a1,a2,a3,a4,a5,a6,a7,a8,b0,b1,b2,b3,b4,b5,b6,b7,b8] 0 true)):=by kernel_rfl
theorem bsS1' (H:Hp) (s:List UInt8):buildSliceA Try.prog H 35 1 [(0,.str s)]=some (.sl H.next 0 1 1,H.alloc (.cells [.str s] 0 true)):=by kernel_rfl
theorem aggP2 (a b:AV):aggA 2 [a,b]=some (.agg [a,b]):=rfl
theorem int_flat (l:List Int):(l.map fun n=>[AV.int .i64 n]).flatten=l.map fun n=>AV.int .i64 n:=by
 induction l with
 | nil=>rfl
 | cons a l ih=>simp only [List.map_cons,List.flatten_cons,ih];rfl
theorem app_seeds {H:Hp} {q:Nat} (l:List Int) (hg:H.get q=some (.cells [] 0 true)) (hq:q < H.next) (hl:l.length ≤ 60) :
   ∃ v H',appendA Try.prog false H 26 26 (.sl q 0 0 1) (.lst (l.map fun n=>[AV.int .i64 n]))=some (v,H') ∧ (∃ b imm,v=.sl b 0 l.length 1 ∧ H'.get b=some (.cells (l.map fun n=>.int .i64 n) imm true) ∧ b < H'.next ∧ (b=q ∨ b=H.next)) ∧ H.next ≤ H'.next ∧ ∀ k,k < H.next → k ≠ q → H'.get k=H.get k:=by
 have hmr:maxRoom=70368744177664:=rfl
 have hfl:(l.map fun n=>[AV.int .i64 n]).flatten=l.map fun n=>AV.int .i64 n:=int_flat l
 have hx:srcCells H 1 (.lst (l.map fun n=>[AV.int .i64 n]))=some (l.length,l.map fun n=>AV.int .i64 n):=by
   have e:srcCells H 1 (.lst (l.map fun n=>[AV.int .i64 n]))=if ((l.map fun n=>[AV.int .i64 n]).all fun row=>row.length == 1) then some ((l.map fun n=>[AV.int .i64 n]).length,(l.map fun n=>[AV.int .i64 n]).flatten) else none:=rfl
   rw [e,if_pos (by simp),hfl,List.length_map]
 have hone:(l.map fun n=>AV.int .i64 n).all AV.one=true:=by simp [AV.one]
 cases l with
 | nil => 
   refine ⟨.sl q 0 0 1,H,?_,⟨q,0,rfl,hg,hq,.inl rfl⟩,Nat.le_refl _,fun _ _ _=>rfl⟩
   · simp only [appendA,Try.underlying26,sz3,bt3,zr3,show srcType Try.prog 26=true by kernel_rfl,hx,List.length_nil]
 | cons a l =>
   simp only [List.length_cons] at hx hl
   have htr:trimA false H 1 (.sl q 0 0 1)=H:=by
     unfold trimA
     simp only [hg]
     rfl
   refine ⟨.sl H.next 0 (0 + (l.length + 1)) 1,(H.kill q).alloc (.cells ([] ++ (a :: l).map fun n=>.int .i64 n) (0 - 0) true),?_,⟨H.next,0,by simp,?_,Nat.lt_succ_self _,.inr rfl⟩,Nat.le_succ _,fun k hk hno=>?_⟩
   · simp only [appendA, Try.underlying26, sz3, bt3, zr3, show srcType Try.prog 26 = true by kernel_rfl, hx, hone, htr, and_self, if_true, List.length_cons, List.length_nil, appendOnto, hg, Nat.zero_add, Nat.mul_one, List.drop_nil, Bool.false_eq_true, if_false]
     rw [if_pos ⟨by rw [hmr];omega,by rw [hmr];omega,by simp⟩]
   · show ((H.kill q).alloc _).get (H.kill q).next = _
     rw [Hp.get_alloc,if_pos rfl];simp
   · rw [Hp.get_alloc,if_neg (by simp only [Hp.next_kill];omega),Hp.get_kill,if_neg hno]
theorem slice_seeds (l:List Int):sliceA Try.prog 26 (.lst (l.map fun n=>[AV.int .i64 n])) none (some (.int .i64 (min (l.length:Int) 60)))=some (.lst ((l.take 60).map fun n=>[AV.int .i64 n])):=by
 have e:min (l.length:Int) 60=((min l.length 60:Nat):Int):=by omega
 rw [e]
 simp only [sliceA,Try.underlying26,sz3]
 show (if 0 ≤ min l.length 60 ∧ min l.length 60 ≤ (l.map fun n=>[AV.int .i64 n]).length then _ else none)=_
 rw [if_pos ⟨Nat.zero_le _,by simp;omega⟩]
 have e2:((l.map fun n=>[AV.int .i64 n]).drop 0).take (min l.length 60 - 0)=(l.take 60).map fun n=>[AV.int .i64 n]:=by
   rw [List.drop_zero,Nat.sub_zero,← List.map_take,List.take_eq_take_iff.2]
   omega
 rw [e2]
 cases l.take 60 with
 | nil=>rfl
 | cons a l=>rfl
structure AtP (n0 M:Nat) (x y:Int) (H:Hp):Prop where
 lt:n0 < M ∧ M + 8 ≤ H.next
 rs:H.get n0=some (.cells [.nilS,.nilS] 0 true)
 ra:H.get (M + 1)=some (.cells [.str [97],.int .i64 x,.str [98],.int .i64 y] 0 true)
 t5:H.get (M + 2)=some (.cells [.sl (M + 1) 0 2 2,.sl (M + 7) 0 2 9] 0 true)
 p1:H.get (M + 3)=some (.cells [.str [120],.str [121]] 0 true)
 l1:H.get (M + 4)=some (.cells [.str [105],.str [106]] 0 true)
 p2:H.get (M + 5)=some (.cells [.str [110]] 0 true)
 l2:H.get (M + 6)=some (.cells [.str [105]] 0 true)
theorem AtP.keep {n0 M:Nat} {x y:Int} {H H':Hp} (h:AtP n0 M x y H) (hn:H.next ≤ H'.next) (hg:∀ q,(q=n0 ∨ M + 1 ≤ q ∧ q < M + 7) → H'.get q=H.get q):AtP n0 M x y H':=by
 obtain ⟨⟨lt1,lt2⟩,rs,ra,t5,p1,l1,p2,l2⟩:=h
 exact ⟨⟨lt1,by omega⟩,by rw [hg _ (.inl rfl)];exact rs,by rw [hg _ (by omega)];exact ra,by rw [hg _ (by omega)];exact t5,by rw [hg _ (by omega)];exact p1,by rw [hg _ (by omega)];exact l1,by rw [hg _ (by omega)];exact p2,by rw [hg _ (by omega)];exact l2⟩
set_option maxRecDepth 100000 in
theorem program_wp {lG:List En} (hG:GenL lG) (hst:StAll lG) (l:List Int) (hl:l.length < 2 ^ 63) (H:Hp) :
   WpCall Try.prog (cfgN pls lG) 11 [.lst (l.map fun n=>[AV.int .i64 n])] H fun v H'=>∃ ra rf x y cf cg,v=.agg [.sl ra 0 2 2,.sl rf 0 2 9] ∧ ProgM H.next 14 H' (genP l) ra rf x y (genF (l.take 60)) (genGf (l.take 60)) cf cg ∧ H.next ≤ H'.next ∧ (∀ q,q < H.next → H'.get q=H.get q) ∧ H.next < ra ∧ ∃ pt pf lf bf vf pg lg bg vg,cf=fnC [102] pf lf bf vf ∧ cg=fnC [103] pg lg bg vg ∧ ProgL pt 14 H' ra rf x y (genF (l.take 60)) (genGf (l.take 60)) pf lf bf vf pg lg bg vg ∧ genAr (l.take 60)=[⟨[97],x⟩,⟨[98],y⟩] ∧ ∀ q,q < H.next → pt q=0:=by
 have hw:Plain (cfgN pls lG) 11:=hG.plain (by rfl)
 have hkeep:(cfgN pls lG).keep 11=false:=rfl
 have hnx:Plain (cfgN pls lG) 31:=hG.plain (by rfl)
 have hs:=slice_seeds l
 have hL60:(l.take 60).length ≤ 60:=by rw [List.length_take];omega
 have hq4:(4:Int) ≠ 0:=by decide
 have hgP:genP l=⟨genAr (l.take 60),[genF (l.take 60),genGf (l.take 60)]⟩:=rfl
 generalize genP l=P0 at *
 refine WpCall.slim (M:=61) (rs:=[.cell 2 25]) (hw.call _) hw.ice hw.froz Try.func11 rfl rfl code11.2 rfl ?_;dsimp only [code11,envOf,Nat.reduceAdd]
 have gh0:=@bsI0
 repeat' (first
    | (apply Rx.nl ?_;clear hK K)|apply Rx.o ?_|apply Rx.on ?_|apply Wp.seq ?_|(apply Wp.ops' fun K hK=>?_)|(apply Rx.dT 5 [(1,3),(1,6)] fun K hK=>?_)|(apply Rx.dT 6 [(1,3),(1,6)] fun K hK=>?_)|(apply Rx.dT 7 [(1,3),(1,6)] fun K hK=>?_)|(apply Rx.dT 8 [(1,3),(1,6)] fun K hK=>?_)|(apply Rx.nq ?_;try intro _)|(apply Rx.nt ?_ ?_ <;> clear hK K)|apply WpT.step ?_|apply WpT.step0 rfl ?_|apply Rx.rt ?_)
 generalize l.take 60=L at *
 have gq:((H.alloc (.cells [.nilS,.nilS] 0 true)).alloc (.cells [] 0 true)).get (H.next + 1)=some (.cells [] 0 true):=by rw [Hp.get_alloc,if_pos (by rfl)]
 obtain ⟨v,H2,a2,⟨b,imm,rfl,gb,hb,hb2⟩,n2,o2⟩:=app_seeds L gq (Nat.lt_succ_self _) hL60
 simp only [Hp.next_alloc] at n2 o2 hb2
 refine WpL.append eV eV (by rw [hkeep];exact a2) ?_
 have gh0:=@bldRd
 repeat' (first
    | (apply Rx.nl ?_;clear hK K)|apply Rx.o ?_|apply Rx.on ?_|apply Wp.seq ?_|(apply Wp.ops' fun K hK=>?_)|(apply Rx.dT 5 [(1,3),(1,6)] fun K hK=>?_)|(apply Rx.dT 6 [(1,3),(1,6)] fun K hK=>?_)|(apply Rx.dT 7 [(1,3),(1,6)] fun K hK=>?_)|(apply Rx.dT 8 [(1,3),(1,6)] fun K hK=>?_)|(apply Rx.nq ?_;try intro _)|(apply Rx.nt ?_ ?_ <;> clear hK K)|apply WpT.step ?_|apply WpT.step0 rfl ?_|apply Rx.rt ?_)
 have hrd3:RdOk (H2.next + 1) (H2.alloc (.cells [.sl b 0 L.length 1,.int .i64 0] 0 true)) H2.next L 0:=⟨Nat.lt_succ_self _,Nat.le_refl _,_,by rw [Hp.get_alloc,if_pos rfl],.inr ⟨b,0,_,imm,rfl,by rw [Hp.get_alloc,if_neg (by omega)];exact gb,rfl,by omega,by omega⟩⟩
 have g3:(H2.alloc (.cells [.sl b 0 L.length 1,.int .i64 0] 0 true)).get H.next=some (.cells [.nilS,.nilS] 0 true):=by rw [Hp.get_alloc,if_neg (by omega),o2 _ (by omega) (by omega),Hp.get_alloc,if_neg (by simp only [Hp.next_alloc];omega),Hp.get_alloc,if_pos rfl]
 have o3:∀ q,q < H.next → (H2.alloc (.cells [.sl b 0 L.length 1,.int .i64 0] 0 true)).get q=H.get q:=fun q hq=>by rw [Hp.get_alloc,if_neg (by omega),o2 _ (by omega) (by omega),Hp.get_alloc,if_neg (by simp only [Hp.next_alloc];omega),Hp.get_alloc,if_neg (by omega)]
 generalize hH3:H2.alloc (.cells [.sl b 0 L.length 1,.int .i64 0] 0 true)=H3 at *
 have n3:H3.next=H2.next + 1:=by rw [← hH3];rfl
 clear hH3 gb hb hb2 a2 gq o2
 refine WpL.call rfl eVk eAk ?_;simp only [List.cons_append,List.nil_append,List.append_nil]
 refine WpCall.mono ?_ (next_wp hnx hrd3 (by omega))
 rintro v H4 ⟨rfl,hr4,n4,o4⟩
 have g4:H4.get H.next=some (.cells [.nilS,.nilS] 0 true):=by rw [o4 _ (by omega)];exact g3
 have o4':∀ q,q < H.next → H4.get q=H.get q:=fun q hq=>by rw [o4 _ (by omega)];exact o3 q hq
 clear o4 o3 g3 hrd3
 have hL1:=nextG_len L
 have hA:genAr L=[⟨[97],1 + pickG (nextG L).1 4⟩,⟨[98],1 + pickG (w64 ((nextG L).1.tdiv 4)) 4⟩]:=rfl
 have hp1:=pickG_range (n:=(nextG L).1) (m:=4) (by omega) (by omega)
 have hp2:=pickG_range (n:=w64 ((nextG L).1.tdiv 4)) (m:=4) (by omega) (by omega)
 have hB1:genB1 L=stmtsG 0 4 0 5 ((nextG L).2,0):=rfl
 have hV1:genV1 L=exprG 0 4 1 (genB1 L).2.1:=rfl
 have hB2:genB2 L=stmtsG 1 3 1 3 ((genV1 L).2,(genB1 L).2.2):=rfl
 have hV2:genV2 L=exprG 1 4 1 (genB2 L).2.1:=rfl
 have hF1:genF L=⟨[102],[[120],[121]],[[105],[106]],(genB1 L).1,(genV1 L).1⟩:=rfl
 have hF2:genGf L=⟨[103],[[110]],[[105]],(genB2 L).1,(genV2 L).1⟩:=rfl
 have hl1:(genB1 L).2.1.length ≤ (nextG L).2.length:=by rw [hB1];exact Nat.le_trans (stsG_len (stmtG_len 0 4 0) _ _) (nextG_len _)
 have hl2:(genV1 L).2.length ≤ (genB1 L).2.1.length:=exprG_len 0 4 1 _
 have hl3:(genB2 L).2.1.length ≤ (genV1 L).2.length:=by rw [hB2];exact Nat.le_trans (stsG_len (stmtG_len 1 3 1) _ _) (nextG_len _)
 generalize genB1 L=B1 at *
 generalize genV1 L=V1 at *
 generalize genB2 L=B2 at *
 generalize genV2 L=V2 at *
 generalize genF L=Ff at *
 generalize genGf L=Fg at *
 generalize genAr L=Aa at *
 generalize (nextG L).1=n at *
 generalize (nextG L).2=L1 at *
 have hw1:IntKind.wrap .i64 (1 + pickG n 4)=1 + pickG n 4:=i64_id (by omega) (by omega)
 have hw2:IntKind.wrap .i64 (1 + pickG (w64 (n.tdiv 4)) 4)=1 + pickG (w64 (n.tdiv 4)) 4:=i64_id (by omega) (by omega)
 have hw3:IntKind.wrap .i64 (n.tdiv 4)=w64 (n.tdiv 4):=rfl
 dsimp only [setO]
 have gh0:=@bldAr
 have gh1:=@bsA2
 have gh2:=@bldP0
 have gh3:=@bsS1'
 have gh4:=@bldFu
 have gh5:=@bsF2
 repeat' (first
    | (apply Rx.nl ?_;clear hK K)|apply Rx.o ?_|apply Rx.on ?_|(apply Rx.call ?_;first|refine Rx.k (pick_en hG.pick _ _ (by decide) _) ?_)|apply Wp.seq ?_|(apply Wp.ops' fun K hK=>?_)|(apply Rx.dT 5 [(1,3),(1,6)] fun K hK=>?_)|(apply Rx.dT 6 [(1,3),(1,6)] fun K hK=>?_)|(apply Rx.dT 7 [(1,3),(1,6)] fun K hK=>?_)|(apply Rx.dT 8 [(1,3),(1,6)] fun K hK=>?_)|(apply Rx.nq ?_;try intro _)|(apply Rx.nt ?_ ?_ <;> clear hK K)|apply WpT.step ?_|apply WpT.step0 rfl ?_|apply Rx.rt ?_)
 generalize hx:1 + pickG n 4=x at *
 generalize hy:1 + pickG (w64 (n.tdiv 4)) 4=y at *
 rename_i H4
 have hne:∀ i,(H.next == H2.next + i)=false:=fun i=>ne_beq (by omega)
 have hmn:H.next < H2.next:=by omega
 generalize hHs:Hp.set (Hp.alloc _ _) _ _=Hs
 have hat:AtP H.next H2.next x y Hs:=by
   rw [← hHs]
   refine ⟨⟨hmn,by simp only [Hp.next_set,Hp.next_alloc];omega⟩,?_,?_,?_,?_,?_,?_,?_⟩
   · repeat (first | rw [Hp.get_set, if_neg (by (try simp only [Hp.next_alloc, Hp.next_set]); omega)] | rw [Hp.get_alloc, if_neg (by (try simp only [Hp.next_alloc, Hp.next_set]); omega)])
     exact g4
   · (repeat (first|rw [Hp.get_set,if_neg (by (try simp only [Hp.next_alloc,Hp.next_set]);omega)]|rw [Hp.get_alloc,if_neg (by (try simp only [Hp.next_alloc,Hp.next_set]);omega)]));(first|rw [Hp.get_set,if_pos (by first|rfl|((try simp only [Hp.next_alloc,Hp.next_set]);omega))]|rw [Hp.get_alloc,if_pos (by first|rfl|((try simp only [Hp.next_alloc,Hp.next_set]);omega))])
   · (repeat (first|rw [Hp.get_set,if_neg (by (try simp only [Hp.next_alloc,Hp.next_set]);omega)]|rw [Hp.get_alloc,if_neg (by (try simp only [Hp.next_alloc,Hp.next_set]);omega)]));(first|rw [Hp.get_set,if_pos (by first|rfl|((try simp only [Hp.next_alloc,Hp.next_set]);omega))]|rw [Hp.get_alloc,if_pos (by first|rfl|((try simp only [Hp.next_alloc,Hp.next_set]);omega))])
   · (repeat (first|rw [Hp.get_set,if_neg (by (try simp only [Hp.next_alloc,Hp.next_set]);omega)]|rw [Hp.get_alloc,if_neg (by (try simp only [Hp.next_alloc,Hp.next_set]);omega)]));(first|rw [Hp.get_set,if_pos (by first|rfl|((try simp only [Hp.next_alloc,Hp.next_set]);omega))]|rw [Hp.get_alloc,if_pos (by first|rfl|((try simp only [Hp.next_alloc,Hp.next_set]);omega))])
   · (repeat (first|rw [Hp.get_set,if_neg (by (try simp only [Hp.next_alloc,Hp.next_set]);omega)]|rw [Hp.get_alloc,if_neg (by (try simp only [Hp.next_alloc,Hp.next_set]);omega)]));(first|rw [Hp.get_set,if_pos (by first|rfl|((try simp only [Hp.next_alloc,Hp.next_set]);omega))]|rw [Hp.get_alloc,if_pos (by first|rfl|((try simp only [Hp.next_alloc,Hp.next_set]);omega))])
   · (repeat (first|rw [Hp.get_set,if_neg (by (try simp only [Hp.next_alloc,Hp.next_set]);omega)]|rw [Hp.get_alloc,if_neg (by (try simp only [Hp.next_alloc,Hp.next_set]);omega)]));(first|rw [Hp.get_set,if_pos (by first|rfl|((try simp only [Hp.next_alloc,Hp.next_set]);omega))]|rw [Hp.get_alloc,if_pos (by first|rfl|((try simp only [Hp.next_alloc,Hp.next_set]);omega))])
   · (repeat (first|rw [Hp.get_set,if_neg (by (try simp only [Hp.next_alloc,Hp.next_set]);omega)]|rw [Hp.get_alloc,if_neg (by (try simp only [Hp.next_alloc,Hp.next_set]);omega)]));(first|rw [Hp.get_set,if_pos (by first|rfl|((try simp only [Hp.next_alloc,Hp.next_set]);omega))]|rw [Hp.get_alloc,if_pos (by first|rfl|((try simp only [Hp.next_alloc,Hp.next_set]);omega))])
 have gf:Hs.get (H2.next + 7)=some (.cells [.str [102],.sl (H2.next + 3) 0 2 1,.sl (H2.next + 4) 0 2 1,.nilS,.int .i64 0,.int .i64 0,.str [],.int .i64 0,.nilS,.str [103],.sl (H2.next + 5) 0 1 1,.sl (H2.next + 6) 0 1 1,.nilS,.int .i64 0,.int .i64 0,.str [],.int .i64 0,.nilS] 0 true):=by
   rw [← hHs];(repeat (first|rw [Hp.get_set,if_neg (by (try simp only [Hp.next_alloc,Hp.next_set]);omega)]|rw [Hp.get_alloc,if_neg (by (try simp only [Hp.next_alloc,Hp.next_set]);omega)]));(first|rw [Hp.get_set,if_pos (by first|rfl|((try simp only [Hp.next_alloc,Hp.next_set]);omega))]|rw [Hp.get_alloc,if_pos (by first|rfl|((try simp only [Hp.next_alloc,Hp.next_set]);omega))])
 have olds:∀ q,q < H2.next + 1 → Hs.get q=H4.get q:=fun q hq=>by
   rw [← hHs]
   repeat (first|rw [Hp.get_set,if_neg (by omega)]|rw [Hp.get_alloc,if_neg (by (try simp only [Hp.next_alloc,Hp.next_set]);omega)])
 have hns:Hs.next=H2.next + 8:=by rw [← hHs];simp only [Hp.next_set,Hp.next_alloc];omega
 have hrs:RdOk (H2.next + 1) Hs H2.next L1 0:=hr4.keep (by omega) olds
 have os:∀ q,q < H.next → Hs.get q=H.get q:=fun q hq=>by rw [olds q (by omega)];exact o4' q hq
 clear olds hHs hr4 g4 o4'
 have h02:(0:Nat) < 2:=by decide
 have h12:(1:Nat) < 2:=by decide
 refine WpL.call rfl eVk eAk ?_;simp only [List.cons_append,List.nil_append,List.append_nil]
 refine WpCall.mono ?_ (stmts_wp hG (hst 0 4 0 (by omega) (by omega)) 5 (by omega) (by omega) (H2.next + 1) Hs H2.next (L1,0) hrs (by simp only [];omega))
 rintro v1 H5 ⟨hrow1,hr5,n5,o5⟩
 rw [← hB1] at hrow1 hr5
 obtain ⟨t1,t2⟩:=hrow1.one
 have hat5:=hat.keep n5 fun q hq=>o5 q (by omega) (by omega)
 have g5t:=hat5.t5
 have g5f:H5.get (H2.next + 7)=some (.cells [.str [102],.sl (H2.next + 3) 0 2 1,.sl (H2.next + 4) 0 2 1,.nilS,.int .i64 0,.int .i64 0,.str [],.int .i64 0,.nilS,.str [103],.sl (H2.next + 5) 0 1 1,.sl (H2.next + 6) 0 1 1,.nilS,.int .i64 0,.int .i64 0,.str [],.int .i64 0,.nilS] 0 true):=by rw [o5 _ (by omega) (by omega)];exact gf
 have gst:=hat.t5
 dsimp only [setO]
 repeat' (first
    | (apply Rx.nl ?_;clear hK K)|apply Ry.o ?_|apply Ry.on ?_|apply Wp.seq ?_|(apply Wp.ops' fun K hK=>?_)|(apply Rx.dT 5 [(1,3),(1,6)] fun K hK=>?_)|(apply Rx.dT 6 [(1,3),(1,6)] fun K hK=>?_)|(apply Rx.dT 7 [(1,3),(1,6)] fun K hK=>?_)|(apply Rx.dT 8 [(1,3),(1,6)] fun K hK=>?_)|(apply Rx.nq ?_;try intro _)|(apply Rx.nt ?_ ?_ <;> clear hK K)|apply WpT.step ?_|apply WpT.step0 rfl ?_|apply Rx.rt ?_)
 · exact eK
 have n5':=n5
 generalize hHa:Hp.set H5 (H2.next + 7) _=Ha
 have nHa:Ha.next=H5.next:=by rw [← hHa];rfl
 have oHa:∀ q,q ≠ H2.next + 7 → Ha.get q=H5.get q:=fun q hq=>by rw [← hHa,Hp.get_set,if_neg hq]
 have gfHa:Ha.get (H2.next + 7)=some (.cells [.str [102],.sl (H2.next + 3) 0 2 1,.sl (H2.next + 4) 0 2 1,v1,.int .i64 0,.int .i64 0,.str [],.int .i64 0,.nilS,.str [103],.sl (H2.next + 5) 0 1 1,.sl (H2.next + 6) 0 1 1,.nilS,.int .i64 0,.int .i64 0,.str [],.int .i64 0,.nilS] 0 true):=by rw [← hHa,Hp.get_set,if_pos rfl]
 clear hHa
 have hatHa:=hat5.keep (Nat.le_of_eq nHa.symm) fun q hq=>oHa q (by omega)
 have gtHa:=hatHa.t5
 have hrHa:=hr5.keep (Nat.le_of_eq nHa.symm) fun q hq=>oHa q (by omega)
 have hMl:=hat.lt
 repeat' (first
    | (apply Rx.nl ?_;clear hK K)|apply Ry.o ?_|apply Ry.on ?_|apply Wp.seq ?_|(apply Wp.ops' fun K hK=>?_)|(apply Rx.dT 5 [(1,3),(1,6)] fun K hK=>?_)|(apply Rx.dT 6 [(1,3),(1,6)] fun K hK=>?_)|(apply Rx.dT 7 [(1,3),(1,6)] fun K hK=>?_)|(apply Rx.dT 8 [(1,3),(1,6)] fun K hK=>?_)|(apply Rx.nq ?_;try intro _)|(apply Rx.nt ?_ ?_ <;> clear hK K)|apply WpT.step ?_|apply WpT.step0 rfl ?_|apply Rx.rt ?_)
 refine WpL.call rfl eVk eAk ?_;simp only [List.cons_append,List.nil_append,List.append_nil]
 refine WpCall.mono ?_ (exprG_wp hG 4 0 1 (by omega) (by omega) (H2.next + 1) Ha H2.next _ _ hrHa (by omega))
 rintro _ H6 ⟨⟨cs,rfl,hc1,hc2,hc3⟩,hrH6,nH6,oH6⟩
 rw [← hV1] at hc3 hrH6
 obtain ⟨p0,p1,p2,p3,p4,rfl⟩:=len5 hc1
 obtain ⟨u0,u1,u2,u3,u4⟩:=all5 hc2
 have hatH6:=hatHa.keep nH6 fun q hq=>oH6 q (by omega) (by omega)
 have gtH6:=hatH6.t5
 have gfH6:H6.get (H2.next + 7)=some (.cells [.str [102],.sl (H2.next + 3) 0 2 1,.sl (H2.next + 4) 0 2 1,v1,.int .i64 0,.int .i64 0,.str [],.int .i64 0,.nilS,.str [103],.sl (H2.next + 5) 0 1 1,.sl (H2.next + 6) 0 1 1,.nilS,.int .i64 0,.int .i64 0,.str [],.int .i64 0,.nilS] 0 true):=by rw [oH6 _ (by omega) (by omega)];exact gfHa
 dsimp only [setO]
 repeat' (first
    | (apply Rx.nl ?_;clear hK K)|apply Ry.o ?_|apply Ry.on ?_|apply Wp.seq ?_|(apply Wp.ops' fun K hK=>?_)|(apply Rx.dT 5 [(1,3),(1,6)] fun K hK=>?_)|(apply Rx.dT 6 [(1,3),(1,6)] fun K hK=>?_)|(apply Rx.dT 7 [(1,3),(1,6)] fun K hK=>?_)|(apply Rx.dT 8 [(1,3),(1,6)] fun K hK=>?_)|(apply Rx.nq ?_;try intro _)|(apply Rx.nt ?_ ?_ <;> clear hK K)|apply WpT.step ?_|apply WpT.step0 rfl ?_|apply Rx.rt ?_)
 · exact eK
 generalize hHa:Hp.set H6 (H2.next + 7) _=Hb
 have nHb:Hb.next=H6.next:=by rw [← hHa];rfl
 have oHb:∀ q,q ≠ H2.next + 7 → Hb.get q=H6.get q:=fun q hq=>by rw [← hHa,Hp.get_set,if_neg hq]
 have gfHb:Hb.get (H2.next + 7)=some (.cells [.str [102],.sl (H2.next + 3) 0 2 1,.sl (H2.next + 4) 0 2 1,v1,p0,p1,p2,p3,p4,.str [103],.sl (H2.next + 5) 0 1 1,.sl (H2.next + 6) 0 1 1,.nilS,.int .i64 0,.int .i64 0,.str [],.int .i64 0,.nilS] 0 true):=by rw [← hHa,Hp.get_set,if_pos rfl]
 clear hHa
 have hatHb:=hatH6.keep (Nat.le_of_eq nHb.symm) fun q hq=>oHb q (by omega)
 have gtHb:=hatHb.t5
 have hrHb:=hrH6.keep (Nat.le_of_eq nHb.symm) fun q hq=>oHb q (by omega)
 repeat' (first
    | (apply Rx.nl ?_;clear hK K)|apply Ry.o ?_|apply Ry.on ?_|apply Wp.seq ?_|(apply Wp.ops' fun K hK=>?_)|(apply Rx.dT 5 [(1,3),(1,6)] fun K hK=>?_)|(apply Rx.dT 6 [(1,3),(1,6)] fun K hK=>?_)|(apply Rx.dT 7 [(1,3),(1,6)] fun K hK=>?_)|(apply Rx.dT 8 [(1,3),(1,6)] fun K hK=>?_)|(apply Rx.nq ?_;try intro _)|(apply Rx.nt ?_ ?_ <;> clear hK K)|apply WpT.step ?_|apply WpT.step0 rfl ?_|apply Rx.rt ?_)
 refine WpL.call rfl eVk eAk ?_;simp only [List.cons_append,List.nil_append,List.append_nil]
 refine WpCall.mono ?_ (stmts_wp hG (hst 1 3 1 (by omega) (by omega)) 3 (by omega) (by omega) (H2.next + 1) Hb H2.next (V1.2,B1.2.2) hrHb (by simp only [];omega))
 rintro v2 H7 ⟨hrow2,hrH7,nH7,oH7⟩
 rw [← hB2] at hrow2 hrH7
 obtain ⟨s1,s2⟩:=hrow2.one
 have hatH7:=hatHb.keep nH7 fun q hq=>oH7 q (by omega) (by omega)
 have gtH7:=hatH7.t5
 have gfH7:H7.get (H2.next + 7)=some (.cells [.str [102],.sl (H2.next + 3) 0 2 1,.sl (H2.next + 4) 0 2 1,v1,p0,p1,p2,p3,p4,.str [103],.sl (H2.next + 5) 0 1 1,.sl (H2.next + 6) 0 1 1,.nilS,.int .i64 0,.int .i64 0,.str [],.int .i64 0,.nilS] 0 true):=by rw [oH7 _ (by omega) (by omega)];exact gfHb
 dsimp only [setO]
 repeat' (first
    | (apply Rx.nl ?_;clear hK K)|apply Ry.o ?_|apply Ry.on ?_|apply Wp.seq ?_|(apply Wp.ops' fun K hK=>?_)|(apply Rx.dT 5 [(1,3),(1,6)] fun K hK=>?_)|(apply Rx.dT 6 [(1,3),(1,6)] fun K hK=>?_)|(apply Rx.dT 7 [(1,3),(1,6)] fun K hK=>?_)|(apply Rx.dT 8 [(1,3),(1,6)] fun K hK=>?_)|(apply Rx.nq ?_;try intro _)|(apply Rx.nt ?_ ?_ <;> clear hK K)|apply WpT.step ?_|apply WpT.step0 rfl ?_|apply Rx.rt ?_)
 · exact eK
 generalize hHa:Hp.set H7 (H2.next + 7) _=Hc
 have nHc:Hc.next=H7.next:=by rw [← hHa];rfl
 have oHc:∀ q,q ≠ H2.next + 7 → Hc.get q=H7.get q:=fun q hq=>by rw [← hHa,Hp.get_set,if_neg hq]
 have gfHc:Hc.get (H2.next + 7)=some (.cells [.str [102],.sl (H2.next + 3) 0 2 1,.sl (H2.next + 4) 0 2 1,v1,p0,p1,p2,p3,p4,.str [103],.sl (H2.next + 5) 0 1 1,.sl (H2.next + 6) 0 1 1,v2,.int .i64 0,.int .i64 0,.str [],.int .i64 0,.nilS] 0 true):=by rw [← hHa,Hp.get_set,if_pos rfl]
 clear hHa
 have hatHc:=hatH7.keep (Nat.le_of_eq nHc.symm) fun q hq=>oHc q (by omega)
 have gtHc:=hatHc.t5
 have hrHc:=hrH7.keep (Nat.le_of_eq nHc.symm) fun q hq=>oHc q (by omega)
 repeat' (first
    | (apply Rx.nl ?_;clear hK K)|apply Ry.o ?_|apply Ry.on ?_|apply Wp.seq ?_|(apply Wp.ops' fun K hK=>?_)|(apply Rx.dT 5 [(1,3),(1,6)] fun K hK=>?_)|(apply Rx.dT 6 [(1,3),(1,6)] fun K hK=>?_)|(apply Rx.dT 7 [(1,3),(1,6)] fun K hK=>?_)|(apply Rx.dT 8 [(1,3),(1,6)] fun K hK=>?_)|(apply Rx.nq ?_;try intro _)|(apply Rx.nt ?_ ?_ <;> clear hK K)|apply WpT.step ?_|apply WpT.step0 rfl ?_|apply Rx.rt ?_)
 refine WpL.call rfl eVk eAk ?_;simp only [List.cons_append,List.nil_append,List.append_nil]
 refine WpCall.mono ?_ (exprG_wp hG 4 1 1 (by omega) (by omega) (H2.next + 1) Hc H2.next _ _ hrHc (by omega))
 rintro _ H8 ⟨⟨ds,rfl,hd1,hd2,hd3⟩,hrH8,nH8,oH8⟩
 rw [← hV2] at hd3 hrH8
 obtain ⟨w0,w1,w2,w3,w4,rfl⟩:=len5 hd1
 obtain ⟨z0,z1,z2,z3,z4⟩:=all5 hd2
 have hatH8:=hatHc.keep nH8 fun q hq=>oH8 q (by omega) (by omega)
 have gtH8:=hatH8.t5
 have gfH8:H8.get (H2.next + 7)=some (.cells [.str [102],.sl (H2.next + 3) 0 2 1,.sl (H2.next + 4) 0 2 1,v1,p0,p1,p2,p3,p4,.str [103],.sl (H2.next + 5) 0 1 1,.sl (H2.next + 6) 0 1 1,v2,.int .i64 0,.int .i64 0,.str [],.int .i64 0,.nilS] 0 true):=by rw [oH8 _ (by omega) (by omega)];exact gfHc
 dsimp only [setO]
 repeat' (first
    | (apply Rx.nl ?_;clear hK K)|apply Ry.o ?_|apply Ry.on ?_|apply Wp.seq ?_|(apply Wp.ops' fun K hK=>?_)|(apply Rx.dT 5 [(1,3),(1,6)] fun K hK=>?_)|(apply Rx.dT 6 [(1,3),(1,6)] fun K hK=>?_)|(apply Rx.dT 7 [(1,3),(1,6)] fun K hK=>?_)|(apply Rx.dT 8 [(1,3),(1,6)] fun K hK=>?_)|(apply Rx.nq ?_;try intro _)|(apply Rx.nt ?_ ?_ <;> clear hK K)|apply WpT.step ?_|apply WpT.step0 rfl ?_|apply Rx.rt ?_)
 · exact eK
 generalize hHa:Hp.set H8 (H2.next + 7) _=Hd
 have nHd:Hd.next=H8.next:=by rw [← hHa];rfl
 have oHd:∀ q,q ≠ H2.next + 7 → Hd.get q=H8.get q:=fun q hq=>by rw [← hHa,Hp.get_set,if_neg hq]
 have gfHd:Hd.get (H2.next + 7)=some (.cells [.str [102],.sl (H2.next + 3) 0 2 1,.sl (H2.next + 4) 0 2 1,v1,p0,p1,p2,p3,p4,.str [103],.sl (H2.next + 5) 0 1 1,.sl (H2.next + 6) 0 1 1,v2,w0,w1,w2,w3,w4] 0 true):=by rw [← hHa,Hp.get_set,if_pos rfl]
 clear hHa
 have hatHd:=hatH8.keep (Nat.le_of_eq nHd.symm) fun q hq=>oHd q (by omega)
 have gtHd:=hatHd.t5
 have hrHd:=hrH8.keep (Nat.le_of_eq nHd.symm) fun q hq=>oHd q (by omega)
 have gr:=hatHd.rs
 have e1:(H2.next + 2 == H.next)=false:=ne_beq (by omega)
 have gh0:=@aggP2
 repeat' (first
    | (apply Rx.nl ?_;clear hK K)|apply Rx.o ?_|apply Rx.on ?_|apply Wp.seq ?_|(apply Wp.ops' fun K hK=>?_)|(apply Rx.dT 5 [(1,3),(1,6)] fun K hK=>?_)|(apply Rx.dT 6 [(1,3),(1,6)] fun K hK=>?_)|(apply Rx.dT 7 [(1,3),(1,6)] fun K hK=>?_)|(apply Rx.dT 8 [(1,3),(1,6)] fun K hK=>?_)|(apply Rx.nq ?_;try intro _)|(apply Rx.nt ?_ ?_ <;> clear hK K)|apply WpT.step ?_|apply WpT.step0 rfl ?_|apply Rx.rt ?_)
 refine ⟨eI,_,(by (try simp only [sB,sO,Nat.reduceBEq,Nat.reduceAdd,Nat.reduceLeDiff,tyF,resultsA,resultA,aggP2, *]);first|done|with_reducible rfl),?_⟩;try simp only [oneOr]
 have old:∀ q,q < H.next → ((Hd.set H.next (.cells [.sl (H2.next + 1) 0 2 2,.sl (H2.next + 7) 0 2 9] 0 true)).get q=H.get q):=fun q hq=>by
   rw [Hp.get_set,if_neg (by omega),oHd _ (by omega),oH8 _ (by omega) (by omega),oHc _ (by omega),oH7 _ (by omega) (by omega),oHb _ (by omega),oH6 _ (by omega) (by omega),oHa _ (by omega),o5 _ (by omega) (by omega)]
   exact os q hq
 have hz:=hatHd.keep (H':=Hd.set H.next (.cells [.sl (H2.next + 1) 0 2 2,.sl (H2.next + 7) 0 2 9] 0 true)) (Nat.le_refl _)
 refine ⟨H2.next + 1,H2.next + 7,x,y,[.str [102],.sl (H2.next + 3) 0 2 1,.sl (H2.next + 4) 0 2 1,v1,p0,p1,p2,p3,p4],[.str [103],.sl (H2.next + 5) 0 1 1,.sl (H2.next + 6) 0 1 1,v2,w0,w1,w2,w3,w4],rfl,?_,by simp only [Hp.next_set];omega,old,by omega,labP H2.next H5.next H6.next H7.next,.sl (H2.next + 3) 0 2 1,.sl (H2.next + 4) 0 2 1,v1,[p0,p1,p2,p3,p4],.sl (H2.next + 5) 0 1 1,.sl (H2.next + 6) 0 1 1,v2,[w0,w1,w2,w3,w4],rfl,rfl,?_,hA,fun q hq=>by unfold labP;rw [if_pos (by omega)]⟩
 all_goals
   have gz:∀ q,q ≠ H.next → (Hd.set H.next (.cells [.sl (H2.next + 1) 0 2 2,.sl (H2.next + 7) 0 2 9] 0 true)).get q=Hd.get q:=fun q hq=>by rw [Hp.get_set,if_neg hq]
   have nz:(Hd.set H.next (.cells [.sl (H2.next + 1) 0 2 2,.sl (H2.next + 7) 0 2 9] 0 true)).next=Hd.next:=rfl
   generalize (Hd.set H.next (.cells [.sl (H2.next + 1) 0 2 2,.sl (H2.next + 7) 0 2 9] 0 true))=Hz at *
   have hl:=hatHd.lt
 · refine ⟨by rw [hgP, hA], by rw [gz _ (by omega)]; exact hatHd.ra, by rw [gz _ (by omega)]; exact gfHd, ⟨by omega, by omega⟩, ⟨by omega, by omega⟩, by omega, rfl, rfl, ?_, ?_⟩
   · rw [hF1]
     refine fu_node (n:=13) [102] rfl (rd_strs (n:=12) (imm:=0) (tip:=true) [[120],[121]] ⟨by omega,by omega,by omega⟩ (by omega) (by rw [gz _ (by omega)];exact hatHd.p1) (by simp)) (rd_strs (n:=12) (imm:=0) (tip:=true) [[105],[106]] ⟨by omega,by omega,by omega⟩ (by omega) (by rw [gz _ (by omega)];exact hatHd.l1) (by simp)) ?_ ?_
     · exact (hrow1.keep (fun q _ hq=>⟨by omega,by omega,by omega⟩) (by omega) fun q h1 h2=>by rw [gz _ (by omega),oHd _ (by omega),oH8 _ (by omega) (by omega),oHc _ (by omega),oH7 _ (by omega) (by omega),oHb _ (by omega),oH6 _ (by omega) (by omega),oHa _ (by omega)]).rd.up (by omega)
     · exact (hc3.up (by omega)).keep2 (fun q _ hq=>⟨by omega,by omega,by omega⟩) (by omega) fun q h1 h2=>by rw [gz _ (by omega),oHd _ (by omega),oH8 _ (by omega) (by omega),oHc _ (by omega),oH7 _ (by omega) (by omega),oHb _ (by omega)]
   · rw [hF2]
     refine fu_node (n:=13) [103] rfl (rd_strs (n:=12) (imm:=0) (tip:=true) [[110]] ⟨by omega,by omega,by omega⟩ (by omega) (by rw [gz _ (by omega)];exact hatHd.p2) (by simp)) (rd_strs (n:=12) (imm:=0) (tip:=true) [[105]] ⟨by omega,by omega,by omega⟩ (by omega) (by rw [gz _ (by omega)];exact hatHd.l2) (by simp)) ?_ ?_
     · exact (hrow2.keep (fun q _ hq=>⟨by omega,by omega,by omega⟩) (by omega) fun q h1 h2=>by rw [gz _ (by omega),oHd _ (by omega),oH8 _ (by omega) (by omega),oHc _ (by omega)]).rd.up (by omega)
     · exact (hd3.up (by omega)).keep2 (fun q _ hq=>⟨by omega,by omega,by omega⟩) (by omega) fun q h1 h2=>by rw [gz _ (by omega),oHd _ (by omega)]
 · have ls := hat.lt
   refine ⟨by rw [gz _ (by omega)];exact hatHd.ra,by rw [gz _ (by omega),gfHd,hF1,hF2];rfl,by omega,by omega,by simp [labP],by simp [labP],⟨hc1,hc2,?_,?_,?_,?_⟩,⟨hd1,hd2,?_,?_,?_,?_⟩⟩
   · rw [hF1];exact own_strs (n:=13) [[120],[121]] (by simp [labP]) (by omega) (by rw [gz _ (by omega)];exact hatHd.p1)
   · rw [hF1];exact own_strs (n:=13) [[105],[106]] (by simp [labP]) (by omega) (by rw [gz _ (by omega)];exact hatHd.l1)
   · rw [hF1];exact (hrow1.keep (fun q h1 h2=>labP5 (by omega) h1) (by omega) fun q h1 h2=>by rw [gz _ (by omega),oHd _ (by omega),oH8 _ (by omega) (by omega),oHc _ (by omega),oH7 _ (by omega) (by omega),oHb _ (by omega),oH6 _ (by omega) (by omega),oHa _ (by omega)]).up (by omega)
   · rw [hF1];exact (hc3.up (by omega)).keep2 (fun q h1 h2=>labP6 (by omega) (by omega) h1) (by omega) fun q h1 h2=>by rw [gz _ (by omega),oHd _ (by omega),oH8 _ (by omega) (by omega),oHc _ (by omega),oH7 _ (by omega) (by omega),oHb _ (by omega)]
   · rw [hF2];exact own_strs (n:=13) [[110]] (by simp [labP]) (by omega) (by rw [gz _ (by omega)];exact hatHd.p2)
   · rw [hF2];exact own_strs (n:=13) [[105]] (by simp [labP]) (by omega) (by rw [gz _ (by omega)];exact hatHd.l2)
   · rw [hF2];exact (hrow2.keep (fun q h1 h2=>labP9 (by omega) (by omega) (by omega) h1) (by omega) fun q h1 h2=>by rw [gz _ (by omega),oHd _ (by omega),oH8 _ (by omega) (by omega),oHc _ (by omega)]).up (by omega)
   · rw [hF2];exact (hd3.up (by omega)).keep2 (fun q h1 h2=>labP10 (by omega) (by omega) (by omega) (by omega)) (by omega) fun q h1 h2=>by rw [gz _ (by omega),oHd _ (by omega)]
end Go.Proofs.Ytackdnelcpbfjaa
namespace Go.Proofs.Ytackdnelcpbfjaa
set_option maxRecDepth 20000
open Go Go.Ab
theorem w64s (d:Nat) (h:d < 2 ^ 60):w64 ((d:Int) + 1)=((d + 1:Nat):Int):=by unfold w64;rw [i64_id (by omega) (by omega)];omega
mutual
theorem walkE_lim:∀ (x:Ex) (d:Nat),d ≤ 21 → walkE limE x d=decide (d + depE x ≤ 20)
 | .mk k n s o ks, d, hd => by
   rw [walkE,limE,depE]
   by_cases h:d ≤ 20
   · rw [w64s d (by omega), walkEs_lim ks d h]
     simp only [show decide ((d:Int) ≤ 20)=true by simpa using (by omega:(d:Int) ≤ 20),Bool.true_and]
   · have h1 : decide ((d : Int) ≤ 20) = false := by simp; omega
     rw [h1,Bool.false_and];symm;simp;omega
theorem walkEs_lim:∀ (l:List Ex) (d:Nat),d ≤ 20 → walkEs limE l ((d + 1:Nat):Int)=decide (d + depEs l ≤ 20)
 | [],d,hd=>by rw [walkEs,depEs];symm;simpa using hd
 | e :: es, d, hd => by
   rw [walkEs,walkE_lim e (d + 1) (by omega),walkEs_lim es d hd,depEs]
   by_cases h1:d + 1 + depE e ≤ 20 <;> by_cases h2:d + depEs es ≤ 20
   all_goals simp only [h1,h2,decide_true,decide_false,Bool.and_true,Bool.and_false,Bool.true_and,Bool.false_and]
   all_goals (symm;simp;omega)
end
theorem walkE_lim0 (x:Ex):walkE limE x 0=!decide ((20:Int) < depE x):=by
 have:=walkE_lim x 0 (by omega)
 rw [show ((0:Nat):Int)=0 from rfl] at this
 rw [this]
 by_cases h:depE x ≤ 20
 · have : ¬ (20 : Int) < depE x := by omega
   simp [h,this]
 · have : (20 : Int) < depE x := by omega
   simp [h,this]
theorem walkEs_lim0:∀ (l:List Ex),walkEs limE l 0=!(l.any fun e=>decide ((20:Int) < depE e))
 | []=>rfl
 | e :: es=>by rw [walkEs,walkE_lim0,walkEs_lim0 es,List.any_cons,Bool.not_or]
mutual
theorem walk1_deep : ∀ (x : St) (d : Int), walk1 (inSt limE) x d () = (!deep1 x, ())
  | .mk k nm to n a v args th el, d => by
    rw [walk1,inSt,deep1]
    simp only [St.at_,St.value,St.args,walkE_lim0,walkEs_lim0]
    cases h1:decide ((20:Int) < depE a)
    · cases h2 : decide ((20 : Int) < depE v)
      · cases h3 : args.any fun e => decide ((20 : Int) < depE e)
        · simp only [Bool.not_false, Bool.and_true, Bool.true_and, walkS_deep th]
          cases h4:deepS th
          · simp only [Bool.not_false,walkS_deep el,Bool.or_false,Bool.false_or]
          · simp
        · simp
      · simp
    · simp
theorem walkS_deep:∀ (l:List St) (d:Int),walkS (inSt limE) l d ()=(!deepS l,())
 | [],_=>rfl
 | x :: l, d => by
   rw [walkS,walk1_deep x,deepS]
   cases h:deep1 x
   · simp only [Bool.not_false,walkS_deep l,Bool.false_or]
   · simp
end
def whI (k:Int):Nat:=if k=4 then 1 else 0
theorem limS_nat (x:St) (d n l:Nat) (hn:n < 2 ^ 60) (hl:l < 2 ^ 60):limS x d ((n:Int),(l:Int))=(decide ((d:Int) ≤ 20) && decide (((n + 1:Nat):Int) ≤ 200) && decide (((l + whI x.kind:Nat):Int) ≤ 16),(((n + 1:Nat):Int),((l + whI x.kind:Nat):Int))):=by
 have hw:(if x.kind=4 then w64 ((l:Int) + 1) else (l:Int))=((l + whI x.kind:Nat):Int):=by
   unfold whI
   split
   · rw [w64s l (by omega)]
   · rfl
 unfold limS
 simp only [w64s n (by omega),hw]
mutual
theorem walk1_lim : ∀ (x : St) (d n l : Nat), d ≤ 21 → n ≤ 200 → l ≤ 16 →
    ((m1 x d ≤ 20 ∧ n + n1 x ≤ 200 ∧ l + w1 x ≤ 16) → walk1 limS x d ((n:Int),(l:Int))=(true,(((n + n1 x:Nat):Int),((l + w1 x:Nat):Int)))) ∧
    (¬ (m1 x d ≤ 20 ∧ n + n1 x ≤ 200 ∧ l + w1 x ≤ 16) → (walk1 limS x d ((n:Int),(l:Int))).1=false)
  | .mk k nm to n0 a v args th el, d, n, l, hd, hn, hl => by
    have hlw:whI (St.mk k nm to n0 a v args th el).kind ≤ 1:=by unfold whI;split <;> omega
    have e1:w1 (.mk k nm to n0 a v args th el)=whI (St.mk k nm to n0 a v args th el).kind + wS th + wS el:=by rw [w1];rfl
    rw [walk1,limS_nat _ _ _ _ (by omega) (by omega),e1]
    obtain ⟨z,hz⟩:∃ z,whI (St.mk k nm to n0 a v args th el).kind=z:=⟨_,rfl⟩
    rw [hz] at hlw ⊢
    clear hz e1
    simp only [w64s d (by omega),m1,n1]
    by_cases h0:d ≤ 20 ∧ n + 1 ≤ 200 ∧ l + z ≤ 16
    · have e0 : (decide ((d : Int) ≤ 20) && decide (((n + 1 : Nat) : Int) ≤ 200) && decide (((l + z : Nat) : Int) ≤ 16)) = true := by
        rw [Bool.and_eq_true,Bool.and_eq_true];refine ⟨⟨?_,?_⟩,?_⟩ <;> apply decide_eq_true <;> omega
      rw [e0]
      simp only []
      have t:=walkS_lim th (d + 1) (n + 1) (l + z) (by omega) (by omega) (by omega)
      by_cases h1:mS th (d + 1) ≤ 20 ∧ n + 1 + nS th ≤ 200 ∧ l + z + wS th ≤ 16
      · rw [t.1 h1]
        simp only []
        have u:=walkS_lim el (d + 1) (n + 1 + nS th) (l + z + wS th) (by omega) (by omega) (by omega)
        by_cases h2:mS el (d + 1) ≤ 20 ∧ n + 1 + nS th + nS el ≤ 200 ∧ l + z + wS th + wS el ≤ 16
        · rw [u.1 h2]
          refine ⟨fun _=>?_,fun h=>(h ⟨by omega,by omega,by omega⟩).elim⟩
          rw [show n + 1 + nS th + nS el=n + (1 + nS th + nS el) by omega,show l + z + wS th + wS el=l + (z + wS th + wS el) by omega]
        · refine ⟨fun h=>(h2 ⟨by omega,by omega,by omega⟩).elim,fun _=>u.2 h2⟩
      · refine ⟨fun h => (h1 ⟨by omega, by omega, by omega⟩).elim, fun _ => ?_⟩
        have:=t.2 h1
        generalize walkS limS th _ _=r at this ⊢
        obtain ⟨b,s⟩:=r
        simp only at this
        subst this
        rfl
    · have e0 : (decide ((d : Int) ≤ 20) && decide (((n + 1 : Nat) : Int) ≤ 200) && decide (((l + z : Nat) : Int) ≤ 16)) = false := by
        rw [← Bool.not_eq_true,Bool.and_eq_true,Bool.and_eq_true]
        rintro ⟨⟨a1,a2⟩,a3⟩
        have a1:=of_decide_eq_true a1
        have a2:=of_decide_eq_true a2
        have a3:=of_decide_eq_true a3
        exact h0 ⟨by omega,by omega,by omega⟩
      rw [e0]
      exact ⟨fun h=>(h0 ⟨by omega,by omega,by omega⟩).elim,fun _=>rfl⟩
theorem walkS_lim : ∀ (x : List St) (d n l : Nat), d ≤ 21 → n ≤ 200 → l ≤ 16 →
    ((mS x d ≤ 20 ∧ n + nS x ≤ 200 ∧ l + wS x ≤ 16) → walkS limS x d ((n:Int),(l:Int))=(true,(((n + nS x:Nat):Int),((l + wS x:Nat):Int)))) ∧
    (¬ (mS x d ≤ 20 ∧ n + nS x ≤ 200 ∧ l + wS x ≤ 16) → (walkS limS x d ((n:Int),(l:Int))).1=false)
  | [], d, n, l, hd, hn, hl => by
    rw [walkS,mS,nS,wS]
    exact ⟨fun _=>rfl,fun h=>(h ⟨by omega,by omega,by omega⟩).elim⟩
  | x :: r, d, n, l, hd, hn, hl => by
    rw [walkS,mS,nS,wS]
    have t:=walk1_lim x d n l hd hn hl
    by_cases h1:m1 x d ≤ 20 ∧ n + n1 x ≤ 200 ∧ l + w1 x ≤ 16
    · rw [t.1 h1]
      simp only []
      have u:=walkS_lim r d (n + n1 x) (l + w1 x) hd (by omega) (by omega)
      by_cases h2:mS r d ≤ 20 ∧ n + n1 x + nS r ≤ 200 ∧ l + w1 x + wS r ≤ 16
      · rw [u.1 h2]
        refine ⟨fun _=>?_,fun h=>(h ⟨by omega,by omega,by omega⟩).elim⟩
        rw [show n + n1 x + nS r=n + (n1 x + nS r) by omega,show l + w1 x + wS r=l + (w1 x + wS r) by omega]
      · exact ⟨fun h=>(h2 ⟨by omega,by omega,by omega⟩).elim,fun _=>u.2 h2⟩
    · refine ⟨fun h => (h1 ⟨by omega, by omega, by omega⟩).elim, fun _ => ?_⟩
      have:=t.2 h1
      generalize walk1 limS x _ _=r at this ⊢
      obtain ⟨b,s⟩:=r
      simp only at this
      subst this
      rfl
end
theorem walkS_lim0 (x:List St):(walkS limS x 0 (0,0)).1=(!decide ((200:Int) < nS x) && !decide ((16:Int) < wS x) && !decide ((20:Int) < mS x 0)):=by
 have t:=walkS_lim x 0 0 0 (by omega) (by omega) (by omega)
 rw [show ((0:Nat):Int)=0 from rfl] at t
 simp only [Nat.zero_add] at t
 by_cases h:mS x 0 ≤ 20 ∧ nS x ≤ 200 ∧ wS x ≤ 16
 · rw [t.1 h]
   have h1:¬ (200:Int) < nS x:=by omega
   have h2:¬ (16:Int) < wS x:=by omega
   have h3:¬ (20:Int) < mS x 0:=by omega
   simp [h1,h2,h3]
 · rw [t.2 h]
   symm
   rw [← Bool.not_eq_true,Bool.and_eq_true,Bool.and_eq_true]
   rintro ⟨⟨a1,a2⟩,a3⟩
   simp only [Bool.not_eq_true',decide_eq_false_iff_not] at a1 a2 a3
   exact h ⟨by omega,by omega,by omega⟩
theorem limFn_eq (f:Fu):limFn f=!exFn f:=by
 rw [limFn,exFn,walkFn,walkS_lim0,walkE_lim0,walkS_deep]
 have h1:decide ((f.params.length:Int) ≤ 6)=!decide ((6:Int) < f.params.length):=by
   by_cases h:(6:Int) < f.params.length
   · have : ¬ (f.params.length : Int) ≤ 6 := by omega
     simp [h,this]
   · have : (f.params.length : Int) ≤ 6 := by omega
     simp [h,this]
 have h2:decide ((f.locals.length:Int) ≤ 8)=!decide ((8:Int) < f.locals.length):=by
   by_cases h:(8:Int) < f.locals.length
   · have : ¬ (f.locals.length : Int) ≤ 8 := by omega
     simp [h,this]
   · have : (f.locals.length : Int) ≤ 8 := by omega
     simp [h,this]
 rw [h1,h2]
 simp only [Bool.not_or]
 generalize (!decide ((6:Int) < f.params.length))=a
 generalize (!decide ((8:Int) < f.locals.length))=b
 generalize (!decide ((200:Int) < nS f.body))=c
 generalize (!decide ((16:Int) < wS f.body))=d
 generalize (!decide ((20:Int) < mS f.body 0))=e
 generalize (!deepS f.body)=g
 generalize (!decide ((20:Int) < depE f.value))=h
 cases a <;> cases b <;> cases c <;> cases d <;> cases e <;> cases g <;> cases h <;> rfl
theorem all_not_any {α:Type} (l:List α) (p q:α → Bool) (h:∀ x,p x=!q x):l.all p=!l.any q:=by
 induction l with
 | nil=>rfl
 | cons a l ih=>rw [List.all_cons,List.any_cons,Bool.not_or,h,ih]
theorem limP_eq (p:Pr):limP p=!exB p:=by
 rw [limP,exB,all_not_any p.funcs limFn exFn limFn_eq,all_not_any p.arrays _ exAr (fun a=>by rw [exAr,Bool.not_or])]
 simp only [Bool.not_or]
end Go.Proofs.Ytackdnelcpbfjaa
namespace Go.Ab
set_option maxRecDepth 20000
open Go
abbrev Nm:=List UInt8
def lkV:List (Nm × Int) → Nm → Int
 | [],_=>0
 | p :: l,nm=>if nm=p.1 then p.2 else lkV l nm
def setV:List (Nm × Int) → Nm → Int → List (Nm × Int)
 | [],nm,x=>[(nm,x)]
 | p :: l,nm,x=>if nm=p.1 then (nm,x) :: l else p :: setV l nm x
section
variable (p:Pr) (fi:List (Nm × Int))
end
def vEs (vs:List (Nm × Int)):List (AV × AV):=vs.map fun p=>(.str p.1,.int .i64 p.2)
theorem find_vEs (nm : Nm) : ∀ (vs : List (Nm × Int)) (i : Nat), (findA .string (.str nm) (vEs vs) i = some none ∧ lkV vs nm = 0 ∧ ∀ x, vEs (setV vs nm x) = vEs vs ++ [(.str nm, .int .i64 x)]) ∨
    ∃ j,j < vs.length ∧ findA .string (.str nm) (vEs vs) i=some (some (i + j,.int .i64 (lkV vs nm))) ∧ ∀ x,vEs (setV vs nm x)=(vEs vs).set j (.str nm,.int .i64 x)
  | [],i=>.inl ⟨rfl,rfl,fun _=>rfl⟩
  | p :: l, i => by
    by_cases h:nm=p.1
    · refine .inr ⟨0, by simp, ?_, fun x => ?_⟩
      · simp [vEs,findA,keyA,lkV,h]
      · simp [vEs,setV,h]
    · have hf : findA .string (.str nm) (vEs (p :: l)) i = findA .string (.str nm) (vEs l) (i + 1) := by
        show findA .string (.str nm) ((.str p.1,.int .i64 p.2) :: vEs l) i=_
        have:(nm == p.1)=false:=by simpa using h
        simp [findA,keyA,this]
      have hl:lkV (p :: l) nm=lkV l nm:=by simp [lkV,h]
      have hs:∀ x,vEs (setV (p :: l) nm x)=(.str p.1,.int .i64 p.2) :: vEs (setV l nm x):=fun x=>by simp [setV,h,vEs]
      rw [hf,hl]
      rcases find_vEs nm l (i + 1) with ⟨h1,h2,h3⟩|⟨j,hj,h1,h3⟩
      · refine .inl ⟨h1, h2, fun x => ?_⟩
        rw [hs,h3];simp [vEs]
      · refine .inr ⟨j + 1, by simp; omega, ?_, fun x => ?_⟩
        · rw [h1,show i + 1 + j=i + (j + 1) by omega]
        · rw [hs,h3];simp [vEs]
end Go.Ab
namespace Go.Ab
set_option maxRecDepth 20000
open Go
theorem lookup_map {P:Program} {H:Hp} {t kt e r:Nat} {es:List (AV × AV)} {nm:Nm} {z:AV} (ht:P.underlying t=some (.map kt e)) (hk:keyKind P kt=some .string) (hz:zeroV P e=some z) (hg:H.get r=some (.map es)) :
   (findA .string (.str nm) es 0=some none → lookupA P H t (.map r) (.str nm) false=some z) ∧ ∀ i v,findA .string (.str nm) es 0=some (some (i,v)) → lookupA P H t (.map r) (.str nm) false=some v:=by
 refine ⟨fun h=>?_,fun i v h=>?_⟩ <;> simp only [lookupA,ht,hk,hz,entriesA,hg,h,okOr]
theorem update_map {P:Program} {H:Hp} {t kt e r:Nat} {es:List (AV × AV)} {nm:Nm} {x:AV} (ht:P.underlying t=some (.map kt e)) (hk:keyKind P kt=some .string) (hg:H.get r=some (.map es)) :
   (findA .string (.str nm) es 0=some none → mapUpdateA P H t (.map r) (.str nm) x=some (H.set r (.map (es ++ [(.str nm,x)])))) ∧ ∀ i v,findA .string (.str nm) es 0=some (some (i,v)) → mapUpdateA P H t (.map r) (.str nm) x=some (H.set r (.map (es.set i (.str nm,x)))):=by
 refine ⟨fun h=>?_,fun i v h=>?_⟩ <;> simp only [mapUpdateA,ht,hk,hg,h]
theorem upd_vEs {P:Program} {H:Hp} {t kt e r:Nat} (ht:P.underlying t=some (.map kt e)) (hk:keyKind P kt=some .string) {vs:List (Nm × Int)} (hg:H.get r=some (.map (vEs vs))) (nm:Nm) (x:Int) :
   mapUpdateA P H t (.map r) (.str nm) (.int .i64 x)=some (H.set r (.map (vEs (setV vs nm x)))):=by
 obtain ⟨l1,l2⟩:=update_map (nm:=nm) (x:=.int .i64 x) ht hk hg
 rcases find_vEs nm vs 0 with ⟨h1,h2,h3⟩|⟨j,hj,h1,h3⟩
 · rw [l1 h1,h3]
 · rw [l2 _ _ h1,h3,Nat.zero_add]
end Go.Ab
namespace Go.Ab
set_option maxRecDepth 20000
open Go
def hasV:List (Nm × Int) → Nm → Bool
 | [],_=>false
 | p :: l,nm=>if nm=p.1 then true else hasV l nm
theorem find_has (nm : Nm) : ∀ (vs : List (Nm × Int)) (i : Nat), (hasV vs nm = false → findA .string (.str nm) (vEs vs) i = some none ∧ lkV vs nm = 0) ∧ (hasV vs nm = true → ∃ j, findA .string (.str nm) (vEs vs) i = some (some (j, .int .i64 (lkV vs nm))))
  | [],i=>⟨fun _=>⟨rfl,rfl⟩,fun h=>by simp [hasV] at h⟩
  | p :: l, i => by
    by_cases h:nm=p.1
    · refine ⟨fun h2 => by simp [hasV, h] at h2, fun _ => ⟨i, ?_⟩⟩
      simp [vEs,findA,keyA,lkV,h]
    · have hf : findA .string (.str nm) (vEs (p :: l)) i = findA .string (.str nm) (vEs l) (i + 1) := by
        show findA .string (.str nm) ((.str p.1,.int .i64 p.2) :: vEs l) i=_
        have:(nm == p.1)=false:=by simpa using h
        simp [findA,keyA,this]
      have hl:lkV (p :: l) nm=lkV l nm:=by simp [lkV,h]
      have hh:hasV (p :: l) nm=hasV l nm:=by simp [hasV,h]
      rw [hf,hl,hh]
      exact find_has nm l (i + 1)
theorem look_ok {P:Program} {H:Hp} {t kt e r:Nat} (ht:P.underlying t=some (.map kt e)) (hk:keyKind P kt=some .string) (hz:zeroV P e=some (.int .i64 0)) {vs:List (Nm × Int)} (hg:H.get r=some (.map (vEs vs))) (nm:Nm) :
   lookupA P H t (.map r) (.str nm) true=some (.tup [.int .i64 (lkV vs nm),.bool (hasV vs nm)]):=by
 obtain ⟨h1,h2⟩:=find_has nm vs 0
 cases hh:hasV vs nm with
 | false =>
   obtain ⟨g1,g2⟩:=h1 hh
   simp only [lookupA,ht,hk,hz,entriesA,hg,g1,okOr,g2]
 | true =>
   obtain ⟨j,g1⟩:=h2 hh
   simp only [lookupA,ht,hk,entriesA,hg,g1,okOr]
end Go.Ab
namespace Go.Proofs.Ytackdnelcpbfjaa
set_option maxRecDepth 20000
open Go Go.Ab
def fnNms (p:Pr):List (List UInt8):=p.funcs.map (·.name)
def dupB (p:Pr):Bool:=dupFrom [] (arNames p) || dupFrom [] (fnNms p) || p.funcs.any fun f=>dupFrom [] (arNames p ++ (f.params ++ f.locals))
theorem dupFrom_append:∀ (a b seen:List (List UInt8)),dupFrom seen (a ++ b)=(dupFrom seen a || dupFrom (seen ++ a) b)
 | [],b,seen=>by simp [dupFrom]
 | x :: a,b,seen=>by rw [List.cons_append,dupFrom,dupFrom,dupFrom_append a b,List.append_assoc,List.singleton_append,Bool.or_assoc]
theorem dupFns_eq (an:List (List UInt8)):∀ (fs:List Fu) (seen:List (List UInt8)),dupFns an seen fs=(dupFrom seen (fs.map (·.name)) || fs.any fun f=>dupFrom an (f.params ++ f.locals))
 | [],seen=>rfl
 | f :: fs, seen => by
   rw [dupFns,List.map_cons,dupFrom,List.any_cons,dupFns_eq an fs]
   cases hasS seen f.name <;> cases dupFrom an (f.params ++ f.locals) <;> cases dupFrom (seen ++ [f.name]) (fs.map (·.name)) <;> rfl
theorem dupB_eq (p:Pr):dupB p=dupP p:=by
 rw [dupB,dupP,dupFns_eq]
 cases h:dupFrom [] (arNames p)
 · have e : (fun f : Fu => dupFrom [] (arNames p ++ (f.params ++ f.locals))) = fun f => dupFrom (arNames p) (f.params ++ f.locals) := by
     funext f;rw [dupFrom_append,h];rfl
   rw [e];rfl
 · rfl
def fnPar:List Fu → List (Nm × Int) → List (Nm × Int)
 | [],m=>m
 | f :: l,m=>fnPar l (setV m f.name f.params.length)
theorem lk_set (s a:Nm) (x:Int):∀ m:List (Nm × Int),lkV (setV m a x) s=if s=a then x else lkV m s
 | []=>by simp [setV,lkV]
 | q :: l => by
   by_cases h:a=q.1
   · simp only [setV, h, if_true, lkV]
     split <;> rfl
   · simp only [setV, h, if_false, lkV, lk_set s a x l]
     by_cases h2:s=q.1
     · rw [if_pos h2,if_pos h2,if_neg (fun e=>h (by rw [← e,h2]))]
     · rw [if_neg h2,if_neg h2]
theorem has_set (s a:Nm) (x:Int):∀ m:List (Nm × Int),hasV (setV m a x) s=(decide (s=a) || hasV m s)
 | [] => by
   by_cases h:s=a <;> simp [setV,hasV,h]
 | q :: l => by
   by_cases h:a=q.1
   · by_cases h2:s=q.1 <;> simp [setV,hasV,h,h2]
   · have e := has_set s a x l
     by_cases h2:s=q.1
     · simp [setV,hasV,h,h2]
     · simp [setV,hasV,h,h2,e]
theorem hasS_append (a b:List (List UInt8)) (s:List UInt8):hasS (a ++ b) s=(hasS a s || hasS b s):=by unfold hasS;rw [List.any_append]
theorem hasS_one (a s:List UInt8):hasS [a] s=decide (s=a):=by
 unfold hasS;simp only [List.any_cons,List.any_nil,Bool.or_false]
 by_cases h:s=a
 · simp [h]
 · have : ¬ a = s := fun e => h e.symm
   simp [h,this]
theorem fnPar_has (s:Nm):∀ (l:List Fu) (m:List (Nm × Int)),hasV (fnPar l m) s=(hasV m s || hasS (l.map (·.name)) s)
 | [],m=>by simp [fnPar,hasS]
 | f :: l, m => by
   rw [fnPar,fnPar_has s l,has_set,List.map_cons,show f.name :: l.map (·.name)=[f.name] ++ l.map (·.name) from rfl,hasS_append,hasS_one]
   cases decide (s=f.name) <;> cases hasV m s <;> simp
theorem fnPar_not (s:Nm):∀ (l:List Fu) (m:List (Nm × Int)),hasS (l.map (·.name)) s=false → lkV (fnPar l m) s=lkV m s
 | [],m,_=>rfl
 | f :: l, m, h => by
   rw [List.map_cons,show f.name :: l.map (·.name)=[f.name] ++ l.map (·.name) from rfl,hasS_append,hasS_one,Bool.or_eq_false_iff,decide_eq_false_iff_not] at h
   rw [fnPar,fnPar_not s l _ h.2,lk_set,if_neg h.1]
theorem dupFrom_not:∀ (l seen:List (List UInt8)),dupFrom seen l=false → ∀ s,hasS seen s=true → hasS l s=false
 | [],_,_,_,_=>rfl
 | a :: l, seen, h, s, hs => by
   rw [dupFrom,Bool.or_eq_false_iff] at h
   rw [show a :: l=[a] ++ l from rfl,hasS_append,hasS_one,dupFrom_not l _ h.2 s (by rw [hasS_append,hs];rfl),Bool.or_false,decide_eq_false_iff_not]
   intro e;rw [← e] at h;rw [hs] at h;simp at h
theorem findF_none:∀ (l:List Fu) (s:List UInt8) (i:Int),0 ≤ i → (hasS (l.map (·.name)) s=decide (0 ≤ findF l s i))
 | [],s,i,_=>by simp [hasS,findF]
 | f :: l, s, i, hi => by
   rw [List.map_cons,show f.name :: l.map (·.name)=[f.name] ++ l.map (·.name) from rfl,hasS_append,hasS_one,findF]
   by_cases h:f.name=s
   · rw [if_pos h,decide_eq_true h.symm,Bool.true_or];simpa using hi
   · rw [if_neg h,decide_eq_false (fun e=>h e.symm),Bool.false_or,findF_none l s (i + 1) (by omega)]
theorem parN_find (p : Pr) (s : Nm) : ∀ (l : List Fu) (seen : List (List UInt8)) (m : List (Nm × Int)) (i : Nat), p.funcs.drop i = l → dupFrom seen (l.map (·.name)) = false → 0 ≤ findF l s i →
    ∃ f,p.funcs[(findF l s i).toNat]?=some f ∧ lkV (fnPar l m) s=f.params.length
  | [],_,_,i,_,_,h=>by simp [findF] at h
  | f :: l, seen, m, i, hd, hn, h => by
    have hlt:i < p.funcs.length:=by
      have:=congrArg List.length hd;simp at this;omega
    rw [List.drop_eq_getElem_cons hlt,List.cons.injEq] at hd
    rw [List.map_cons,dupFrom,Bool.or_eq_false_iff] at hn
    rw [findF] at h ⊢
    by_cases e:f.name=s
    · rw [if_pos e]
      refine ⟨f,?_,?_⟩
      · rw [Int.toNat_natCast,List.getElem?_eq_getElem hlt,hd.1]
      · have h3 : hasS (l.map (·.name)) s = false := dupFrom_not _ _ hn.2 s (by rw [hasS_append, hasS_one, decide_eq_true e.symm, Bool.or_true])
        rw [fnPar,fnPar_not s l _ h3,lk_set,if_pos e.symm]
    · rw [if_neg e] at h ⊢
      exact parN_find p s l (seen ++ [f.name]) _ (i + 1) hd.2 hn.2 h
theorem hasV_fn (p:Pr) (s:Nm):hasV (fnPar p.funcs []) s=decide (0 ≤ findF p.funcs s 0):=by
 rw [fnPar_has,findF_none _ _ 0 (by omega)];rfl
theorem lkV_fn {p:Pr} (hd:dupFrom [] (fnNms p)=false) {s:Nm} (h:0 ≤ findF p.funcs s 0):lkV (fnPar p.funcs []) s=parN p s:=by
 obtain ⟨f,h1,h2⟩:=parN_find p s p.funcs [] [] 0 rfl hd h
 have h1':p.funcs[(findF p.funcs s 0).toNat]?=some f:=h1
 rw [h2,parN,h1'];rfl
def rsS (fm:List (Nm × Int)) (vs an:List (List UInt8)) (x:St) (_:Int) (w:Bool):Bool × Bool:=
 if x.kind=1 then (hasS vs x.name,w)
 else if x.kind=2 then (hasS an x.name,w)
 else if x.kind=6 then (hasV fm x.to && hasS vs x.name,w || (hasV fm x.to && !decide (lkV fm x.to=(x.args.length:Int))))
 else (true,w)
def resFns (fm:List (Nm × Int)) (an:List (List UInt8)):List Fu → Bool → Int
 | [],w=>if w=true then 5 else 0
 | f :: fs,w=>if walkFn (fun x _=>defX (f.params ++ f.locals) an x) f=true ∧ (walkS (rsS fm (f.params ++ f.locals) an) f.body 0 w).1=true then resFns fm an fs (walkS (rsS fm (f.params ++ f.locals) an) f.body 0 w).2 else 3
def resP (p:Pr):Int:=resFns (fnPar p.funcs []) (arNames p) p.funcs false
def proCheck (p:Pr):Int:=if limP p=false then 6 else if wfP p=false then 2 else if dupB p=true then 4 else resP p
mutual
theorem walkE_def (vs an:List (List UInt8)):∀ (x:Ex) (d:Int),walkE (fun x _=>defX vs an x) x d=defE vs an x
 | .mk k n s o ks,d=>by rw [walkE,defE,walkEs_def vs an ks,Bool.and_comm]
theorem walkEs_def (vs an:List (List UInt8)):∀ (l:List Ex) (d:Int),walkEs (fun x _=>defX vs an x) l d=defEs vs an l
 | [],_=>rfl
 | x :: l,d=>by rw [walkEs,defEs,walkE_def vs an x,walkEs_def vs an l]
end
section
variable (c:Sc)
mutual
def exOk1:St → Bool
 | .mk _ _ _ _ a v args th el=>defE c.vars c.an a && defE c.vars c.an v && defEs c.vars c.an args && exOkS th && exOkS el
def exOkS:List St → Bool
 | []=>true
 | x :: l=>exOk1 x && exOkS l
end
mutual
def nmOk1:St → Bool
 | .mk k nm to n a v args th el=>defStK c (.mk k nm to n a v args th el) && nmOkS th && nmOkS el
def nmOkS:List St → Bool
 | []=>true
 | x :: l=>nmOk1 x && nmOkS l
end
mutual
theorem walk1_e:∀ (x:St) (d:Int),walk1 (inSt fun x _=>defX c.vars c.an x) x d ()=(exOk1 c x,())
 | .mk k nm to n a v args th el, d => by
   rw [walk1,inSt,exOk1]
   simp only [St.at_,St.value,St.args,walkE_def,walkEs_def]
   cases h:defE c.vars c.an a && defE c.vars c.an v && defEs c.vars c.an args
   · simp
   · simp only [walkS_e th, Bool.true_and]
     cases h2:exOkS c th
     · simp
     · simp only [walkS_e el,Bool.true_and]
theorem walkS_e:∀ (l:List St) (d:Int),walkS (inSt fun x _=>defX c.vars c.an x) l d ()=(exOkS c l,())
 | [],_=>rfl
 | x :: l, d => by
   rw [walkS,walk1_e x,exOkS]
   cases h:exOk1 c x
   · simp
   · simp only [walkS_e l,Bool.true_and]
end
mutual
theorem chk1_ek:∀ x:St,chk1 c false x=(exOk1 c x && nmOk1 c x)
 | .mk k nm to n a v args th el => by
   rw [chk1,exOk1,nmOk1,chkS_ek th,chkS_ek el,cond_false,defStX]
   simp only [St.at_,St.value,St.args]
   cases defE c.vars c.an a <;> cases defE c.vars c.an v <;> cases defEs c.vars c.an args <;> cases defStK c (.mk k nm to n a v args th el) <;> cases exOkS c th <;> cases nmOkS c th <;> cases exOkS c el <;> cases nmOkS c el <;> rfl
theorem chkS_ek:∀ l:List St,chkS c false l=(exOkS c l && nmOkS c l)
 | []=>rfl
 | x :: l => by
   rw [chkS,exOkS,nmOkS,chk1_ek x,chkS_ek l]
   cases exOk1 c x <;> cases nmOk1 c x <;> cases exOkS c l <;> cases nmOkS c l <;> rfl
end
end
theorem rsS_k {p : Pr} (hd : dupFrom [] (fnNms p) = false) (c : Sc) (hc : c.p = p) (x : St) (d : Int) (w : Bool) :
    (defStK c x=true → rsS (fnPar p.funcs []) c.vars c.an x d w=(true,w || !arK p x)) ∧ (defStK c x=false → (rsS (fnPar p.funcs []) c.vars c.an x d w).1=false):=by
  unfold rsS defStK arK
  rw [hc]
  by_cases h1:x.kind=1
  · have h6 : ¬ x.kind = 6 := by omega
    simp only [h1,if_true,Int.reduceEq,decide_false,Bool.false_and,Bool.not_false,Bool.not_true,Bool.or_false]
    exact ⟨fun h=>by rw [h],fun h=>h⟩
  · by_cases h6 : x.kind = 6
    · simp only [h6, Int.reduceEq, if_false, if_true, decide_true, Bool.true_and, Bool.not_not, hasV_fn]
      cases h:decide (0 ≤ findF p.funcs x.to 0)
      · simp
      · rw [lkV_fn hd (of_decide_eq_true h), Bool.and_true, Bool.true_and, Bool.true_and]
        refine ⟨fun h=>?_,fun h=>h⟩
        rw [h]
        have e:decide ((parN p x.to:Int)=(x.args.length:Int))=decide ((x.args.length:Int)=(parN p x.to:Int)):=by
          by_cases q:(parN p x.to:Int)=(x.args.length:Int)
          · rw [decide_eq_true q,decide_eq_true q.symm]
          · rw [decide_eq_false q,decide_eq_false (fun e=>q e.symm)]
        rw [e]
    · by_cases h2 : x.kind = 2
      · simp only [h2, Int.reduceEq, if_false, if_true, decide_false, Bool.false_and, Bool.not_false, Bool.not_true, Bool.or_false]
        exact ⟨fun h=>by rw [h],fun h=>h⟩
      · simp only [h1, h2, h6, if_false, decide_false, Bool.false_and, Bool.not_false, Bool.not_true, Bool.or_false]
        exact ⟨fun _=>by simp,fun h=>by simp at h⟩
section
variable {p:Pr} (hd:dupFrom [] (fnNms p)=false) (c:Sc) (hc:c.p=p)
include hd hc
mutual
theorem walk1_k : ∀ (x : St) (d : Int) (w : Bool), (nmOk1 c x = true → walk1 (rsS (fnPar p.funcs []) c.vars c.an) x d w = (true, w || !chk1 c true x)) ∧ (nmOk1 c x = false → (walk1 (rsS (fnPar p.funcs []) c.vars c.an) x d w).1 = false)
  | .mk k nm to n a v args th el, d, w => by
    have h0:=rsS_k hd c hc (.mk k nm to n a v args th el) d w
    rw [walk1,nmOk1,chk1,cond_true,hc]
    cases e0:defStK c (.mk k nm to n a v args th el)
    · have := h0.2 e0
      generalize rsS _ _ _ _ _ _=r at this ⊢
      obtain ⟨b,s⟩:=r
      simp only at this
      subst this
      simp
    · rw [h0.1 e0]
      simp only [Bool.true_and]
      have h1:=walkS_k th (w64 (d + 1)) (w || !arK p (.mk k nm to n a v args th el))
      cases e1:nmOkS c th
      · have := h1.2 e1
        generalize walkS _ th _ _=r at this ⊢
        obtain ⟨b,s⟩:=r
        simp only at this
        subst this
        simp
      · rw [h1.1 e1]
        simp only [Bool.true_and]
        have h2:=walkS_k el (w64 (d + 1)) ((w || !arK p (.mk k nm to n a v args th el)) || !chkS c true th)
        cases e2:nmOkS c el
        · exact ⟨fun h=>by simp at h,fun _=>h2.2 e2⟩
        · refine ⟨fun _ => ?_, fun h => by simp at h⟩
          rw [h2.1 e2]
          congr 1
          cases w <;> cases arK p (.mk k nm to n a v args th el) <;> cases chkS c true th <;> cases chkS c true el <;> rfl
theorem walkS_k : ∀ (l : List St) (d : Int) (w : Bool), (nmOkS c l = true → walkS (rsS (fnPar p.funcs []) c.vars c.an) l d w = (true, w || !chkS c true l)) ∧ (nmOkS c l = false → (walkS (rsS (fnPar p.funcs []) c.vars c.an) l d w).1 = false)
  | [], d, w => by
    rw [walkS,nmOkS,chkS]
    exact ⟨fun _=>by simp,fun h=>by simp at h⟩
  | x :: l, d, w => by
    have h0:=walk1_k x d w
    rw [walkS,nmOkS,chkS]
    cases e0:nmOk1 c x
    · have := h0.2 e0
      generalize walk1 _ x _ _=r at this ⊢
      obtain ⟨b,s⟩:=r
      simp only at this
      subst this
      simp
    · rw [h0.1 e0]
      simp only [Bool.true_and]
      have h2:=walkS_k l d (w || !chk1 c true x)
      cases e2:nmOkS c l
      · exact ⟨fun h=>by simp at h,fun _=>h2.2 e2⟩
      · refine ⟨fun _ => ?_, fun h => by simp at h⟩
        rw [h2.1 e2]
        congr 1
        cases w <;> cases chk1 c true x <;> cases chkS c true l <;> rfl
end
end
theorem resFns_eq {p : Pr} (hd : dupFrom [] (fnNms p) = false) : ∀ (l : List Fu) (w : Bool), resFns (fnPar p.funcs []) (arNames p) l w = if l.any (undFn p) = true then 3 else if (w || l.any (badFn p)) = true then 5 else 0
  | [],w=>by simp [resFns]
  | f :: fs, w => by
    have hk:=walkS_k hd (scOf p f) rfl f.body 0 w
    have hv:(scOf p f).vars=f.params ++ f.locals:=rfl
    have ha:(scOf p f).an=arNames p:=rfl
    rw [hv,ha] at hk
    have he:walkFn (fun x _=>defX (f.params ++ f.locals) (arNames p) x) f=(defE (f.params ++ f.locals) (arNames p) f.value && exOkS (scOf p f) f.body):=by
      rw [walkFn,walkE_def]
      have:=walkS_e (scOf p f) f.body 0
      rw [hv,ha] at this
      rw [this]
    have hu:undFn p f=!(walkFn (fun x _=>defX (f.params ++ f.locals) (arNames p) x) f && nmOkS (scOf p f) f.body):=by
      rw [undFn,he,chkS_ek,hv,ha]
      cases defE (f.params ++ f.locals) (arNames p) f.value <;> cases exOkS (scOf p f) f.body <;> cases nmOkS (scOf p f) f.body <;> rfl
    rw [resFns,List.any_cons,List.any_cons,hu]
    cases h1:walkFn (fun x _=>defX (f.params ++ f.locals) (arNames p) x) f
    · simp
    · cases h2 : nmOkS (scOf p f) f.body
      · simp [hk.2 h2]
      · rw [hk.1 h2]
        simp only [and_self,if_true,Bool.and_self,Bool.not_true,Bool.false_or]
        rw [resFns_eq hd fs]
        congr 2
        rw [badFn]
        cases w <;> simp
theorem proCheck_eq (p : Pr) : proCheck p = refCheck p := by
  unfold proCheck refCheck
  rw [limP_eq,dupB_eq]
  cases h1:exB p
  · simp only [Bool.not_false, Bool.true_eq_false, Bool.false_eq_true, if_false]
    cases h2:wfP p
    · rfl
    · simp only [Bool.true_eq_false, if_false]
      cases h3:dupP p
      · simp only [Bool.false_eq_true, if_false]
        have hd:dupFrom [] (fnNms p)=false:=by
          rw [← dupB_eq,dupB,Bool.or_eq_false_iff,Bool.or_eq_false_iff] at h3
          exact h3.1.2
        rw [resP,resFns_eq hd]
        simp
      · rfl
  · rfl
end Go.Proofs.Ytackdnelcpbfjaa
namespace Go.Proofs.Ytackdnelcpbfjaa
set_option maxRecDepth 20000
open Go Go.Ab
def anG:List (List UInt8):=[[97],[98]]
theorem nms_in (f:Int) {m:Int} (h:0 ≤ m):(nmsG f).getD (m.tmod (nmsG f).length).toNat [] ∈ nmsG f:=by
 have hl:((nmsG f).length:Int) ≠ 0:=by unfold nmsG;split <;> simp
 have:=(getD_tmod (nmsG f) hl h []).2
 exact List.mem_of_getElem? this
theorem nms_ok (f:Int) {s:List UInt8} (h:s ∈ nmsG f):nameB s=true ∧ hasS (nmsG f) s=true:=by
 unfold nmsG at h ⊢
 split at h <;> simp only [List.mem_cons,List.not_mem_nil,or_false] at h
 · rename_i e
   rw [if_pos e]
   rcases h with rfl|rfl|rfl|rfl <;> exact ⟨by kernel_rfl,by kernel_rfl⟩
 · rename_i e
   rw [if_neg e]
   rcases h with rfl|rfl <;> exact ⟨by kernel_rfl,by kernel_rfl⟩
theorem arr_ok (m:Int):nameB (arrG m)=true ∧ hasS anG (arrG m)=true:=by
 unfold arrG
 split <;> exact ⟨by kernel_rfl,by kernel_rfl⟩
theorem fg_ok (m:Int):nameB (fgG m)=true:=by
 unfold fgG
 split <;> kernel_rfl
structure ExOk (f:Int) (k:Nat) (x:Ex):Prop where
 wf:wfE x=true
 df:defE (nmsG f) anG x=true
 dp:depE x ≤ k
theorem exprG_ok (f : Int) : ∀ (k deep : Nat) (L : List Int), 5 ≤ deep + k → deep ≤ 4 → ExOk f k (exprG f k deep L).1
  | 0,deep,L,h1,h2=>by omega
  | k + 1, deep, L, h1, h2 => by
    have ih:deep ≤ 3 → ∀ L,ExOk f k (exprG f k (deep + 1) L).1:=fun hd L=>exprG_ok f k (deep + 1) L (by omega) (by omega)
    have hq:=pickG_range (n:=(nextG L).1) (m:=16) (by omega) (by omega)
    have hm:=pickG_range (n:=w64 ((nextG L).1.tdiv 16)) (m:=1000) (by omega) (by omega)
    simp only [exprG]
    generalize pickG (nextG L).1 16=q at hq ⊢
    generalize pickG (w64 ((nextG L).1.tdiv 16)) 1000=m at hm ⊢
    split
    · split
      · obtain ⟨n1, n2⟩ := nms_ok f (nms_in f hm.1)
        generalize (nmsG f).getD (m.tmod (nmsG f).length).toNat []=nm at n1 n2 ⊢
        refine ⟨?_,?_,by simp [depE,depEs]⟩
        · simp [wfE,wfEs,wfX,Ex.kind,Ex.kids,Ex.n,Ex.op,Ex.name,n1]
        · simp [defE,defEs,defX,Ex.kind,Ex.name,n2]
      · exact ⟨by simp [wfE,wfEs,wfX,Ex.kind,Ex.kids,Ex.n,Ex.op,Ex.name],by simp [defE,defEs,defX,Ex.kind,Ex.name],by simp [depE,depEs]⟩
    · rename_i hn
      have hd:deep ≤ 3:=by omega
      have ih:=ih hd
      obtain ⟨a1,a2⟩:=arr_ok m
      split
      · have i1 := ih (nextG L).2
        refine ⟨?_,?_,?_⟩
        · simp [wfE,wfEs,wfX,Ex.kind,Ex.kids,Ex.n,Ex.op,Ex.name,a1,i1.wf]
        · simp [defE,defEs,defX,Ex.kind,Ex.name,a2,i1.df]
        · have:=i1.dp;simp only [depE,depEs];omega
      · split
        · have i1 := ih (nextG L).2
          have i2:=ih (exprG f k (deep + 1) (nextG L).2).2
          have i3:=ih (exprG f k (deep + 1) (exprG f k (deep + 1) (nextG L).2).2).2
          refine ⟨?_,?_,?_⟩
          · simp [wfE,wfEs,wfX,Ex.kind,Ex.kids,Ex.n,Ex.op,Ex.name,i1.wf,i2.wf,i3.wf]
          · simp [defE,defEs,defX,Ex.kind,Ex.name,i1.df,i2.df,i3.df]
          · have:=i1.dp;have:=i2.dp;have:=i3.dp;simp only [depE,depEs];omega
        · split
          · have i1 := ih (nextG L).2
            have ho:op2G m=20 ∨ op2G m=21:=by unfold op2G;split <;> simp
            refine ⟨?_,?_,?_⟩
            · rcases ho with ho|ho <;> simp [wfE,wfEs,wfX,Ex.kind,Ex.kids,Ex.n,Ex.op,Ex.name,i1.wf,ho]
            · simp [defE,defEs,defX,Ex.kind,Ex.name,i1.df]
            · have:=i1.dp;simp only [depE,depEs];omega
          · have i1 := ih (nextG L).2
            have i2:=ih (exprG f k (deep + 1) (nextG L).2).2
            have t1:=Int.tmod_nonneg 15 hm.1
            have t2:=Int.tmod_lt_of_pos m (show (0:Int) < 15 by omega)
            have ho:isBinB (w64 (4 + m.tmod 15))=true:=by
              unfold w64;rw [i64_id (by omega) (by omega)]
              simp only [isBinB,Bool.and_eq_true,decide_eq_true_eq];omega
            refine ⟨?_,?_,?_⟩
            · simp [wfE,wfEs,wfX,Ex.kind,Ex.kids,Ex.n,Ex.op,Ex.name,i1.wf,i2.wf,ho]
            · simp [defE,defEs,defX,Ex.kind,Ex.name,i1.df,i2.df]
            · have:=i1.dp;have:=i2.dp;simp only [depE,depEs];omega
theorem argsG_ok (f:Int):∀ (n:Nat) (L:List Int),wfEs (argsG f n L).1=true ∧ defEs (nmsG f) anG (argsG f n L).1=true ∧ ((argsG f n L).1.any fun e=>decide ((20:Int) < depE e))=false ∧ (argsG f n L).1.length=n
 | 0,_=>⟨rfl,rfl,rfl,rfl⟩
 | n + 1, L => by
   obtain ⟨h1,h2,h3,h4⟩:=argsG_ok f n (exprG f 3 2 L).2
   have h:=exprG_ok f 3 2 L (by omega) (by omega)
   have hd:¬ (20:Int) < depE (exprG f 3 2 L).1:=by have:=h.dp;omega
   refine ⟨?_,?_,?_,?_⟩
   · rw [argsG,wfEs,h.wf,h1];rfl
   · rw [argsG,defEs,h.df,h2];rfl
   · rw [argsG,List.any_cons,h3,decide_eq_false hd];rfl
   · rw [argsG,List.length_cons,h4]
structure ScG (f:Int) (c:Sc):Prop where
 vars:c.vars=nmsG f
 an:c.an=anG
 to:∀ m:Int,0 ≤ m → 0 ≤ findF c.p.funcs (fgG m) 0 ∧ ((2 - m.tmod 2).toNat=parN c.p (fgG m))
structure StOk (c:Sc) (k:Nat) (s:Sd) (x:St) (t:Sd):Prop where
 wf:wfSt x=true
 df:chk1 c false x=true
 ar:chk1 c true x=true
 dp:deep1 x=false
 n:n1 x + t.1.length ≤ s.1.length
 w:(w1 x:Int) + s.2=t.2
 wb:t.2 ≤ 10
 m:∀ d,m1 x d ≤ d + k
structure StsOk (c:Sc) (k:Nat) (s:Sd) (l:List St) (t:Sd):Prop where
 wf:wfSs l=true
 df:chkS c false l=true
 ar:chkS c true l=true
 dp:deepS l=false
 n:nS l + t.1.length ≤ s.1.length
 w:(wS l:Int) + s.2=t.2
 wb:t.2 ≤ 10
 m:∀ d,mS l d ≤ d + k
theorem stsG_ok {c : Sc} {k : Nat} {step : Sd → St × Sd} (h : ∀ s : Sd, s.1 ≠ [] → 0 ≤ s.2 → s.2 ≤ 10 → StOk c k s (step s).1 (step s).2) : ∀ (n : Nat) (s : Sd), 0 ≤ s.2 → s.2 ≤ 10 → StsOk c k s (stsG step n s).1 (stsG step n s).2
  | 0,s,h0,h1=>⟨rfl,rfl,rfl,rfl,by simp [stsG,nS],by simp [stsG,wS],h1,fun d=>by simp [stsG,mS]⟩
  | n + 1, s, h0, h1 => by
    rw [stsG]
    by_cases hs:s.1=[]
    · rw [if_pos hs]
      exact ⟨rfl,rfl,rfl,rfl,by simp [nS],by simp [wS],h1,fun d=>by simp [mS]⟩
    · rw [if_neg hs]
      have a:=h s hs h0 h1
      have aw:=a.w
      have b:=stsG_ok h n (step s).2 (by omega) a.wb
      have bw:=b.w
      have an:=a.n
      have bn:=b.n
      refine ⟨?_,?_,?_,?_,?_,?_,b.wb,fun d=>?_⟩
      · simp only [wfSs,a.wf,b.wf];rfl
      · simp only [chkS,a.df,b.df];rfl
      · simp only [chkS,a.ar,b.ar];rfl
      · simp only [deepS,a.dp,b.dp];rfl
      · simp only [nS];omega
      · simp only [wS];omega
      · have := a.m d; have := b.m d
        simp only [mS];omega
theorem zE_ok (f:Int):zeroE zE=true ∧ defE (nmsG f) anG zE=true ∧ depE zE=0:=⟨by simp [zeroE,zE,Ex.kind,Ex.n,Ex.op,Ex.name,Ex.kids],by simp [zE,defE,defEs,defX,Ex.kind],by simp [zE,depE,depEs]⟩
theorem stmtT_ok {f:Int} {c:Sc} (hc:ScG f c) {k:Nat} {sub:Int → Sd → List St × Sd} {s:Sd} {L1:List Int} {q m:Int} (hL:L1.length < s.1.length) (hm:0 ≤ m) (hm1:m < 1000) (h0:0 ≤ s.2) (h1:s.2 ≤ 10) (hq:10 ≤ q → s.2 < 10) (hq0:0 ≤ q)
   (hs:8 ≤ q → q < 12 → 1 ≤ k ∧ ∀ (most:Int) (s:Sd),0 ≤ s.2 → s.2 ≤ 10 → StsOk c (k - 1) s (sub most s).1 (sub most s).2):StOk c k s (stmtT sub f L1 s.2 q m).1 (stmtT sub f L1 s.2 q m).2:=by
 obtain ⟨z1,z2,z3⟩:=zE_ok f
 obtain ⟨n1',n2'⟩:=nms_ok f (nms_in f hm)
 obtain ⟨a1,a2⟩:=arr_ok m
 have g1:=fg_ok m
 obtain ⟨g2,g3⟩:=hc.to m hm
 have e50:=exprG_ok f 5 0 L1 (by omega) (by omega)
 have e32:=exprG_ok f 3 2 L1 (by omega) (by omega)
 have e41:=exprG_ok f 4 1 L1 (by omega) (by omega)
 have e43:=exprG_ok f 4 1 (exprG f 3 2 L1).2 (by omega) (by omega)
 have l50:=exprG_len f 5 0 L1
 have l32:=exprG_len f 3 2 L1
 have l41:=exprG_len f 4 1 L1
 have l43:=exprG_len f 4 1 (exprG f 3 2 L1).2
 obtain ⟨r1,r2,r3,r4⟩:=argsG_ok f (2 - m.tmod 2).toNat L1
 have lar:=argsG_len f (2 - m.tmod 2).toNat L1
 have d50:¬ (20:Int) < depE (exprG f 5 0 L1).1:=by have:=e50.dp;omega
 have d32:¬ (20:Int) < depE (exprG f 3 2 L1).1:=by have:=e32.dp;omega
 have d41:¬ (20:Int) < depE (exprG f 4 1 L1).1:=by have:=e41.dp;omega
 have d43:¬ (20:Int) < depE (exprG f 4 1 (exprG f 3 2 L1).2).1:=by have:=e43.dp;omega
 rw [stmtT]
 generalize (nmsG f).getD (m.tmod (nmsG f).length).toNat []=nm at n1' n2' ⊢
 have hv:=hc.vars
 have ha:=hc.an
 by_cases c1:q < 6
 · rw [if_pos c1]
   refine ⟨?_,?_,?_,?_,?_,?_,h1,fun d=>?_⟩
   · simp [wfSt,wfSs,wfStX,wfEs,wfStK,flatB,St.kind,St.thn,St.els,St.name,St.to,St.n,St.at_,St.value,St.args,n1',z1,e50.wf]
   · simp [chk1,chkS,defStX,defEs,defStK,St.kind,St.name,St.at_,St.value,St.args,hv,ha,n2',z2,e50.df]
   · simp [chk1,chkS,arK,St.kind]
   · simp [deep1,deepS,z3,d50]
   · simp only [n1,nS];omega
   · simp [w1,wS]
   · simp [m1,mS]
 rw [if_neg c1]
 by_cases c2:q < 8
 · rw [if_pos c2]
   refine ⟨?_,?_,?_,?_,?_,?_,h1,fun d=>?_⟩
   · simp [wfSt,wfSs,wfStX,wfEs,wfStK,flatB,St.kind,St.thn,St.els,St.name,St.to,St.n,St.at_,St.value,St.args,a1,e32.wf,e43.wf]
   · simp [chk1,chkS,defStX,defEs,defStK,St.kind,St.name,St.at_,St.value,St.args,hv,ha,a2,e32.df,e43.df]
   · simp [chk1,chkS,arK,St.kind]
   · simp [deep1,deepS,d32,d43]
   · simp only [n1,nS];omega
   · simp [w1,wS]
   · simp [m1,mS]
 rw [if_neg c2]
 by_cases c3:q < 10
 · rw [if_pos c3]
   obtain ⟨hk,hsub⟩:=hs (by omega) (by omega)
   have sa:=hsub 3 ((exprG f 4 1 L1).2,s.2) h0 h1
   have saw:=sa.w
   have san:=sa.n
   have sb:=hsub 2 (sub 3 ((exprG f 4 1 L1).2,s.2)).2 (by simp only at saw;omega) sa.wb
   have sbw:=sb.w
   have sbn:=sb.n
   refine ⟨?_,?_,?_,?_,?_,?_,sb.wb,fun d=>?_⟩
   · simp [wfSt,wfStX,wfEs,wfStK,onlyB,St.kind,St.thn,St.els,St.name,St.to,St.n,St.at_,St.value,St.args,z1,e41.wf,sa.wf,sb.wf]
   · simp [chk1,defStX,defEs,defStK,St.kind,St.name,St.at_,St.value,St.args,hv,ha,z2,e41.df,sa.df,sb.df]
   · simp [chk1,arK,St.kind,sa.ar,sb.ar]
   · simp [deep1,z3,d41,sa.dp,sb.dp]
   · simp only [n1];simp only at san;omega
   · simp only [w1];simp only at saw;rw [if_neg (by omega)];omega
   · have := sa.m (d + 1); have := sb.m (d + 1)
     simp only [m1];omega
 rw [if_neg c3]
 by_cases c4:q < 12
 · rw [if_pos c4]
   obtain ⟨hk,hsub⟩:=hs (by omega) (by omega)
   have hlt:=hq (by omega)
   have hw:w64 (s.2 + 1)=s.2 + 1:=by unfold w64;rw [i64_id (by omega) (by omega)]
   rw [hw]
   have sa:=hsub 3 ((exprG f 4 1 L1).2,s.2 + 1) (by simp only;omega) (by simp only;omega)
   have saw:=sa.w
   have san:=sa.n
   refine ⟨?_,?_,?_,?_,?_,?_,sa.wb,fun d=>?_⟩
   · simp [wfSt,wfSs,wfStX,wfEs,wfStK,onlyB,St.kind,St.thn,St.els,St.name,St.to,St.n,St.at_,St.value,St.args,z1,e41.wf,sa.wf]
   · simp [chk1,chkS,defStX,defEs,defStK,St.kind,St.name,St.at_,St.value,St.args,hv,ha,z2,e41.df,sa.df]
   · simp [chk1,chkS,arK,St.kind,sa.ar]
   · simp [deep1,deepS,z3,d41,sa.dp]
   · simp only [n1,nS];simp only at san;omega
   · simp only [w1,wS];simp only at saw;simp only [if_true];omega
   · have := sa.m (d + 1)
     simp only [m1,mS];omega
 rw [if_neg c4]
 by_cases c5:q < 14
 · rw [if_pos c5]
   refine ⟨?_,?_,?_,?_,?_,?_,h1,fun d=>?_⟩
   · simp [wfSt,wfSs,wfStX,wfEs,wfStK,flatB,onlyB,St.kind,St.thn,St.els,St.name,St.to,St.n,St.at_,St.value,St.args,z1,e41.wf]
   · simp [chk1,chkS,defStX,defEs,defStK,St.kind,St.name,St.at_,St.value,St.args,hv,ha,z2,e41.df]
   · simp [chk1,chkS,arK,St.kind]
   · simp [deep1,deepS,z3,d41]
   · simp only [n1,nS];omega
   · simp [w1,wS]
   · simp [m1,mS]
 rw [if_neg c5]
 by_cases c6:q < 15
 · rw [if_pos c6]
   refine ⟨?_,?_,?_,?_,?_,?_,h1,fun d=>?_⟩
   · simp [wfSt,wfSs,wfStX,wfStK,flatB,St.kind,St.thn,St.els,St.name,St.to,St.n,St.at_,St.value,St.args,n1',z1,g1,r1]
   · simp [chk1,chkS,defStX,defStK,St.kind,St.name,St.to,St.at_,St.value,St.args,hv,ha,z2,n2',g2,r2]
   · have : (((argsG f (2 - m.tmod 2).toNat L1).1.length : Nat) : Int) = parN c.p (fgG m) := by rw [r4, g3]
     simp [chk1,chkS,arK,St.kind,St.args,St.to,this]
   · simp only [deep1,deepS,z3,r3];decide
   · simp only [n1,nS];omega
   · simp [w1,wS]
   · simp [m1,mS]
 rw [if_neg c6]
 refine ⟨?_,?_,?_,?_,?_,?_,h1,fun d=>?_⟩
 · have e : m ≤ 1000000 := by omega
   simp [wfSt,wfSs,wfStX,wfEs,wfStK,flatB,St.kind,St.thn,St.els,St.name,St.to,St.n,St.at_,St.value,St.args,z1,hm,e]
 · simp [chk1,chkS,defStX,defEs,defStK,St.kind,St.name,St.at_,St.value,St.args,hv,ha,z2]
 · simp [chk1,chkS,arK,St.kind]
 · simp [deep1,deepS,z3]
 · simp only [n1,nS];omega
 · simp [w1,wS]
 · simp [m1,mS]
theorem nextG_lt {L:List Int} (h:L ≠ []):(nextG L).2.length < L.length:=by
 cases L with
 | nil=>exact absurd rfl h
 | cons a l=>simp [nextG]
theorem StsOk.more {c:Sc} {k:Nat} {s s':Sd} {l:List St} {t:Sd} (h:StsOk c k s' l t) (h1:s'.1.length ≤ s.1.length) (h2:s'.2=s.2):StsOk c k s l t:=⟨h.wf,h.df,h.ar,h.dp,Nat.le_trans h.n h1,h2 ▸ h.w,h.wb,h.m⟩
theorem stmtG_ok {f : Int} {c : Sc} (hc : ScG f c) : ∀ (k deep : Nat), 4 ≤ deep + k → deep ≤ 3 → ∀ s : Sd, s.1 ≠ [] → 0 ≤ s.2 → s.2 ≤ 10 → StOk c (k - 1) s (stmtG f k deep s).1 (stmtG f k deep s).2
  | 0,deep,h1,h2=>by omega
  | k + 1, deep, h1, h2 => fun s hs h0 h10 => by
    have hm:=pickG_range (n:=w64 ((nextG s.1).1.tdiv 16)) (m:=1000) (by omega) (by omega)
    have hq:=pickG_range (n:=(nextG s.1).1) (m:=16) (by omega) (by omega)
    rw [stmtG,stmtB]
    refine stmtT_ok hc (nextG_lt hs) hm.1 hm.2 h0 h10 ?_ ?_ ?_
    · unfold kindG;split <;> omega
    · unfold kindG;split <;> omega
    · intro a b
      have hd:deep ≤ 2:=by
        unfold kindG at a b
        split at a <;> omega
      have e:k + 1 - 1 - 1=k - 1:=by omega
      rw [e]
      refine ⟨by omega,fun most s g0 g1=>StsOk.more (stsG_ok (fun s hs h0 h1=>?_) _ ((nextG s.1).2,s.2) g0 g1) (nextG_len _) rfl⟩
      exact stmtG_ok hc k (deep + 1) (by omega) (by omega) s hs h0 h1
theorem stmtsG_ok {f:Int} {c:Sc} (hc:ScG f c) {k deep:Nat} (h1:4 ≤ deep + k) (h2:deep ≤ 3) (most:Int) {s:Sd} (h3:0 ≤ s.2) (h4:s.2 ≤ 10):StsOk c (k - 1) s (stmtsG f k deep most s).1 (stmtsG f k deep most s).2:=
 StsOk.more (stsG_ok (fun s hs h0 h1'=>stmtG_ok hc k deep h1 h2 s hs h0 h1') _ ((nextG s.1).2,s.2) h3 h4) (nextG_len _) rfl
theorem findG (L:List Int):findF [genF L,genGf L] [102] 0=0 ∧ findF [genF L,genGf L] [103] 0=1:=⟨rfl,rfl⟩
theorem scG (f:Int) (l:List Int) {F:Fu} (h:F.params ++ F.locals=nmsG f):ScG f (scOf (genP l) F):=by
 refine ⟨h,rfl,fun m hm=>?_⟩
 have h1:=Int.tmod_nonneg 2 hm
 have h2:=Int.tmod_lt_of_pos m (show (0:Int) < 2 by omega)
 show 0 ≤ findF [genF (l.take 60),genGf (l.take 60)] (fgG m) 0 ∧ _
 unfold fgG
 by_cases e:m.tmod 2=0
 · rw [if_pos e,e];exact ⟨by rw [(findG _).1];omega,rfl⟩
 · rw [if_neg e,show m.tmod 2=1 by omega];exact ⟨by rw [(findG _).2];omega,rfl⟩
theorem genP_ok (l:List Int):refCheck (genP l)=0:=by
 have hl:(l.take 60).length ≤ 60:=by simp;omega
 have c0:ScG 0 (scOf (genP l) (genF (l.take 60))):=scG 0 l rfl
 have c1:ScG 1 (scOf (genP l) (genGf (l.take 60))):=scG 1 l rfl
 obtain ⟨L,hL⟩:∃ L,l.take 60=L:=⟨_,rfl⟩
 rw [hL] at hl c0 c1
 have b1:StsOk (scOf (genP l) (genF L)) 3 ((nextG L).2,0) (genB1 L).1 (genB1 L).2:=stmtsG_ok c0 (k:=4) (deep:=0) (by omega) (by omega) 5 (s:=((nextG L).2,0)) (by simp) (by simp)
 have v1:ExOk 0 4 (genV1 L).1:=exprG_ok 0 4 1 _ (by omega) (by omega)
 have b1w:=b1.w
 have b2:StsOk (scOf (genP l) (genGf L)) 2 ((genV1 L).2,(genB1 L).2.2) (genB2 L).1 (genB2 L).2:=stmtsG_ok c1 (k:=3) (deep:=1) (by omega) (by omega) 3 (s:=((genV1 L).2,(genB1 L).2.2)) (by simp only at b1w ⊢;omega) b1.wb
 have v2:ExOk 1 4 (genV2 L).1:=exprG_ok 1 4 1 _ (by omega) (by omega)
 have b1n:=b1.n
 have b2n:=b2.n
 have b2w:=b2.w
 have b1b:=b1.wb
 have b2b:=b2.wb
 simp only at b1n b2n b1w b2w
 have n0:=nextG_len L
 have n1:(genV1 L).2.length ≤ (genB1 L).2.1.length:=exprG_len 0 4 1 _
 have p1:=pickG_range (n:=(nextG L).1) (m:=4) (by omega) (by omega)
 have p2:=pickG_range (n:=w64 ((nextG L).1.tdiv 4)) (m:=4) (by omega) (by omega)
 have hp:genP l=⟨genAr L,[genF L,genGf L]⟩:=by rw [genP,hL]
 have m1:=b1.m 0
 have m2:=b2.m 0
 have d1:=v1.dp
 have d2:=v2.dp
 have hex:exB (genP l)=false:=by
   rw [hp]
   simp only [exB,genAr,List.any_cons,List.any_nil,exAr,exFn,genF,genGf,List.length_cons,List.length_nil,b1.dp,b2.dp,Bool.or_false,Bool.or_eq_false_iff,decide_eq_false_iff_not]
   refine ⟨⟨⟨decide_eq_false (by omega),?_⟩,?_⟩,?_⟩ <;> omega
 have hwf:wfP (genP l)=true:=by
   rw [hp]
   have q:∀ s ∈ ([[102],[103],[120],[121],[105],[106],[110],[97],[98]]:List (List UInt8)),nameB s=true:=by
     intro s hs
     simp only [List.mem_cons,List.not_mem_nil,or_false] at hs
     rcases hs with rfl|rfl|rfl|rfl|rfl|rfl|rfl|rfl|rfl <;> kernel_rfl
   simp only [wfP,genAr,List.all_cons,List.all_nil,wfFn,fnNames,genF,genGf,List.cons_append,List.nil_append,b1.wf,b2.wf,v1.wf,v2.wf,Bool.and_true,Bool.and_eq_true]
   simp [q]
 have hdu:dupP (genP l)=false:=by rw [hp];kernel_rfl
 have hun:(genP l).funcs.any (undFn (genP l))=false:=by
   have e:(genP l).funcs=[genF L,genGf L]:=by rw [hp]
   rw [e]
   have w1:defE (scOf (genP l) (genF L)).vars (scOf (genP l) (genF L)).an (genF L).value=true:=by rw [c0.vars,c0.an];exact v1.df
   have w2:defE (scOf (genP l) (genGf L)).vars (scOf (genP l) (genGf L)).an (genGf L).value=true:=by rw [c1.vars,c1.an];exact v2.df
   have x1:chkS (scOf (genP l) (genF L)) false (genF L).body=true:=b1.df
   have x2:chkS (scOf (genP l) (genGf L)) false (genGf L).body=true:=b2.df
   simp only [List.any_cons,List.any_nil,undFn,w1,w2,x1,x2];rfl
 have hba:(genP l).funcs.any (badFn (genP l))=false:=by
   have e:(genP l).funcs=[genF L,genGf L]:=by rw [hp]
   rw [e]
   have x1:chkS (scOf (genP l) (genF L)) true (genF L).body=true:=b1.ar
   have x2:chkS (scOf (genP l) (genGf L)) true (genGf L).body=true:=b2.ar
   simp only [List.any_cons,List.any_nil,badFn,x1,x2];rfl
 rw [refCheck,hex,hwf,hdu,hun,hba];rfl
end Go.Proofs.Ytackdnelcpbfjaa
namespace Go.Proofs.Ytackdnelcpbfjaa
set_option maxRecDepth 20000
open Go Go.Ab
structure GenF (L:List Int):Prop where
 len:L.length ≤ 60
 b1:∀ c,ScG 0 c → wfSs (genB1 L).1=true ∧ chkS c false (genB1 L).1=true ∧ chkS c true (genB1 L).1=true ∧ deepS (genB1 L).1=false ∧ nS (genB1 L).1 ≤ 60 ∧ wS (genB1 L).1 ≤ 10 ∧ mS (genB1 L).1 0 ≤ 3
 v1:ExOk 0 4 (genV1 L).1
 b2:∀ c,ScG 1 c → wfSs (genB2 L).1=true ∧ chkS c false (genB2 L).1=true ∧ chkS c true (genB2 L).1=true ∧ deepS (genB2 L).1=false ∧ nS (genB2 L).1 ≤ 60 ∧ wS (genB2 L).1 ≤ 10 ∧ mS (genB2 L).1 0 ≤ 3
 v2:ExOk 1 4 (genV2 L).1
 x1:1 ≤ 1 + pickG (nextG L).1 4 ∧ 1 + pickG (nextG L).1 4 ≤ 4
 x2:1 ≤ 1 + pickG (w64 ((nextG L).1.tdiv 4)) 4 ∧ 1 + pickG (w64 ((nextG L).1.tdiv 4)) 4 ≤ 4
end Go.Proofs.Ytackdnelcpbfjaa
namespace Go.Proofs.Ytackdnelcpbfjaa
set_option maxRecDepth 20000
open Go Go.Ab
def arG2 (x y:Int):List Ar:=[⟨[97],x⟩,⟨[98],y⟩]
def pr2 (x y:Int) (F G:Fu):Pr:=⟨arG2 x y,[F,G]⟩
section
variable {L:List Int} (h:GenF L)
include h
end
section
variable {L:List Int} (h:GenF L) {x y:Int} (hx:1 ≤ x ∧ x ≤ 4) (hy:1 ≤ y ∧ y ≤ 4)
include h hx hy
end
end Go.Proofs.Ytackdnelcpbfjaa
namespace Go.Proofs.Ytackdnelcpbfjaa
set_option maxRecDepth 20000
set_option maxRecDepth 20000
open Go Go.Ab
namespace tyP4e
def tyF:=And.intro @tq3 (And.intro @tq9 (And.intro @tq22 (And.intro @tq23 (And.intro @tq25 (And.intro @tq35 (And.intro @tq36 (And.intro @tq39 (And.intro @tq41 (And.intro @tq176 (And.intro @tq44 (And.intro @tq132 (@bsS1))))))))))))
end tyP4e
open tyP4e
noncomputable def code77:{ c:SC // slim 28 (Try.f77.body.getD .skip)=c }:=by
 refine ⟨?_,?_⟩
 rotate_left
 · simp only [Try.f77, Option.getD_some, slim, slimR, slimL, slimD, slimG, Nat.blt, Nat.ble]
   rfl
noncomputable def code76:{ c:SC // slim 38 (Try.f76.body.getD .skip)=c }:=by
 refine ⟨?_,?_⟩
 rotate_left
 · simp only [Try.f76, Option.getD_some, slim, slimR, slimL, slimD, slimG, Nat.blt, Nat.ble]
   rfl
noncomputable def code38:{ c:SC // slim 35 (Try.f38.body.getD .skip)=c }:=by
 refine ⟨?_,?_⟩
 rotate_left
 · simp only [Try.f38, Option.getD_some, slim, slimR, slimL, slimD, slimG, Nat.blt, Nat.ble]
   rfl
def bEs (l:List (List UInt8)):List (AV × AV):=l.map fun s=>(.str s,.bool true)
def addS (l:List (List UInt8)) (s:List UInt8):List (List UInt8):=if hasS l s=true then l else l ++ [s]
theorem find_bEs (s : List UInt8) : ∀ (l : List (List UInt8)) (i : Nat), (hasS l s = false → findA .string (.str s) (bEs l) i = some none) ∧ (hasS l s = true → ∃ j, findA .string (.str s) (bEs l) i = some (some (i + j, .bool true)) ∧ (bEs l).set j (.str s, .bool true) = bEs l)
  | [],i=>⟨fun _=>rfl,fun h=>by simp [hasS] at h⟩
  | a :: l, i => by
    have hh:hasS (a :: l) s=(decide (s=a) || hasS l s):=by rw [show a :: l=[a] ++ l from rfl,hasS_append,hasS_one]
    by_cases h:s=a
    · subst h
      rw [hh,decide_eq_true rfl,Bool.true_or]
      refine ⟨fun h=>by simp at h,fun _=>⟨0,?_,?_⟩⟩
      · simp [bEs,findA,keyA]
      · simp [bEs]
    · have hf : findA .string (.str s) (bEs (a :: l)) i = findA .string (.str s) (bEs l) (i + 1) := by
        show findA .string (.str s) ((.str a,.bool true) :: bEs l) i=_
        have:(s == a)=false:=by simpa using h
        simp [findA,keyA,this]
      rw [hh,decide_eq_false h,Bool.false_or,hf]
      obtain ⟨g1,g2⟩:=find_bEs s l (i + 1)
      refine ⟨g1,fun q=>?_⟩
      obtain ⟨j,g3,g4⟩:=g2 q
      exact ⟨j + 1,by rw [g3,show i + 1 + j=i + (j + 1) by omega],by show (AV.str a,AV.bool true) :: (bEs l).set j _=_;rw [g4];rfl⟩
theorem look_bEs {H:Hp} {r:Nat} {l:List (List UInt8)} (hg:H.get r=some (.map (bEs l))) (s:List UInt8):lookupA Try.prog H 132 (.map r) (.str s) false=some (.bool (hasS l s)):=by
 obtain ⟨l1,l2⟩:=lookup_map (P:=Try.prog) (H:=H) (t:=132) (nm:=s) (z:=.bool false) Try.underlying132 (by kernel_rfl) (by kernel_rfl) hg
 cases h:hasS l s with
 | false=>rw [l1 ((find_bEs s l 0).1 h)]
 | true=>obtain ⟨j,h1,h2⟩:=(find_bEs s l 0).2 h;rw [l2 _ _ h1]
theorem upd_bEs {H:Hp} {r:Nat} {l:List (List UInt8)} (hg:H.get r=some (.map (bEs l))) (s:List UInt8):mapUpdateA Try.prog H 132 (.map r) (.str s) (.bool true)=some (H.set r (.map (bEs (addS l s)))):=by
 obtain ⟨l1,l2⟩:=update_map (P:=Try.prog) (H:=H) (t:=132) (nm:=s) (x:=.bool true) Try.underlying132 (by kernel_rfl) hg
 cases h:hasS l s with
 | false=>rw [l1 ((find_bEs s l 0).1 h),addS,h];simp [bEs]
 | true=>obtain ⟨j,h1,h2⟩:=(find_bEs s l 0).2 h;rw [l2 _ _ h1,Nat.zero_add,h2,addS,if_pos h]
def rwE (x:List (List (List UInt8))):List AV:=[.lst (x.map fun l=>[lstS l])]
theorem rwE_inj (x y:List (List (List UInt8))) (h:rwE x=rwE y):x=y:=by
 simp only [rwE,List.cons.injEq,AV.lst.injEq,and_true] at h
 exact map_inj (fun a _ b e=>by simp only [List.cons.injEq,AV.lst.injEq,and_true] at e;exact strs_inj e) h
def rwOk (x:List (List (List UInt8))):Prop:=x.length < 2 ^ 60 ∧ ∀ l ∈ x,l.length < 2 ^ 60
theorem rw_pure (x:List (List (List UInt8))):PureA (.lst (x.map fun l=>[lstS l])):=.map fun l _=>.cons (strs_pure l) .nil
theorem hasDup_con (ρ : Nat → Int) (x : List (List (List UInt8))) (hx : rwOk x) : Con Try.prog ρ 77 (rwE x) (.bool (dupFrom [] x.flatten)) := Con.lev fit (pls := pls) (l := []) trivial (.cons (rw_pure x) .nil) (.bool _) (by
  have hw:=plain0 77
  obtain ⟨hx1,hx2⟩:=hx
  rw [rwE]
  refine WpCall.slim (M:=28) (rs:=[.tmp 2]) (hw.call _) hw.ice hw.froz Try.func77 rfl rfl code77.2 rfl ?_;dsimp only [code77,envOf,Nat.reduceAdd]
  repeat' (first
     | (apply Rx.nl ?_;clear hK K)|apply Rx.o ?_|apply Rx.on ?_|(apply Rx.cd (fun hb hbp=>?_) (fun hb hbp=>?_) <;> try (cases hb;done))|apply Wp.seq ?_|(apply Wp.ops' fun K hK=>?_)|apply Wp.block ?_|apply Rx.sk ?_|apply Rx.rt ?_|apply Rx.xt ?_)
  refine Wp.forI [3,9,10] [] 11 x.length (fun i E H=>∃ seen,H.get 0=some (.map (bEs seen)) ∧ dupFrom [] x.flatten=dupFrom seen (x.drop i).flatten) eE ⟨[],by rw [Hp.get_alloc,if_pos (by rfl)];rfl,rfl⟩ ?_
  rintro i E H2 hi hcE hrH hnH hsI ⟨seen,hm,hJ⟩
  (try simp only [forall_cons,forall_nil,and_true,sB,sO,Nat.reduceBEq,Nat.reduceAdd,Nat.reduceLeDiff,tyF, *] at hcE)
  (try simp only [forall_cons,forall_nil,and_true,sB,sO,Nat.reduceBEq,Nat.reduceAdd,Nat.reduceLeDiff,tyF, *] at hrH)
  (try simp only [Hp.next_alloc,Hp.next_set,H0_next,Nat.zero_add,Nat.reduceAdd] at hnH)
  repeat' (first
     | (apply Rx.nl ?_;clear hK K)|apply Rx.o ?_|apply Rx.on ?_|(apply Rx.cd (fun hb hbp=>?_) (fun hb hbp=>?_) <;> try (cases hb;done))|apply Wp.seq ?_|(apply Wp.ops' fun K hK=>?_)|apply Wp.block ?_|apply Rx.sk ?_|apply Rx.rt ?_|apply Rx.xt ?_)
  · have hlt : i < x.length := by simpa using hb
    have hgx:x[i]?=some x[i]:=List.getElem?_eq_getElem hlt
    have hsm:=hx2 _ (List.getElem_mem hlt)
    have hdr:(x.drop i).flatten=x[i] ++ (x.drop (i + 1)).flatten:=by rw [List.drop_eq_getElem_cons hlt,List.flatten_cons]
    rw [hdr] at hJ
    clear hdr
    generalize x[i]=row at *
    repeat' (first
       | (apply Rx.nl ?_;clear hK K)|apply Rx.o ?_|apply Rx.on ?_|(apply Rx.cd (fun hb hbp=>?_) (fun hb hbp=>?_) <;> try (cases hb;done))|apply Wp.seq ?_|(apply Wp.ops' fun K hK=>?_)|apply Wp.block ?_|apply Rx.sk ?_|apply Rx.rt ?_|apply Rx.xt ?_)
    refine Wp.forI [3,9,10,11,15,16] [] 17 row.length (fun j E H=>∃ seen,H.get 0=some (.map (bEs seen)) ∧ dupFrom [] x.flatten=dupFrom seen (row.drop j ++ (x.drop (i + 1)).flatten)) eE ⟨seen,hm,hJ⟩ ?_
    clear hm hJ seen
    rintro j E3 H3 hj hcE hrH hnH hsI ⟨seen,hm,hJ⟩
    (try simp only [forall_cons,forall_nil,and_true,sB,sO,Nat.reduceBEq,Nat.reduceAdd,Nat.reduceLeDiff,tyF, *] at hcE)
    (try simp only [forall_cons,forall_nil,and_true,sB,sO,Nat.reduceBEq,Nat.reduceAdd,Nat.reduceLeDiff,tyF, *] at hrH)
    (try simp only [Hp.next_alloc,Hp.next_set,H0_next,Nat.zero_add,Nat.reduceAdd] at hnH)
    repeat' (first
       | (apply Rx.nl ?_;clear hK K)|apply Rx.o ?_|apply Rx.on ?_|(apply Rx.cd (fun hb hbp=>?_) (fun hb hbp=>?_) <;> try (cases hb;done))|apply Wp.seq ?_|(apply Wp.ops' fun K hK=>?_)|apply Wp.block ?_|apply Rx.sk ?_|apply Rx.rt ?_|apply Rx.xt ?_)
    · have hlt2 : j < row.length := by simpa using hb
      have hgx2:row[j]?=some row[j]:=List.getElem?_eq_getElem hlt2
      have hdr:dupFrom seen (row.drop j ++ (x.drop (i + 1)).flatten)=(hasS seen row[j] || dupFrom (seen ++ [row[j]]) (row.drop (j + 1) ++ (x.drop (i + 1)).flatten)):=by rw [List.drop_eq_getElem_cons hlt2];rfl
      have hlk:=look_bEs hm row[j]
      have hup:=upd_bEs hm row[j]
      repeat' (first
         | (apply Rx.nl ?_;clear hK K)|apply Rx.o ?_|apply Rx.on ?_|(apply Rx.cd (fun hb hbp=>?_) (fun hb hbp=>?_) <;> try (cases hb;done))|apply Wp.seq ?_|(apply Wp.ops' fun K hK=>?_)|apply Wp.block ?_|apply Rx.sk ?_|apply Rx.rt ?_|apply Rx.xt ?_)
      · all_goals (refine ⟨eI, _, eR, ?_⟩; try simp only [oneOr])
        rw [hJ,hdr];(try simp only [Bool.not_eq_true',Bool.not_eq_false'] at *);simp only [*,decide_true,decide_false,Bool.false_or,Bool.or_false,Bool.true_or,Bool.or_true,Bool.false_and,Bool.and_false,Bool.true_and,Bool.and_true,Bool.not_true,Bool.not_false,if_true,if_false,Int.reduceEq]
      · refine ⟨by omega, eL, eL, eN, (by simp only [sB, Nat.reduceBEq, *]; exact i64_succ (n := row.length) (by omega) (by omega)), ?_⟩
        refine ⟨addS seen row[j],by rw [Hp.get_set,if_pos (by rfl)],?_⟩
        rw [hJ,hdr,addS];(try simp only [Bool.not_eq_true',Bool.not_eq_false'] at *);simp only [*,decide_true,decide_false,Bool.false_or,Bool.or_false,Bool.true_or,Bool.or_true,Bool.false_and,Bool.and_false,Bool.true_and,Bool.and_true,Bool.not_true,Bool.not_false,if_true,if_false,Int.reduceEq];rfl
    · have hje : j = row.length := by simp at hb; omega
      repeat' (first
         | (apply Rx.nl ?_;clear hK K)|apply Rx.o ?_|apply Rx.on ?_|(apply Rx.cd (fun hb hbp=>?_) (fun hb hbp=>?_) <;> try (cases hb;done))|apply Wp.seq ?_|(apply Wp.ops' fun K hK=>?_)|apply Wp.block ?_|apply Rx.sk ?_|apply Rx.rt ?_|apply Rx.xt ?_)
      refine ⟨by omega,eL,eL,eN,(by simp only [sB,Nat.reduceBEq, *];exact i64_succ (n:=x.length) (by omega) (by omega)),?_⟩
      exact ⟨seen,hm,by rw [hJ,hje,List.drop_length,List.nil_append]⟩
  · all_goals (refine ⟨eI, _, eR, ?_⟩; try simp only [oneOr])
    have hie:i=x.length:=by simp at hb;omega
    rw [hJ,hie,List.drop_length];rfl)
def nlS (l:List (List UInt8)):AV:=if l=[] then .nilS else lstS l
def StrX (H:Hp) (v:AV) (l:List (List UInt8)) (lo:Nat):Prop:=(v=.nilS ∧ l=[]) ∨ (l ≠ [] ∧ StrB H v l lo)
theorem StrX.n {H:Hp} {v:AV} {l:List (List UInt8)} {lo:Nat} (h:StrX H v l lo):StrN H v l lo:=h.imp id fun h=>h.2
theorem StrX.keep {H H':Hp} {v:AV} {l:List (List UInt8)} {lo:Nat} (h:StrX H v l lo) (hn:H.next ≤ H'.next) (hg:∀ k,ownS v k → H'.get k=H.get k):StrX H' v l lo:=h.imp id fun h=>⟨h.1,h.2.keep hn hg⟩
theorem iceL_strs (H:Hp) (n:Nat):∀ l:List (List UInt8),iceL (iceV H (n + 1)) (l.map .str)=some (l.map .str)
 | []=>rfl
 | a :: l => by
   have:=iceL_strs H n l
   have e:iceV H (n + 1) (.str a)=some (.str a):=rfl
   simp only [List.map_cons,iceL,e,this]
theorem StrX.iceV {H : Hp} {v : AV} {l : List (List UInt8)} {lo : Nat} (h : StrX H v l lo) (n : Nat) : iceV H (n + 2) v = some (nlS l) := by
  rcases h with ⟨rfl,rfl⟩|⟨h0,r,imm,rfl,h2,_⟩
  · rfl
  · have e : Ab.iceV H (n + 2) (.sl r 0 l.length 1) = match H.get r with
      | some (.cells cs _ _) => match iceL (Ab.iceV H (n + 1)) ((cs.drop 0).take (l.length * 1)) with
        | some l'=>if l'.length=l.length * 1 then some (.lst (chunk 1 l.length l')) else none
        | none=>none
      | _=>none:=rfl
    rw [e,h2]
    simp only [List.drop_zero,Nat.mul_one]
    rw [List.take_of_length_le (by simp),iceL_strs]
    simp only [List.length_map,if_true,chunk_one]
    rw [nlS,if_neg h0]
theorem wk_nlS (n:Nat) (l:List (List UInt8)):wkN (n + 2) (nlS l)=lstS l:=by
 unfold nlS
 split
 · rename_i h;subst h;rfl
 · show AV.lst ((l.map fun s => [AV.str s]).map fun row => row.map (wkN (n + 1))) = _
   rw [List.map_map];rfl
set_option maxRecDepth 100000 in
theorem declared_con (ρ:Nat → Int) (p:Pr) (hz:p.sz < 2 ^ 36):Con Try.prog ρ 76 (prE p) (.tup [lstS (arNames p),lstS (fnNms p)]):=Con.wk' (n:=3) (Con.of_made (r:=.tup [nlS (arNames p),nlS (fnNms p)]) (m:=3) (cfg:=cfgN pls []) fit (noDec ρ) (fun f args r h=>by simp [cfgN,lookN] at h) (.cons (.agg p.pure) .nil) (by
 have hw:=plain0 76
 have hkeep:(cfgN pls []).keep 76=false:=rfl
 have hpz:p.sz=1 + arrsSz p.arrays + fnsSz p.funcs:=rfl
 have hla:=arrsSz_len p.arrays
 have hlf:=fnsSz_len p.funcs
 rw [prE]
 refine WpCall.slim (M:=38) (rs:=[.tmp 2,.tmp 3]) (hw.call _) hw.ice hw.froz Try.func76 rfl rfl code76.2 rfl ?_;dsimp only [code76,envOf,Nat.reduceAdd]
 repeat' (first
    | (apply Rx.nl ?_;clear hK K)|apply Rx.o ?_|apply Rx.on ?_|(apply Rx.cd (fun hb hbp=>?_) (fun hb hbp=>?_) <;> try (cases hb;done))|apply Wp.seq ?_|(apply Wp.ops' fun K hK=>?_)|apply Wp.block ?_|apply Rx.sk ?_|apply Rx.rt ?_|apply Rx.xt ?_)
 refine Wp.forI [1,2,3,5,11,12] [0] 13 p.arrays.length (fun i E H=>∃ v,E.at 4=v ∧ StrX H v ((arNames p).take i) 1) eE ⟨.nilS,eE,.inl ⟨rfl,rfl⟩⟩ ?_
 rintro i E H2 hi hcE hrH hnH hsI ⟨v,k4,hv⟩
 (try simp only [forall_cons,forall_nil,and_true,sB,sO,Nat.reduceBEq,Nat.reduceAdd,Nat.reduceLeDiff,tyF, *] at hcE)
 (try simp only [forall_cons,forall_nil,and_true,sB,sO,Nat.reduceBEq,Nat.reduceAdd,Nat.reduceLeDiff,tyF, *] at hrH)
 (try simp only [Hp.next_alloc,Hp.next_set,H0_next,Nat.zero_add,Nat.reduceAdd] at hnH)
 have hB0:(0 == H2.next)=false:=ne_beq (by omega)
 have hC0:(H2.next == 0)=false:=ne_beq (by omega)
 repeat' (first
    | (apply Rx.nl ?_;clear hK K)|apply Rx.o ?_|apply Rx.on ?_|(apply Rx.cd (fun hb hbp=>?_) (fun hb hbp=>?_) <;> try (cases hb;done))|apply Wp.seq ?_|(apply Wp.ops' fun K hK=>?_)|apply Wp.block ?_|apply Rx.sk ?_|apply Rx.rt ?_|apply Rx.xt ?_)
 · have hlt : i < p.arrays.length := by simpa using hb
   have hgx:p.arrays[i]?=some p.arrays[i]:=List.getElem?_eq_getElem hlt
   have htk:(arNames p).take (i + 1)=(arNames p).take i ++ [p.arrays[i].name]:=by rw [arNames,List.take_add_one,List.getElem?_map,hgx];rfl
   repeat' (first
      | (apply Rx.nl ?_;clear hK K)|apply Rx.o ?_|apply Rx.on ?_|(apply Rx.cd (fun hb hbp=>?_) (fun hb hbp=>?_) <;> try (cases hb;done))|apply Wp.seq ?_|(apply Wp.ops' fun K hK=>?_)|apply Wp.block ?_|apply Rx.sk ?_|apply Rx.rt ?_|apply Rx.xt ?_)
   generalize hHb:Hp.alloc (Hp.set _ _ _) _=Hb
   have nb:Hb.next=H2.next + 2:=by rw [← hHb];rfl
   have oldb:∀ k,k < H2.next → Hb.get k=H2.get k:=fun k hk=>by rw [← hHb,Hp.get_alloc,if_neg (by simp only [Hp.next_set,Hp.next_alloc];omega),Hp.get_set,if_neg (by omega),Hp.get_alloc,if_neg (by omega)]
   have gb:Hb.get (H2.next + 1)=some (.cells [.str p.arrays[i].name] 0 true):=by rw [← hHb,Hp.get_alloc,if_pos (by rfl)]
   clear hHb
   have hvb:StrN Hb v ((arNames p).take i) 1:=hv.n.keep (by omega) fun k hk=>oldb k (hv.n.lt hk).2
   obtain ⟨v5,H5,a5,s5,n5,f5,o5⟩:=app_one (r:=H2.next + 1) (imm:=0) p.arrays[i].name hvb (by omega) gb (by simp;omega)
   have n5':Hb.next ≤ H5.next:=by omega
   clear n5
   have g50:H5.get 0=some (.cells p.cells 0 true):=by rw [f5 0 (by omega),oldb 0 (by omega)];exact hrH
   refine WpL.append eV eV (by rw [hkeep];exact a5) ?_
   repeat' (first
      | (apply Rx.nl ?_;clear hK K)|apply Rx.o ?_|apply Rx.on ?_|(apply Rx.cd (fun hb hbp=>?_) (fun hb hbp=>?_) <;> try (cases hb;done))|apply Wp.seq ?_|(apply Wp.ops' fun K hK=>?_)|apply Wp.block ?_|apply Rx.sk ?_|apply Rx.rt ?_|apply Rx.xt ?_)
   refine ⟨by omega,eL,eL,eN,(by simp only [sB,Nat.reduceBEq, *];exact i64_succ (n:=p.arrays.length) (by omega) (by omega)),?_⟩
   exact ⟨v5,eE,.inr ⟨by rw [htk];simp,by rw [htk];exact s5⟩⟩
 · have hie : i = p.arrays.length := by simp at hb; omega
   have hte:(arNames p).take i=arNames p:=List.take_of_length_le (by simp [arNames];omega)
   rw [hte] at hv
   clear hte hie hsI hi
   repeat' (first
      | (apply Rx.nl ?_;clear hK K)|apply Rx.o ?_|apply Rx.on ?_|(apply Rx.cd (fun hb hbp=>?_) (fun hb hbp=>?_) <;> try (cases hb;done))|apply Wp.seq ?_|(apply Wp.ops' fun K hK=>?_)|apply Wp.block ?_|apply Rx.sk ?_|apply Rx.rt ?_|apply Rx.xt ?_)
   have c3:∀ k,ownS v k → k < H2.next:=fun k hk=>(hv.n.lt hk).2
   refine Wp.forI [2,3,4,24,25] [0] 26 p.funcs.length (fun i E H=>∃ u,E.at 5=u ∧ StrX H u ((fnNms p).take i) H2.next ∧ StrX H v (arNames p) 1) eE ⟨.nilS,eE,.inl ⟨rfl,rfl⟩,hv⟩ ?_
   rintro i E H3 hi hcE hrH hnH hsI ⟨u,k5,hu,hv3⟩
   (try simp only [forall_cons,forall_nil,and_true,sB,sO,Nat.reduceBEq,Nat.reduceAdd,Nat.reduceLeDiff,tyF, *] at hcE)
   (try simp only [forall_cons,forall_nil,and_true,sB,sO,Nat.reduceBEq,Nat.reduceAdd,Nat.reduceLeDiff,tyF, *] at hrH)
   (try simp only [Hp.next_alloc,Hp.next_set,H0_next,Nat.zero_add,Nat.reduceAdd] at hnH)
   have hB0:(0 == H3.next)=false:=ne_beq (by omega)
   have hC0:(H3.next == 0)=false:=ne_beq (by omega)
   repeat' (first
      | (apply Rx.nl ?_;clear hK K)|apply Rx.o ?_|apply Rx.on ?_|(apply Rx.cd (fun hb hbp=>?_) (fun hb hbp=>?_) <;> try (cases hb;done))|apply Wp.seq ?_|(apply Wp.ops' fun K hK=>?_)|apply Wp.block ?_|apply Rx.sk ?_|apply Rx.rt ?_|apply Rx.xt ?_)
   · have hlt : i < p.funcs.length := by simpa using hb
     have hgx:p.funcs[i]?=some p.funcs[i]:=List.getElem?_eq_getElem hlt
     have htk:(fnNms p).take (i + 1)=(fnNms p).take i ++ [p.funcs[i].name]:=by rw [fnNms,List.take_add_one,List.getElem?_map,hgx];rfl
     repeat' (first
        | (apply Rx.nl ?_;clear hK K)|apply Rx.o ?_|apply Rx.on ?_|(apply Rx.cd (fun hb hbp=>?_) (fun hb hbp=>?_) <;> try (cases hb;done))|apply Wp.seq ?_|(apply Wp.ops' fun K hK=>?_)|apply Wp.block ?_|apply Rx.sk ?_|apply Rx.rt ?_|apply Rx.xt ?_)
     generalize hHb:Hp.alloc (Hp.set _ _ _) _=Hb
     have nb:Hb.next=H3.next + 2:=by rw [← hHb];rfl
     have oldb:∀ k,k < H3.next → Hb.get k=H3.get k:=fun k hk=>by rw [← hHb,Hp.get_alloc,if_neg (by simp only [Hp.next_set,Hp.next_alloc];omega),Hp.get_set,if_neg (by omega),Hp.get_alloc,if_neg (by omega)]
     have gb:Hb.get (H3.next + 1)=some (.cells [.str p.funcs[i].name] 0 true):=by rw [← hHb,Hp.get_alloc,if_pos (by rfl)]
     clear hHb
     have hub:StrN Hb u ((fnNms p).take i) H2.next:=hu.n.keep (by omega) fun k hk=>oldb k (hu.n.lt hk).2
     obtain ⟨v5,H5,a5,s5,n5,f5,o5⟩:=app_one (r:=H3.next + 1) (imm:=0) p.funcs[i].name hub (by omega) gb (by simp;omega)
     have n5':Hb.next ≤ H5.next:=by omega
     clear n5
     have g50:H5.get 0=some (.cells p.cells 0 true):=by rw [f5 0 (by omega),oldb 0 (by omega)];exact hrH
     refine WpL.append eV eV (by rw [hkeep];exact a5) ?_
     repeat' (first
        | (apply Rx.nl ?_;clear hK K)|apply Rx.o ?_|apply Rx.on ?_|(apply Rx.cd (fun hb hbp=>?_) (fun hb hbp=>?_) <;> try (cases hb;done))|apply Wp.seq ?_|(apply Wp.ops' fun K hK=>?_)|apply Wp.block ?_|apply Rx.sk ?_|apply Rx.rt ?_|apply Rx.xt ?_)
     refine ⟨by omega,eL,eL,eN,(by simp only [sB,Nat.reduceBEq, *];exact i64_succ (n:=p.funcs.length) (by omega) (by omega)),?_⟩
     exact ⟨v5,eE,.inr ⟨by rw [htk];simp,by rw [htk];exact s5⟩,hv3.keep (by omega) fun k hk=>by rw [f5 k (c3 k hk),oldb k (by have:=c3 k hk;omega)]⟩
   · have hie : i = p.funcs.length := by simp at hb; omega
     have hte:(fnNms p).take i=fnNms p:=List.take_of_length_le (by simp [fnNms];omega)
     rw [hte] at hu
     repeat' (first
        | (apply Rx.nl ?_;clear hK K)|apply Rx.o ?_|apply Rx.on ?_|(apply Rx.cd (fun hb hbp=>?_) (fun hb hbp=>?_) <;> try (cases hb;done))|apply Wp.seq ?_|(apply Wp.ops' fun K hK=>?_)|apply Wp.block ?_|apply Rx.sk ?_|apply Rx.rt ?_|apply Rx.xt ?_)
     all_goals (refine ⟨eI,_,eR,?_⟩;try simp only [oneOr])
     have e1:=hv3.iceV (n:=0)
     have e2:=hu.iceV (n:=0)
     show (match iceL (iceV H3 2) [v,u] with|some ds=>some (AV.tup ds)|none=>none)=_
     simp only [iceL,e1,e2])) (by
 show AV.tup [wkN 2 (nlS (arNames p)),wkN 2 (nlS (fnNms p))]=_
 rw [wk_nlS,wk_nlS])
noncomputable def enDecl:En:=⟨76,false,spP (fun p=>p.sz < 2 ^ 36) prE fun p=>.tup [lstS (arNames p),lstS (fnNms p)]⟩
theorem enDecl_ok (ρ:Nat → Int):EnOk Try.prog ρ enDecl:=spP_ok fun p hp=>declared_con ρ p hp
noncomputable def enHasD:En:=⟨77,true,spP rwOk rwE fun x=>.bool (dupFrom [] x.flatten)⟩
theorem enHasD_ok (ρ:Nat → Int):EnOk Try.prog ρ enHasD:=spP_ok fun x hx=>hasDup_con ρ x hx
theorem flat1 (x:List (List (List UInt8))):(x.map fun l=>[lstS l]).flatten=x.map lstS:=by
 induction x with
 | nil=>rfl
 | cons a l ih=>simp [ih]
theorem rows_ice {H:Hp} {r imm:Nat} {x:List (List (List UInt8))} (hg:H.get r=some (.cells (x.map lstS) imm true)) (hr:r < H.next) (hi:imm ≤ x.length) :
   ∃ H',iceHL (iceH 100) [.sl r 0 x.length 1] H=some (rwE x,H') ∧ Icy (fun k=>k=r) H H':=by
 refine Ic.iceL (S:=fun k=>k=r) (n:=100) (m:=rwE x) ⟨?_,trivial⟩
 have h:=Ic.rows (S:=fun k=>k=r) (n:=99) (H:=H) (r:=r) (z:=1) (imm:=imm) (tip:=true) (a:=x.map fun l=>[lstS l]) (b:=x.map fun l=>[lstS l]) rfl hr (by rw [flat1];exact hg) (by rw [flat1];simpa using hi) (by simp) (All2.refl fun a ha=>All2.refl fun c hc=>by
   obtain ⟨l,_,rfl⟩:=List.mem_map.1 ha
   rw [List.mem_singleton] at hc
   subst hc
   exact Ic.flat ⟨strs_pure l,trivial⟩)
 rw [List.length_map] at h
 exact h
theorem hasDupM {l:List En} (hl:∀ ar,lookN l 77 ar=enHasD.sp ar) (hi:iceN l 77=true) {H:Hp} {r imm:Nat} {x:List (List (List UInt8))} (hg:H.get r=some (.cells (x.map lstS) imm true)) (hr:r < H.next) (him:imm ≤ x.length) (hx:rwOk x) :
   WpCall Try.prog (cfgN pls l) 77 [.sl r 0 x.length 1] H fun v H'=>v=.bool (dupFrom [] x.flatten) ∧ Icy (fun k=>k=r) H H':=by
 obtain ⟨H',h1,h2⟩:=rows_ice hg hr him
 refine WpCall.mono ?_ (WpCall.enI (enc:=rwE) (out:=fun x=>.bool (dupFrom [] x.flatten)) rwE_inj (x:=x) hl hi hx (H':=H') (fun y _ e=>by simp [rwE] at e) h1)
 rintro v _ ⟨rfl,rfl⟩
 exact ⟨rfl,h2⟩
theorem bsR1 (H:Hp) (a:List (List AV)):buildSliceA Try.prog H 176 1 [(0,.lst a)]=some (.sl H.next 0 1 1,H.alloc (.cells [.lst a] 0 true)):=by kernel_rfl
theorem bsR2 (H:Hp) (a b:List (List AV)):buildSliceA Try.prog H 176 2 [(0,.lst a),(1,.lst b)]=some (.sl H.next 0 2 1,H.alloc (.cells [.lst a,.lst b] 0 true)):=by kernel_rfl
theorem bsR3 (H:Hp) (a b c:List (List AV)):buildSliceA Try.prog H 176 3 [(0,.lst a),(1,.lst b),(2,.lst c)]=some (.sl H.next 0 3 1,H.alloc (.cells [.lst a,.lst b,.lst c] 0 true)):=by kernel_rfl
noncomputable def levDup:List En:=[enDecl,enHasD]
theorem levDup_ok (ρ:Nat → Int):EnsOk Try.prog ρ levDup:=⟨enDecl_ok ρ,enHasD_ok ρ,trivial⟩
set_option maxRecDepth 100000 in
theorem duplicates_con (ρ : Nat → Int) (p : Pr) (hz : p.sz < 2 ^ 36) : Con Try.prog ρ 38 (prE p) (.bool (dupB p)) := Con.lev fit (pls := pls) (levDup_ok ρ) (.cons (.agg p.pure) .nil) (.bool _) (by
  have hw:Plain (cfgN pls levDup) 38:=plainN (fun _=>rfl) rfl
  have kd:∀ H,WpCall Try.prog (cfgN pls levDup) 76 [.agg p.cells] H fun v H'=>v=.tup [lstS (arNames p),lstS (fnNms p)] ∧ H'=H:=fun H=>WpCall.en (enc:=prE) (out:=fun p=>.tup [lstS (arNames p),lstS (fnNms p)]) prE_inj (x:=p) rfl hz
  have hpz:p.sz=1 + arrsSz p.arrays + fnsSz p.funcs:=rfl
  have hla:=arrsSz_len p.arrays
  have hlf:=fnsSz_len p.funcs
  have hal:(arNames p).length=p.arrays.length:=by simp [arNames]
  have hfl:(fnNms p).length=p.funcs.length:=by simp [fnNms]
  have hx0:∀ a b,Ab.extract (.tup [a,b]) 0=some a:=fun _ _=>rfl
  have hx1:∀ a b,Ab.extract (.tup [a,b]) 1=some b:=fun _ _=>rfl
  rw [prE]
  refine WpCall.slim (M:=35) (rs:=[.tmp 2]) (hw.call _) hw.ice hw.froz Try.func38 rfl rfl code38.2 rfl ?_;dsimp only [code38,envOf,Nat.reduceAdd]
  have gh0:=@bsR1
  repeat' (first
     | (apply Rx.nl ?_;clear hK K)|apply Rx.o ?_|apply Rx.on ?_|(apply Rx.call ?_;first|refine Rx.k (kd _) ?_)|(apply Rx.gd (fun hg hgp=>?_) (fun hg hgp=>?_) <;> try (cases hg;done))|(apply Rx.cd (fun hb hbp=>?_) (fun hb hbp=>?_) <;> try (cases hb;done))|apply Wp.seq ?_|(apply Wp.ops' fun K hK=>?_)|apply Wp.block ?_|apply Rx.sk ?_|apply Rx.rt ?_|apply Rx.xt ?_)
  refine WpL.call rfl eVk eAk ?_;simp only [List.cons_append,List.nil_append,List.append_nil]
  refine WpCall.mono ?_ (hasDupM (x:=[arNames p]) (imm:=0) (fun _=>rfl) rfl (by rw [Hp.get_alloc,if_pos (by rfl)];rfl) (Nat.lt_succ_self _) (by simp) ⟨by simp,by simp;omega⟩)
  rintro v H2 ⟨rfl,hy⟩
  have n2:=hy.next
  simp only [Hp.next_alloc,H0_next] at n2
  have g20:H2.get 0=some (.cells p.cells 0 true):=by rw [hy.out 0 (by simp),Hp.get_alloc,if_neg (by simp),Hp.get_alloc,if_pos (by rfl)]
  have n2':2 ≤ H2.next:=by omega
  clear hy n2
  rw [show ([arNames p]:List (List (List UInt8))).flatten=arNames p by simp]
  dsimp only [setO]
  have gh0:=@bsR1
  repeat' (first
     | (apply Rx.nl ?_;clear hK K)|apply Rx.o ?_|apply Rx.on ?_|(apply Rx.gd (fun hg hgp=>?_) (fun hg hgp=>?_) <;> try (cases hg;done))|(apply Rx.cd (fun hb hbp=>?_) (fun hb hbp=>?_) <;> try (cases hb;done))|apply Wp.seq ?_|(apply Wp.ops' fun K hK=>?_)|apply Wp.block ?_|apply Rx.sk ?_|apply Rx.rt ?_|apply Rx.xt ?_)
  · refine WpL.call rfl eVk eAk ?_; simp only [List.cons_append, List.nil_append, List.append_nil]
    refine WpCall.mono ?_ (hasDupM (x:=[fnNms p]) (imm:=0) (fun _=>rfl) rfl (by rw [Hp.get_alloc,if_pos (by rfl)];rfl) (Nat.lt_succ_self _) (by simp) ⟨by simp,by simp;omega⟩)
    rintro v H3 ⟨rfl,hy⟩
    have n3:=hy.next
    simp only [Hp.next_alloc] at n3
    have g30:H3.get 0=some (.cells p.cells 0 true):=by rw [hy.out 0 (by omega),Hp.get_alloc,if_neg (by omega)];exact g20
    have n3':2 ≤ H3.next:=by omega
    clear hy n3
    rw [show ([fnNms p]:List (List (List UInt8))).flatten=fnNms p by simp]
    dsimp only [setO]
    repeat' (first
       | (apply Rx.nl ?_;clear hK K)|apply Rx.o ?_|apply Rx.on ?_|(apply Rx.gd (fun hg hgp=>?_) (fun hg hgp=>?_) <;> try (cases hg;done))|(apply Rx.cd (fun hb hbp=>?_) (fun hb hbp=>?_) <;> try (cases hb;done))|apply Wp.seq ?_|(apply Wp.ops' fun K hK=>?_)|apply Wp.block ?_|apply Rx.sk ?_|apply Rx.rt ?_|apply Rx.xt ?_)
    · all_goals (refine ⟨eI, _, eR, ?_⟩; try simp only [oneOr])
      rw [dupB];(try simp only [Bool.not_eq_true',Bool.not_eq_false'] at *);simp only [*,decide_true,decide_false,Bool.false_or,Bool.or_false,Bool.true_or,Bool.or_true,Bool.false_and,Bool.and_false,Bool.true_and,Bool.and_true,Bool.not_true,Bool.not_false,if_true,if_false,Int.reduceEq]
    · refine Wp.forI [3, 21, 22] [0] 23 p.funcs.length (fun i E H => (p.funcs.any fun f => dupFrom [] (arNames p ++ (f.params ++ f.locals))) = ((p.funcs.drop i).any fun f => dupFrom [] (arNames p ++ (f.params ++ f.locals)))) eE (by simp) ?_
      rintro i E H4 hi hcE hrH hnH hsI hJ
      (try simp only [forall_cons,forall_nil,and_true,sB,sO,Nat.reduceBEq,Nat.reduceAdd,Nat.reduceLeDiff,tyF, *] at hcE)
      (try simp only [forall_cons,forall_nil,and_true,sB,sO,Nat.reduceBEq,Nat.reduceAdd,Nat.reduceLeDiff,tyF, *] at hrH)
      (try simp only [Hp.next_alloc,Hp.next_set,H0_next,Nat.zero_add,Nat.reduceAdd] at hnH)
      have hB0:(0 == H4.next)=false:=ne_beq (by omega)
      have hC0:(H4.next == 0)=false:=ne_beq (by omega)
      repeat' (first
         | (apply Rx.nl ?_;clear hK K)|apply Rx.o ?_|apply Rx.on ?_|(apply Rx.gd (fun hg hgp=>?_) (fun hg hgp=>?_) <;> try (cases hg;done))|(apply Rx.cd (fun hb hbp=>?_) (fun hb hbp=>?_) <;> try (cases hb;done))|apply Wp.seq ?_|(apply Wp.ops' fun K hK=>?_)|apply Wp.block ?_|apply Rx.sk ?_|apply Rx.rt ?_|apply Rx.xt ?_)
      · have hlt : i < p.funcs.length := by simpa using hb
        have hgx:p.funcs[i]?=some p.funcs[i]:=List.getElem?_eq_getElem hlt
        have hsm:=fnsSz_mem (List.getElem_mem hlt)
        have hsz:p.funcs[i].sz=1 + p.funcs[i].name.length + strsSz p.funcs[i].params + strsSz p.funcs[i].locals + stmtsSz p.funcs[i].body + p.funcs[i].value.sz:=rfl
        have hpl:=strsSz_len p.funcs[i].params
        have hll:=strsSz_len p.funcs[i].locals
        have hdr:((p.funcs.drop i).any fun f=>dupFrom [] (arNames p ++ (f.params ++ f.locals)))=(dupFrom [] (arNames p ++ (p.funcs[i].params ++ p.funcs[i].locals)) || ((p.funcs.drop (i + 1)).any fun f=>dupFrom [] (arNames p ++ (f.params ++ f.locals)))):=by rw [List.drop_eq_getElem_cons hlt,List.any_cons]
        have gh0:=@bsR3
        repeat' (first
           | (apply Rx.nl ?_;clear hK K)|apply Rx.o ?_|apply Rx.on ?_|(apply Rx.gd (fun hg hgp=>?_) (fun hg hgp=>?_) <;> try (cases hg;done))|(apply Rx.cd (fun hb hbp=>?_) (fun hb hbp=>?_) <;> try (cases hb;done))|apply Wp.seq ?_|(apply Wp.ops' fun K hK=>?_)|apply Wp.block ?_|apply Rx.sk ?_|apply Rx.rt ?_|apply Rx.xt ?_)
        refine WpL.call rfl eVk eAk ?_;simp only [List.cons_append,List.nil_append,List.append_nil]
        refine WpCall.mono ?_ (hasDupM (x:=[arNames p,p.funcs[i].params,p.funcs[i].locals]) (imm:=0) (fun _=>rfl) rfl (by rw [Hp.get_alloc,if_pos (by rfl)];rfl) (Nat.lt_succ_self _) (by simp) ⟨by simp,by simp;omega⟩)
        rintro v H5 ⟨rfl,hy⟩
        have n5:=hy.next
        simp only [Hp.next_alloc,Hp.next_set] at n5
        have g50:H5.get 0=some (.cells p.cells 0 true):=by rw [hy.out 0 (by intro e;change (0:Nat)=_ at e;(try simp only [Hp.next_set,Hp.next_alloc] at e);omega),Hp.get_alloc,if_neg (by (try simp only [Hp.next_set,Hp.next_alloc]);omega),Hp.get_set,if_neg (by omega),Hp.get_alloc,if_neg (by omega)];exact hrH
        have n5':H4.next ≤ H5.next:=by omega
        clear hy n5
        rw [show ([arNames p,p.funcs[i].params,p.funcs[i].locals]:List (List (List UInt8))).flatten=arNames p ++ (p.funcs[i].params ++ p.funcs[i].locals) by simp]
        dsimp only [setO]
        repeat' (first
           | (apply Rx.nl ?_;clear hK K)|apply Rx.o ?_|apply Rx.on ?_|(apply Rx.gd (fun hg hgp=>?_) (fun hg hgp=>?_) <;> try (cases hg;done))|(apply Rx.cd (fun hb hbp=>?_) (fun hb hbp=>?_) <;> try (cases hb;done))|apply Wp.seq ?_|(apply Wp.ops' fun K hK=>?_)|apply Wp.block ?_|apply Rx.sk ?_|apply Rx.rt ?_|apply Rx.xt ?_)
        · all_goals (refine ⟨eI, _, eR, ?_⟩; try simp only [oneOr])
          rw [dupB,hJ,hdr];(try simp only [Bool.not_eq_true',Bool.not_eq_false'] at *);simp only [*,decide_true,decide_false,Bool.false_or,Bool.or_false,Bool.true_or,Bool.or_true,Bool.false_and,Bool.and_false,Bool.true_and,Bool.and_true,Bool.not_true,Bool.not_false,if_true,if_false,Int.reduceEq]
        · refine ⟨by omega, eL, eL, eN, (by simp only [sB, Nat.reduceBEq, *]; exact i64_succ (n := p.funcs.length) (by omega) (by omega)), ?_⟩
          rw [hJ,hdr];(try simp only [Bool.not_eq_true',Bool.not_eq_false'] at *);simp only [*,decide_true,decide_false,Bool.false_or,Bool.or_false,Bool.true_or,Bool.or_true,Bool.false_and,Bool.and_false,Bool.true_and,Bool.and_true,Bool.not_true,Bool.not_false,if_true,if_false,Int.reduceEq]
      · all_goals (refine ⟨eI, _, eR, ?_⟩; try simp only [oneOr])
        have hie:i=p.funcs.length:=by simp at hb;omega
        rw [hie,List.drop_length] at hJ
        have hJ2:(p.funcs.any fun f=>dupFrom [] (arNames p ++ (f.params ++ f.locals)))=false:=hJ
        rw [dupB,hJ2];(try simp only [Bool.not_eq_true',Bool.not_eq_false'] at *);simp only [*,decide_true,decide_false,Bool.false_or,Bool.or_false,Bool.true_or,Bool.or_true,Bool.false_and,Bool.and_false,Bool.true_and,Bool.and_true,Bool.not_true,Bool.not_false,if_true,if_false,Int.reduceEq]
  · repeat' (first
       | (apply Rx.nl ?_;clear hK K)|apply Rx.o ?_|apply Rx.on ?_|(apply Rx.gd (fun hg hgp=>?_) (fun hg hgp=>?_) <;> try (cases hg;done))|(apply Rx.cd (fun hb hbp=>?_) (fun hb hbp=>?_) <;> try (cases hb;done))|apply Wp.seq ?_|(apply Wp.ops' fun K hK=>?_)|apply Wp.block ?_|apply Rx.sk ?_|apply Rx.rt ?_|apply Rx.xt ?_)
    all_goals (refine ⟨eI,_,eR,?_⟩;try simp only [oneOr])
    rw [dupB];(try simp only [Bool.not_eq_true',Bool.not_eq_false'] at *);simp only [*,decide_true,decide_false,Bool.false_or,Bool.or_false,Bool.true_or,Bool.or_true,Bool.false_and,Bool.and_false,Bool.true_and,Bool.and_true,Bool.not_true,Bool.not_false,if_true,if_false,Int.reduceEq])
end Go.Proofs.Ytackdnelcpbfjaa
