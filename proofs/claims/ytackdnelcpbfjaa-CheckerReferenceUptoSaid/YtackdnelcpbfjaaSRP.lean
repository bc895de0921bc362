/- Parts: Mu1, Mu2, PgY. -/
import Derived.Test.YtackdnelcpbfjaaSRO
set_option linter.unusedSimpArgs false
set_option linter.unusedVariables false
set_option linter.unusedSectionVars false
set_option linter.defProp false
set_option maxHeartbeats 32000000
namespace Go.Proofs.Ytackdnelcpbfjaa
set_option maxRecDepth 20000
set_option maxRecDepth 20000
open Go Go.Ab
namespace tyMu1
def tyF:=And.intro @tq2 (And.intro @tq3 (And.intro @tq9 (And.intro @tq35 (And.intro @tq37 (And.intro @tq39 (@bin_quo))))))
end tyMu1
open tyMu1
noncomputable def code34:{ c:SC // slim 80 (Try.f34.body.getD .skip)=c }:=by
 refine ⟨?_,?_⟩
 rotate_left
 · simp only [Try.f34, Option.getD_some, slim, slimR, slimL, slimD, slimG, Nat.blt, Nat.ble]
   rfl
theorem flat_drop {z:Nat}:∀ {rows:List (List AV)} {i:Nat} {r:List AV},(∀ x ∈ rows,x.length=z) → rows[i]?=some r → rows.flatten.drop (i * z)=r ++ (rows.drop (i + 1)).flatten
 | [],i,r,_,e=>by simp at e
 | a :: rows, 0, r, h, e => by
   simp only [List.getElem?_cons_zero,Option.some.injEq] at e
   subst e;simp
 | a :: rows, i + 1, r, h, e => by
   have ha:=h a List.mem_cons_self
   have ih:=flat_drop (rows:=rows) (i:=i) (r:=r) (fun x hx=>h x (List.mem_cons_of_mem _ hx)) (by simpa using e)
   have e1:(i + 1) * z=a.length + i * z:=by rw [Nat.succ_mul,ha];omega
   rw [List.flatten_cons,e1,List.drop_length_add_append,ih];rfl
theorem flat_splice {z:Nat} {w:List AV} (hw:w.length=z):∀ {rows:List (List AV)} {i:Nat},(∀ x ∈ rows,x.length=z) → i < rows.length → splice rows.flatten (i * z) w=(rows.set i w).flatten
 | [],i,_,e=>by simp at e
 | a :: rows, 0, h, e => by
   have ha:=h a List.mem_cons_self
   simp only [splice,Nat.zero_mul,List.take_zero,List.nil_append,Nat.zero_add,List.flatten_cons,List.set_cons_zero]
   rw [List.drop_append_of_le_length (by omega),List.drop_of_length_le (by omega),List.nil_append]
 | a :: rows, i + 1, h, e => by
   have ha:=h a List.mem_cons_self
   have ih:=flat_splice hw (rows:=rows) (i:=i) (fun x hx=>h x (List.mem_cons_of_mem _ hx)) (by simpa using e)
   simp only [splice,List.flatten_cons,List.set_cons_succ] at ih ⊢
   have e1:(i + 1) * z=a.length + i * z:=by rw [Nat.succ_mul,ha];omega
   rw [e1,List.take_length_add_append,Nat.add_assoc,List.drop_length_add_append,List.append_assoc,List.append_assoc]
   rw [List.append_assoc] at ih
   rw [ih]
theorem agg_row {z:Nat} {rows:List (List AV)} {i:Nat} {r:List AV} (h:∀ x ∈ rows,x.length=z) (e:rows[i]?=some r):aggA z (rows.flatten.drop (i * z))=some (.agg r):=by
 have hr:=h r (List.mem_of_getElem? e)
 rw [flat_drop h e]
 unfold aggA
 rw [List.take_append_of_le_length (by omega),List.take_of_length_le (by omega),if_pos hr]
theorem rows_exs (l:List Ex):∀ x ∈ l.map Ex.cells,x.length=5:=fun r hr=>by
 obtain ⟨a,_,rfl⟩:=List.mem_map.1 hr;exact a.clen
theorem exs_one:∀ l:List Ex,(l.map Ex.cells).flatten.all AV.one=true
 | []=>rfl
 | a :: l=>by rw [List.map_cons,List.flatten_cons,List.all_append,a.one,exs_one l];rfl
theorem RowsW.exs {S:Nat → Prop} {n:Nat} {H:Hp}:∀ l:List Ex,RowsW S (n + 1) H 5 (l.map Ex.cells) (l.map Ex.cells)
 | []=>trivial
 | a :: l=>⟨⟨a.clen,CellsW.ex a⟩,RowsW.exs l⟩
theorem app_rows {P : Program} {t e : TypeId} {z b : Nat} {zz : List AV} (ht : P.underlying t = some (.slice e)) (hs : sizeA P e = some z) (hb : bytesA P e = some b) (hz : zeroA P e = some zz) (hzz : zz.length = z) (hsrc : srcType P t = true)
    {H:Hp} {q:Nat} (hg:H.get q=some (.cells [] 0 true)) (hq:q < H.next) {rows:List (List AV)} (hr:∀ x ∈ rows,x.length=z) (hone:rows.flatten.all AV.one=true) (hb1:rows.length * b ≤ maxRoom) (hb2:rows.length ≤ maxRoom) :
    ∃ q' H',appendA P false H t t (.sl q 0 0 z) (.lst rows)=some (.sl q' 0 rows.length z,H') ∧ H'.get q'=some (.cells rows.flatten 0 true) ∧ (q'=q ∨ q'=H.next) ∧ q' < H'.next ∧ H.next ≤ H'.next ∧ H'.next ≤ H.next + 1 ∧ ∀ k,k < H.next → k ≠ q → H'.get k=H.get k:=by
  have hx:srcCells H z (.lst rows)=some (rows.length,rows.flatten):=src_rows hr
  by_cases h0:rows=[]
  · subst h0
    refine ⟨q,H,?_,hg,.inl rfl,hq,Nat.le_refl _,Nat.le_succ _,fun _ _ _=>rfl⟩
    simp only [List.length_nil] at hx
    simp only [appendA,ht,hs,hb,hz,hsrc,hx,List.length_nil]
  · obtain ⟨m, hm⟩ : ∃ m, rows.length = m + 1 := ⟨rows.length - 1, by have := List.length_pos_iff.2 h0; omega⟩
    have htr:trimA false H z (.sl q 0 0 z)=H:=by
      unfold trimA
      simp only [hg]
      have:Nat.blt (0 + 0 * z) ([]:List AV).length=false:=by
        cases hb:Nat.blt (0 + 0 * z) ([]:List AV).length with
        | false=>rfl
        | true=>rw [Nat.blt_eq] at hb;simp at hb
      simp only [this,Bool.and_false,Bool.false_and]
    refine ⟨H.next,(H.kill q).alloc (.cells rows.flatten 0 true),?_,?_,.inr rfl,Nat.lt_succ_self _,Nat.le_succ _,Nat.le_refl _,fun k hk hno=>?_⟩
    · rw [hm] at hx hb1 hb2
      simp only [appendA,ht,hs,hb,hz,hsrc,hx,hone,htr,hzz,and_self,if_true,appendOnto,hg,Nat.zero_add,Nat.zero_mul,List.drop_nil,Bool.false_eq_true,if_false]
      rw [if_pos ⟨by simpa using hb1,by simpa using hb2,by simp,trivial,by simp⟩,hm]
      simp
    · show ((H.kill q).alloc _).get (H.kill q).next = _
      rw [Hp.get_alloc,if_pos rfl]
    · rw [Hp.get_alloc,if_neg (by simp only [Hp.next_kill];omega),Hp.get_kill,if_neg hno]
theorem astore_row {P:Program} {t z q i:Nat} {tip:Bool} {H:Hp} {rows:List (List AV)} {w:List AV} (hs:sizeA P t=some z) (hg:H.get q=some (.cells rows.flatten 0 tip)) (hz:∀ x ∈ rows,x.length=z) (hi:i < rows.length) (hw:w.length=z) (h1:w.all AV.one=true):astore P H t (.ptr q (i * z)) (.agg w)=some (H.set q (.cells (rows.set i w).flatten 0 tip)):=by
 have hl:=rows_len hz
 have hb:i * z + z ≤ rows.flatten.length:=by
   rw [hl]
   have:(i + 1) * z ≤ rows.length * z:=Nat.mul_le_mul_right z hi
   rw [Nat.succ_mul] at this;exact this
 simp only [astore,hg,hs]
 show (if w.length=z ∧ 0 ≤ i * z ∧ i * z + z ≤ rows.flatten.length ∧ w.all AV.one=true then some (H.set q (.cells (splice rows.flatten (i * z) w) 0 tip)) else none)=_
 rw [if_pos ⟨hw,Nat.zero_le _,hb,h1⟩,flat_splice hw hz hi]
theorem CellsW.made {S:Nat → Prop} {n:Nat} {H:Hp} {cs ws:List AV} (h:CellsW S n H cs ws) (hn:n ≤ 58):∃ m u,iceV H m (.agg cs)=some u ∧ wkN 60 u=.agg ws:=by
 obtain ⟨us,h1,h2⟩:=h
 have h3:Ic S 100 H (.agg cs) (.agg us):=Ic.up (n:=n + 1) ⟨us,h1,rfl⟩ (by omega)
 obtain ⟨m0,hm⟩:=Ic.iceV h3
 refine ⟨m0,.agg us,hm m0 (Nat.le_refl _),?_⟩
 show AV.agg (us.map (wkN 59))=_
 rw [h2 59 (by omega)]
theorem Con.recW {ρ:Nat → Int} {l:List En} (hl:EnsOk Try.prog ρ l) {α:Type} (sz:α → Nat) {f:FuncId} {ok:α → Prop} {enc:α → List AV} {out:α → AV} (hp:∀ x,ok x → PureL (enc x))
   (h:∀ x,ok x → WpCall Try.prog (cfgN pls (⟨f,false,spP (fun y=>ok y ∧ sz y < sz x) enc out⟩ :: l)) f (enc x) H0 fun v H'=>∃ m u,iceV H' m v=some u ∧ wkN 60 u=out x):∀ x,ok x → Con Try.prog ρ f (enc x) (out x):=by
 have key:∀ n x,sz x < n → ok x → Con Try.prog ρ f (enc x) (out x):=by
   intro n
   induction n with
   | zero=>intro x hx;omega
   | succ n ih =>
     intro x hx hok
     exact con_of_wk2 (cfg:=cfgN pls (⟨f,false,spP (fun y=>ok y ∧ sz y < sz x) enc out⟩ :: l)) fit (noDec ρ) (fun g args r hg=>EnsOk.look (l:=⟨f,false,spP (fun y=>ok y ∧ sz y < sz x) enc out⟩ :: l) ⟨spP_ok fun y hy=>ih y (by omega) hy.1,hl⟩ g args r hg) (hp x hok) (h x hok)
 exact fun x=>key (sz x + 1) x (Nat.lt_succ_self _)
def num0:Ex:=.mk 1 0 [] 0 []
def nmM (l:List (List UInt8)) (n m:Int):List UInt8:=l.getD (pickG n m).toNat []
def nmsE:List (List UInt8):=[[120],[113],[97],[102],[],[105,102]]
mutual
def mutE : Ex → Int → Int → Ex
 | .mk k n nm op kids, how, a =>
   if pickG how 9=0 then .mk (w64 (pickG (w64 (how.tdiv 9)) 8 - 1)) n nm op kids
   else if pickG how 9=1 then .mk k (pickG a 3) nm op kids
   else if pickG how 9=2 then .mk k n (nmM nmsE a 6) op kids
   else if pickG how 9=3 then .mk k n nm (pickG (w64 (how.tdiv 9)) 40) kids
   else if pickG how 9=4 then .mk k n nm op (kids ++ [num0])
   else if pickG how 9=5 then .mk k n nm op []
   else if pickG how 9=6 then .mk k n nm op (mutK kids (pickG a kids.length).toNat (w64 (how.tdiv 9)) (w64 (a.tdiv 3)))
   else .mk k n nm op kids
def mutK:List Ex → Nat → Int → Int → List Ex
 | [],_,_,_=>[]
 | x :: l,0,how,a=>mutE x how a :: l
 | x :: l,i + 1,how,a=>x :: mutK l i how a
end
theorem mutK_set:∀ (l:List Ex) (i:Nat) (x:Ex) (how a:Int),l[i]?=some x → mutK l i how a=l.set i (mutE x how a)
 | [],i,x,_,_,h=>by simp at h
 | y :: l, 0, x, how, a, h => by
   simp only [List.getElem?_cons_zero,Option.some.injEq] at h
   subst h;rw [mutK];rfl
 | y :: l, i + 1, x, how, a, h => by
   rw [mutK,mutK_set l i x how a (by simpa using h)];rfl
structure MuA where
 x:Ex
 how:Int
 a:Int
def muE (y:MuA):List AV:=[.agg y.x.cells,.int .i64 y.how,.int .i64 y.a]
theorem muE_inj (x y:MuA) (h:muE x=muE y):x=y:=by
 obtain ⟨a,b,c⟩:=x
 obtain ⟨a',b',c'⟩:=y
 simp only [muE,List.cons.injEq,AV.agg.injEq,AV.int.injEq,and_true,true_and] at h
 obtain ⟨h1,rfl,rfl⟩:=h
 rw [Ex.inj h1]
theorem bsE0 (H:Hp):buildSliceA Try.prog H 37 0 []=some (.sl H.next 0 0 5,H.alloc (.cells [] 0 true)):=by kernel_rfl
theorem bs6 (H:Hp) (a b c d e f:List UInt8):buildSliceA Try.prog H 35 6 [(0,.str a),(1,.str b),(2,.str c),(3,.str d),(4,.str e),(5,.str f)]=some (.sl H.next 0 6 1,H.alloc (.cells ([a,b,c,d,e,f].map .str) 0 true)):=by kernel_rfl
theorem bEn:buildA Try.prog 39 [(0,.int .i64 1)]=some (.agg [.int .i64 1,.int .i64 0,.str [],.int .i64 0,.nilS]):=by kernel_rfl
theorem bsEn (H:Hp) (a b c d e:AV):buildSliceA Try.prog H 37 1 [(0,.agg [a,b,c,d,e])]=some (.sl H.next 0 1 5,H.alloc (.cells [a,b,c,d,e] 0 true)):=by kernel_rfl
theorem ixSt (r m:Nat) {n:Int} (h0:0 ≤ n) (h1:n.toNat < m):indexAddrA Try.prog 35 (.sl r 0 m 1) (.int .i64 n)=some (.ptr r n.toNat):=by
 rw [ix35s _ _ _ _ h0,decide_eq_true h1];simp
theorem ixEx (r m:Nat) {n:Int} (h0:0 ≤ n) (h1:n.toNat < m):indexAddrA Try.prog 37 (.sl r 0 m 5) (.int .i64 n)=some (.ptr r (n.toNat * 5)):=by
 rw [ix37s _ _ _ _ h0,decide_eq_true h1];simp
theorem nm_at (l:List (List UInt8)) {n:Int} (h1:n.toNat < l.length):(l.map AV.str)[n.toNat]?=some (.str (l.getD n.toNat [])):=by
 rw [List.getElem?_map,List.getD_eq_getElem?_getD,List.getElem?_eq_getElem h1];rfl
theorem aggE5 (a b c d e:AV):aggA 5 [a,b,c,d,e]=some (.agg [a,b,c,d,e]):=rfl
theorem ex_made {H:Hp} (k n op:Int) (nm:List UInt8) {kv:AV} {es:List Ex} {S:Nat → Prop} {m:Nat} (h:RdW S (m + 1) H kv (.lst (es.map Ex.cells))) (hm:m ≤ 57):∃ m0 u,iceV H m0 (.agg [.int .i64 k,.int .i64 n,.str nm,.int .i64 op,kv])=some u ∧ wkN 60 u=.agg (Ex.mk k n nm op es).cells:=(ex_node k n op nm h).made (by omega)
noncomputable def levMu:List En:=[enPick]
theorem levMu_ok (ρ:Nat → Int):EnsOk Try.prog ρ levMu:=⟨enPick_ok ρ,trivial⟩
theorem mutE_con (ρ:Nat → Int):∀ y:MuA,y.x.sz < 2 ^ 36 → Con Try.prog ρ 34 (muE y) (.agg (mutE y.x y.how y.a).cells):=
 Con.recW (levMu_ok ρ) (fun y=>y.x.sz) (ok:=fun y=>y.x.sz < 2 ^ 36) (enc:=muE) (out:=fun y=>.agg (mutE y.x y.how y.a).cells) (fun y _=>.cons (.agg y.x.pure) (.cons (.int _ _) (.cons (.int _ _) .nil))) (fun y hx=>by
 have hw:=plainR (sz:=fun y:MuA=>y.x.sz) (ok:=fun y=>y.x.sz < 2 ^ 36) (out:=fun y=>.agg (mutE y.x y.how y.a).cells) muE_inj (f:=34) (l:=levMu) y
 generalize hl:(⟨34,false,spP (fun z=>z.x.sz < 2 ^ 36 ∧ z.x.sz < y.x.sz) muE fun y=>.agg (mutE y.x y.how y.a).cells⟩:En) :: levMu=l at hw ⊢
 obtain ⟨x,how,a⟩:=y
 simp only at hx hl hw ⊢
 have kr:∀ (y:Ex) (h b:Int),y.sz < x.sz → ∀ H,WpCall Try.prog (cfgN pls l) 34 [.agg y.cells,.int .i64 h,.int .i64 b] H fun v H'=>v=.agg (mutE y h b).cells ∧ H'=H:=fun y h b h2 H=>by
   subst hl;exact WpCall.en (enc:=muE) (out:=fun y=>.agg (mutE y.x y.how y.a).cells) muE_inj (x:=⟨y,h,b⟩) rfl ⟨show y.sz < 2 ^ 36 by omega,h2⟩
 have kp:∀ n m:Int,m ≠ 0 → ∀ H,WpCall Try.prog (cfgN pls l) 16 [.int .i64 n,.int .i64 m] H fun v H'=>v=.int .i64 (pickG n m) ∧ H'=H:=fun n m h H=>by
   subst hl;exact WpCall.en (enc:=pkE) (ok:=fun x=>x.2 ≠ 0) (out:=fun x=>.int .i64 (pickG x.1 x.2)) pkE_inj (x:=(n,m)) rfl h
 have hkeep:(cfgN pls l).keep 34=false:=rfl
 clear hl
 have hsz:=x.sz_eq
 have hlen:=exprsSz_len x.kids
 have hq:=pickG_range (n:=how) (m:=9) (by omega) (by omega)
 have h6:=pickG_range (n:=a) (m:=6) (by omega) (by omega)
 have h9:(9:Int) ≠ 0:=by decide
 have h3:(3:Int) ≠ 0:=by decide
 generalize hR:mutE x how a=R
 obtain ⟨k,n,nm,op,kids⟩:=x
 rw [mutE] at hR
 have e5:(Ex.mk k n nm op kids).cells=[.int .i64 k,.int .i64 n,.str nm,.int .i64 op,.lst (kids.map Ex.cells)]:=by rw [Ex.cells_eq];rfl
 change WpCall _ _ _ [.agg (Ex.mk k n nm op kids).cells,.int .i64 how,.int .i64 a] _ _
 change PlainA _ _ [.agg (Ex.mk k n nm op kids).cells,.int .i64 how,.int .i64 a] at hw
 rw [e5] at hw ⊢
 clear e5
 simp only [Ex.kids] at hsz hlen
 have hn6:=nm_at nmsE (n:=pickG a 6) (by show _ < 6;omega)
 have hi6:=fun r=>ixSt r 6 h6.1 (by omega)
 have h60:=h6.1
 have hb6:=fun H=>bs6 H [120] [113] [97] [102] [] [105,102]
 change ∀ H,buildSliceA _ H _ _ _=some (_,H.alloc (.cells (nmsE.map .str) 0 true)) at hb6
 refine WpCall.slim (M:=80) (rs:=[.cell 6 39]) hw.call hw.ice hw.froz Try.func34 rfl rfl code34.2 rfl ?_;dsimp only [code34,envOf,Nat.reduceAdd]
 have kpl:∀ n:Int,(0:Int) < kids.length → ∀ H,WpCall Try.prog (cfgN pls l) 16 [.int .i64 n,.int .i64 (kids.length:Int)] H fun v H'=>v=.int .i64 (pickG n kids.length) ∧ H'=H:=fun n h H=>kp n _ (by omega) H
 have gh0:=@aggE5
 have gh1:=@bsE0
 have gh2:=@bEn
 have gh3:=@bsEn
 repeat' (first
    | (apply Rx.nl ?_;clear hK K)|apply Ry.o ?_|apply Ry.on ?_|(apply Ry.call ?_;first|refine Rx.k (kp _ _ (by decide) _) ?_|refine Rx.k (kpl _ (by omega) _) ?_)|(apply Ry.cd (fun hb hbp=>?_) (fun hb hbp=>?_) <;> try (cases hb;done))|apply Wp.seq ?_|(apply Wp.ops' fun K hK=>?_)|(apply Rx.dT 18 [(1,12),(1,14),(4,12),(7,12)] fun K hK=>?_)|(apply Rx.nq ?_;try intro _)|(apply Rx.nt ?_ ?_ <;> clear hK K)|apply WpT.step ?_|apply WpT.step0 rfl ?_|apply Wp.block ?_|apply Rx.sk ?_|apply Rx.rt ?_)
 · refine ⟨eI, _, (by (try simp only [sB, sO, Nat.reduceBEq, Nat.reduceAdd, Nat.reduceLeDiff, tyF, resultsA, resultA, aggE5, *]); first | done | with_reducible rfl), ?_⟩; try simp only [oneOr]
   rw [if_pos (by assumption)] at hR
   subst hR
   exact ex_made (S:=fun _=>True) (m:=0) _ _ _ _ (RdW.exs kids) (by omega)
 · refine ⟨eI, _, (by (try simp only [sB, sO, Nat.reduceBEq, Nat.reduceAdd, Nat.reduceLeDiff, tyF, resultsA, resultA, aggE5, *]); first | done | with_reducible rfl), ?_⟩; try simp only [oneOr]
   rw [if_neg (by omega),if_pos (by omega)] at hR
   subst hR
   exact ex_made (S:=fun _=>True) (m:=0) _ _ _ _ (RdW.exs kids) (by omega)
 · refine ⟨eI, _, (by (try simp only [sB, sO, Nat.reduceBEq, Nat.reduceAdd, Nat.reduceLeDiff, tyF, resultsA, resultA, aggE5, *]); first | done | with_reducible rfl), ?_⟩; try simp only [oneOr]
   rw [if_neg (by omega),if_neg (by omega),if_pos (by omega)] at hR
   subst hR
   exact ex_made (S:=fun _=>True) (m:=0) _ _ _ _ (RdW.exs kids) (by omega)
 · refine ⟨eI, _, (by (try simp only [sB, sO, Nat.reduceBEq, Nat.reduceAdd, Nat.reduceLeDiff, tyF, resultsA, resultA, aggE5, *]); first | done | with_reducible rfl), ?_⟩; try simp only [oneOr]
   rw [if_neg (by omega),if_neg (by omega),if_neg (by omega),if_pos (by omega)] at hR
   subst hR
   exact ex_made (S:=fun _=>True) (m:=0) _ _ _ _ (RdW.exs kids) (by omega)
 · rw [if_neg (by omega), if_neg (by omega), if_neg (by omega), if_neg (by omega), if_pos (by omega)] at hR
   generalize hHb:Hp.alloc (Hp.alloc (Hp.alloc H0 _) _) _=Hb
   have nb:Hb.next=3:=by rw [← hHb];rfl
   have g0:Hb.get 0=some (.cells [.int .i64 k,.int .i64 n,.str nm,.int .i64 op,.lst (kids.map Ex.cells)] 0 true):=by rw [← hHb];simp [Hp.get_alloc,Hp.next_alloc,H0_next]
   have g1:Hb.get 1=some (.cells [.int .i64 0,.int .i64 0,.str [],.int .i64 0,.nilS] 0 true):=by rw [← hHb];simp [Hp.get_alloc,Hp.next_alloc,H0_next]
   have g2:Hb.get 2=some (.cells [] 0 true):=by rw [← hHb];simp [Hp.get_alloc,Hp.next_alloc,H0_next]
   clear hHb
   obtain ⟨q',H4,a4,gq,hq',lq,n4,n4',o4⟩:=app_rows (P:=Try.prog) (t:=37) Try.underlying37 sz39 bt39 zr39 rfl (by kernel_rfl) g2 (by omega) (rows:=kids.map Ex.cells) (rows_exs kids) (exs_one kids) (by simp [maxRoom];omega) (by simp [maxRoom];omega)
   simp only [List.length_map] at a4
   have h0:H4.get 0=some (.cells [.int .i64 k,.int .i64 n,.str nm,.int .i64 op,.lst (kids.map Ex.cells)] 0 true):=by rw [o4 0 (by omega) (by omega)];exact g0
   have h1:H4.get 1=some (.cells [.int .i64 0,.int .i64 0,.str [],.int .i64 0,.nilS] 0 true):=by rw [o4 1 (by omega) (by omega)];exact g1
   have lo:2 ≤ q':=by omega
   have n40:3 ≤ H4.next:=by omega
   clear nb g0 g1 g2 o4 n4 n4' hq'
   have e2:(q' == 0)=false:=ne_beq (by omega)
   have e3:(0 == q')=false:=ne_beq (by omega)
   have e4:(1 == q')=false:=ne_beq (by omega)
   have e0:(0 == H4.next)=false:=ne_beq (by omega)
   have e1:(1 == H4.next)=false:=ne_beq (by omega)
   have gh0:=@bEn
   have gh1:=@bsEn
   repeat' (first
      | (apply Rx.nl ?_;clear hK K)|apply Rx.o ?_|apply Rx.on ?_|apply Wp.seq ?_|(apply Wp.ops' fun K hK=>?_)|(apply Rx.dT 18 [(1,12),(1,14),(4,12),(7,12)] fun K hK=>?_)|(apply Rx.nq ?_;try intro _)|(apply Rx.nt ?_ ?_ <;> clear hK K)|apply WpT.step ?_|apply WpT.step0 rfl ?_|apply Wp.block ?_|apply Rx.sk ?_|apply Rx.rt ?_)
   obtain ⟨v5,H5,a5,s5,n5,f5,q5⟩:=RowOwn.push (P:=Try.prog) (t:=37) Try.underlying37 sz39 bt39 zr39 rfl (by kernel_rfl) (lo:=2) (n:=1) (H:=H4.alloc (.cells [.int .i64 1,.int .i64 0,.str [],.int .i64 0,.nilS] 0 true)) (v:=.sl q' 0 kids.length 5) (ws:=kids.map Ex.cells) (.inr ⟨q',0,kids.map Ex.cells,by rw [List.length_map],lo,by simp only [Hp.next_alloc];omega,by rw [Hp.get_alloc,if_neg (by omega)];exact gq,Nat.zero_le _,RowsW.exs kids⟩) (by simp only [Hp.next_alloc];omega) (r:=H4.next) (imm:=0) (row:=[.int .i64 1,.int .i64 0,.str [],.int .i64 0,.nilS]) (w:=num0.cells) (by rw [Hp.get_alloc,if_pos rfl]) rfl rfl (ex_leaf 1 0 0 []) (by simp [maxRoom];omega) (by simp [maxRoom];omega)
   have h05:H5.get 0=some (.cells [.int .i64 k,.int .i64 n,.str nm,.int .i64 op,.lst (kids.map Ex.cells)] 0 true):=by rw [f5 0 (by simp only [Hp.next_alloc];omega) (fun o m z' e=>by simp only [AV.sl.injEq] at e;omega),Hp.get_alloc,if_neg (by omega)];exact h0
   have h15:H5.get 1=some (.cells [.int .i64 0,.int .i64 0,.str [],.int .i64 0,.nilS] 0 true):=by rw [f5 1 (by simp only [Hp.next_alloc];omega) (fun o m z' e=>by simp only [AV.sl.injEq] at e;omega),Hp.get_alloc,if_neg (by omega)];exact h1
   obtain ⟨t1,t2⟩:=s5.one
   clear f5 q5 n5 h0 h1
   have gh0:=@aggE5
   repeat' (first
      | (apply Rx.nl ?_;clear hK K)|apply Rx.o ?_|apply Rx.on ?_|apply Wp.seq ?_|(apply Wp.ops' fun K hK=>?_)|(apply Rx.dT 18 [(1,12),(1,14),(4,12),(7,12)] fun K hK=>?_)|(apply Rx.nq ?_;try intro _)|(apply Rx.nt ?_ ?_ <;> clear hK K)|apply WpT.step ?_|apply WpT.step0 rfl ?_|apply Wp.block ?_|apply Rx.sk ?_|apply Rx.rt ?_)
   refine ⟨eI,_,(by (try simp only [sB,sO,Nat.reduceBEq,Nat.reduceAdd,Nat.reduceLeDiff,tyF,resultsA,resultA,aggE5, *]);first|done|with_reducible rfl),?_⟩;try simp only [oneOr]
   subst hR
   refine ex_made (S:=fun k=>2 ≤ k) (m:=1) _ _ _ _ ?_ (by omega)
   rw [List.map_append]
   exact s5.rd.keep2 (fun _ _ h=>h) (Nat.le_refl _) fun k h1 h2=>by rw [Hp.get_set,if_neg (by omega),Hp.get_set,if_neg (by omega)]
 · refine ⟨eI, _, (by (try simp only [sB, sO, Nat.reduceBEq, Nat.reduceAdd, Nat.reduceLeDiff, tyF, resultsA, resultA, aggE5, *]); first | done | with_reducible rfl), ?_⟩; try simp only [oneOr]
   rw [if_neg (by omega),if_neg (by omega),if_neg (by omega),if_neg (by omega),if_neg (by omega),if_pos (by omega)] at hR
   subst hR
   exact ex_made (S:=fun _=>True) (m:=0) _ _ _ _ .nilS (by omega)
 · rw [if_neg (by omega), if_neg (by omega), if_neg (by omega), if_neg (by omega), if_neg (by omega), if_neg (by omega), if_pos (by omega)] at hR
   generalize hHb:Hp.alloc (Hp.alloc (Hp.alloc H0 _) _) _=Hb
   have nb:Hb.next=3:=by rw [← hHb];rfl
   have g0:Hb.get 0=some (.cells [.int .i64 k,.int .i64 n,.str nm,.int .i64 op,.lst (kids.map Ex.cells)] 0 true):=by rw [← hHb];simp [Hp.get_alloc,Hp.next_alloc,H0_next]
   have g1:Hb.get 1=some (.cells [.int .i64 0,.int .i64 0,.str [],.int .i64 0,.nilS] 0 true):=by rw [← hHb];simp [Hp.get_alloc,Hp.next_alloc,H0_next]
   have g2:Hb.get 2=some (.cells [] 0 true):=by rw [← hHb];simp [Hp.get_alloc,Hp.next_alloc,H0_next]
   clear hHb
   obtain ⟨q',H4,a4,gq,hq',lq,n4,n4',o4⟩:=app_rows (P:=Try.prog) (t:=37) Try.underlying37 sz39 bt39 zr39 rfl (by kernel_rfl) g2 (by omega) (rows:=kids.map Ex.cells) (rows_exs kids) (exs_one kids) (by simp [maxRoom];omega) (by simp [maxRoom];omega)
   simp only [List.length_map] at a4
   have h0:H4.get 0=some (.cells [.int .i64 k,.int .i64 n,.str nm,.int .i64 op,.lst (kids.map Ex.cells)] 0 true):=by rw [o4 0 (by omega) (by omega)];exact g0
   have h1:H4.get 1=some (.cells [.int .i64 0,.int .i64 0,.str [],.int .i64 0,.nilS] 0 true):=by rw [o4 1 (by omega) (by omega)];exact g1
   have lo:2 ≤ q':=by omega
   have n40:3 ≤ H4.next:=by omega
   clear nb g0 g1 g2 o4 n4 n4' hq'
   have e2:(q' == 0)=false:=ne_beq (by omega)
   have e3:(0 == q')=false:=ne_beq (by omega)
   have e4:(1 == q')=false:=ne_beq (by omega)
   have e0:(0 == H4.next)=false:=ne_beq (by omega)
   have e1:(1 == H4.next)=false:=ne_beq (by omega)
   have hp:=pickG_range (n:=a) (m:=kids.length) (by omega) (by omega)
   have hlt:(pickG a kids.length).toNat < kids.length:=by omega
   have hi5:indexAddrA Try.prog 37 (.sl q' 0 kids.length 5) (.int .i64 (pickG a kids.length))=some (.ptr q' ((pickG a kids.length).toNat * 5)):=ixEx q' _ hp.1 hlt
   obtain ⟨y,hy⟩:∃ y,kids[(pickG a kids.length).toNat]?=some y:=⟨_,List.getElem?_eq_getElem hlt⟩
   have hrow:(kids.map Ex.cells)[(pickG a kids.length).toNat]?=some y.cells:=by rw [List.getElem?_map,hy];rfl
   have hagg:=agg_row (rows_exs kids) hrow
   have hsm:=exprsSz_mem (List.mem_of_getElem? hy)
   have kr1:=fun H=>kr y (w64 (how.tdiv 9)) (w64 (a.tdiv 3)) (by show y.sz < 1 + nm.length + exprsSz kids;omega) H
   rw [mutK_set _ _ _ _ _ hy] at hR
   have gh0:=@aggE5
   repeat' (first
      | (apply Rx.nl ?_;clear hK K)|apply Rx.o ?_|apply Rx.on ?_|(apply Rx.call ?_;first|refine Rx.k (kr1 _) ?_)|apply Wp.seq ?_|(apply Wp.ops' fun K hK=>?_)|(apply Rx.dT 18 [(1,12),(1,14),(4,12),(7,12)] fun K hK=>?_)|(apply Rx.nq ?_;try intro _)|(apply Rx.nt ?_ ?_ <;> clear hK K)|apply WpT.step ?_|apply WpT.step0 rfl ?_|apply Wp.block ?_|apply Rx.sk ?_|apply Rx.rt ?_)
   refine WpL.store eV eV (astore_row (rows:=kids.map Ex.cells) sz39 (by rw [Hp.get_set,if_neg (by omega)];exact gq) (rows_exs kids) (by rw [List.length_map];exact hlt) (Ex.clen _) (Ex.one _)) ?_
   have gh0:=@aggE5
   repeat' (first
      | (apply Rx.nl ?_;clear hK K)|apply Rx.o ?_|apply Rx.on ?_|apply Wp.seq ?_|(apply Wp.ops' fun K hK=>?_)|(apply Rx.dT 18 [(1,12),(1,14),(4,12),(7,12)] fun K hK=>?_)|(apply Rx.nq ?_;try intro _)|(apply Rx.nt ?_ ?_ <;> clear hK K)|apply WpT.step ?_|apply WpT.step0 rfl ?_|apply Wp.block ?_|apply Rx.sk ?_|apply Rx.rt ?_)
   · exact eK
   refine ⟨eI,_,(by (try simp only [sB,sO,Nat.reduceBEq,Nat.reduceAdd,Nat.reduceLeDiff,tyF,resultsA,resultA,aggE5, *]);first|done|with_reducible rfl),?_⟩;try simp only [oneOr]
   subst hR
   refine ex_made (S:=fun k=>2 ≤ k) (m:=1) _ _ _ _ ?_ (by omega)
   have hks:(kids.map Ex.cells).set (pickG a kids.length).toNat (mutE y (w64 (how.tdiv 9)) (w64 (a.tdiv 3))).cells=(kids.set (pickG a kids.length).toNat (mutE y (w64 (how.tdiv 9)) (w64 (a.tdiv 3)))).map Ex.cells:=List.map_set.symm
   have:=RdW.rows (S:=fun k=>2 ≤ k) (n:=1) (z:=5) (tip:=true) (imm:=0) (r:=q') (H:=Hp.set (Hp.set (Hp.set H4 0 (.cells [.int .i64 k,.int .i64 n,.str nm,.int .i64 op,.sl q' 0 kids.length 5] 0 true)) q' (.cells ((kids.map Ex.cells).set (pickG a kids.length).toNat (mutE y (w64 (how.tdiv 9)) (w64 (a.tdiv 3))).cells).flatten 0 true)) 1 (.cells [.int .i64 k,.int .i64 n,.str nm,.int .i64 op,.sl q' 0 kids.length 5] 0 true)) (a:=(kids.set (pickG a kids.length).toNat (mutE y (w64 (how.tdiv 9)) (w64 (a.tdiv 3)))).map Ex.cells) lo lq (by rw [Hp.get_set,if_neg (by omega),Hp.get_set,if_pos rfl,hks]) (Nat.zero_le _) (RowsW.exs _)
   rw [List.length_map,List.length_set] at this
   exact this
 · refine ⟨eI, _, (by (try simp only [sB, sO, Nat.reduceBEq, Nat.reduceAdd, Nat.reduceLeDiff, tyF, resultsA, resultA, aggE5, *]); first | done | with_reducible rfl), ?_⟩; try simp only [oneOr]
   rw [if_neg (by omega),if_neg (by omega),if_neg (by omega),if_neg (by omega),if_neg (by omega),if_neg (by omega),if_pos (by omega)] at hR
   subst hR
   have hk0:kids=[]:=List.eq_nil_of_length_eq_zero (by omega)
   subst hk0
   exact ex_made (S:=fun _=>True) (m:=0) _ _ _ _ (RdW.exs []) (by omega)
 · refine ⟨eI, _, (by (try simp only [sB, sO, Nat.reduceBEq, Nat.reduceAdd, Nat.reduceLeDiff, tyF, resultsA, resultA, aggE5, *]); first | done | with_reducible rfl), ?_⟩; try simp only [oneOr]
   rw [if_neg (by omega),if_neg (by omega),if_neg (by omega),if_neg (by omega),if_neg (by omega),if_neg (by omega),if_neg (by omega)] at hR
   subst hR
   exact ex_made (S:=fun _=>True) (m:=0) _ _ _ _ (RdW.exs kids) (by omega))
end Go.Proofs.Ytackdnelcpbfjaa
namespace Go.Proofs.Ytackdnelcpbfjaa
set_option maxRecDepth 20000
set_option maxRecDepth 20000
open Go Go.Ab
namespace tyMu2
def tyF:=And.intro @tq2 (And.intro @tq3 (And.intro @tq9 (And.intro @tq26 (And.intro @tq35 (And.intro @tq36 (And.intro @tq37 (And.intro @tq39 (And.intro @tq46 (And.intro @bin_quo (And.intro @bsE0 (And.intro @bEn (@bsEn))))))))))))
end tyMu2
open tyMu2
noncomputable def code35:{ c:SC // slim 125 (Try.f35.body.getD .skip)=c }:=by
 refine ⟨?_,?_⟩
 rotate_left
 · simp only [Try.f35, Option.getD_some, slim, slimR, slimL, slimD, slimG, Nat.blt, Nat.ble]
   rfl
theorem rows_sts (l:List St):∀ x ∈ l.map St.cells,x.length=17:=fun r hr=>by
 obtain ⟨a,_,rfl⟩:=List.mem_map.1 hr;exact a.clen
theorem sts_one:∀ l:List St,(l.map St.cells).flatten.all AV.one=true
 | []=>rfl
 | a :: l=>by rw [List.map_cons,List.flatten_cons,List.all_append,a.one,sts_one l];rfl
theorem RowsW.sts {S:Nat → Prop} {n:Nat} {H:Hp}:∀ l:List St,RowsW S (n + 1) H 17 (l.map St.cells) (l.map St.cells)
 | []=>trivial
 | a :: l=>⟨⟨a.clen,CellsW.st a⟩,RowsW.sts l⟩
def nmsS1:List (List UInt8):=[[120],[113],[97],[102],[],[116,114,97,112]]
def nmsS2:List (List UInt8):=[[102],[103],[104],[],[97]]
def numsS:List Int:=[0,1,-1,1000000,1000001]
def trp (n:Int):St:=.mk 7 [] [] n zE zE [] [] []
mutual
def mutS : St → Int → Int → St
 | .mk k nm to n e v args thn els, how, a =>
   if pickG how 13=0 then .mk (w64 (pickG (w64 (how.tdiv 13)) 10 - 1)) nm to n e v args thn els
   else if pickG how 13=1 then .mk k (nmM nmsS1 a 6) to n e v args thn els
   else if pickG how 13=2 then .mk k nm (nmM nmsS2 a 5) n e v args thn els
   else if pickG how 13=3 then .mk k nm to (numsS.getD (pickG a 5).toNat 0) e v args thn els
   else if pickG how 13=4 then .mk k nm to n (mutE e (w64 (how.tdiv 13)) a) v args thn els
   else if pickG how 13=5 then .mk k nm to n e (mutE v (w64 (how.tdiv 13)) a) args thn els
   else if pickG how 13=6 then .mk k nm to n e v (args ++ [num0]) thn els
   else if pickG how 13=7 then .mk k nm to n e v [] thn els
   else if pickG how 13=8 then .mk k nm to n e v args thn (els ++ [trp 0])
   else if pickG how 13=9 then .mk k nm to n e v args (thn ++ [trp (pickG a 3)]) els
   else if pickG how 13=10 then .mk k nm to n e v args (mutL thn (pickG a thn.length).toNat (w64 (how.tdiv 13)) (w64 (a.tdiv 3))) els
   else .mk k nm to n e v args thn els
def mutL:List St → Nat → Int → Int → List St
 | [],_,_,_=>[]
 | x :: l,0,how,a=>mutS x how a :: l
 | x :: l,i + 1,how,a=>x :: mutL l i how a
end
theorem mutL_set:∀ (l:List St) (i:Nat) (x:St) (how a:Int),l[i]?=some x → mutL l i how a=l.set i (mutS x how a)
 | [],i,x,_,_,h=>by simp at h
 | y :: l, 0, x, how, a, h => by
   simp only [List.getElem?_cons_zero,Option.some.injEq] at h
   subst h;rw [mutL];rfl
 | y :: l, i + 1, x, how, a, h => by
   rw [mutL,mutL_set l i x how a (by simpa using h)];rfl
structure MuB where
 x:St
 how:Int
 a:Int
def mbE (y:MuB):List AV:=[.agg y.x.cells,.int .i64 y.how,.int .i64 y.a]
theorem mbE_inj (x y:MuB) (h:mbE x=mbE y):x=y:=by
 obtain ⟨a,b,c⟩:=x
 obtain ⟨a',b',c'⟩:=y
 simp only [mbE,List.cons.injEq,AV.agg.injEq,AV.int.injEq,and_true,true_and] at h
 obtain ⟨h1,rfl,rfl⟩:=h
 rw [St.inj h1]
noncomputable def enMutE:En:=⟨34,true,spP (fun y=>y.x.sz < 2 ^ 36) muE fun y=>.agg (mutE y.x y.how y.a).cells⟩
theorem enMutE_ok (ρ:Nat → Int):EnOk Try.prog ρ enMutE:=spP_ok fun y hy=>mutE_con ρ y hy
noncomputable def levMv:List En:=[enPick,enMutE]
theorem levMv_ok (ρ:Nat → Int):EnsOk Try.prog ρ levMv:=⟨enPick_ok ρ,enMutE_ok ρ,trivial⟩
theorem bs5s (H:Hp) (a b c d e:List UInt8):buildSliceA Try.prog H 35 5 [(0,.str a),(1,.str b),(2,.str c),(3,.str d),(4,.str e)]=some (.sl H.next 0 5 1,H.alloc (.cells ([a,b,c,d,e].map .str) 0 true)):=by kernel_rfl
theorem bs5i (H:Hp) (a b c d e:Int):buildSliceA Try.prog H 26 5 [(0,.int .i64 a),(1,.int .i64 b),(2,.int .i64 c),(3,.int .i64 d),(4,.int .i64 e)]=some (.sl H.next 0 5 1,H.alloc (.cells ([a,b,c,d,e].map (.int .i64)) 0 true)):=by kernel_rfl
theorem ixIn (r m:Nat) {n:Int} (h0:0 ≤ n) (h1:n.toNat < m):indexAddrA Try.prog 26 (.sl r 0 m 1) (.int .i64 n)=some (.ptr r n.toNat):=by
 rw [ix26s _ _ _ _ h0,decide_eq_true h1];simp
theorem ixSm (r m:Nat) {n:Int} (h0:0 ≤ n) (h1:n.toNat < m):indexAddrA Try.prog 36 (.sl r 0 m 17) (.int .i64 n)=some (.ptr r (n.toNat * 17)):=by
 rw [ix36s _ _ _ _ h0,decide_eq_true h1];simp
theorem in_at (l:List Int) {n:Int} (h1:n.toNat < l.length):(l.map (AV.int .i64))[n.toNat]?=some (.int .i64 (l.getD n.toNat 0)):=by
 rw [List.getElem?_map,List.getD_eq_getElem?_getD,List.getElem?_eq_getElem h1];rfl
theorem bsS0' (H:Hp):buildSliceA Try.prog H 36 0 []=some (.sl H.next 0 0 17,H.alloc (.cells [] 0 true)):=by kernel_rfl
theorem bTr:buildA Try.prog 46 [(0,.int .i64 7)]=some (.agg [.int .i64 7,.str [],.str [],.int .i64 0,.int .i64 0,.int .i64 0,.str [],.int .i64 0,.nilS,.int .i64 0,.int .i64 0,.str [],.int .i64 0,.nilS,.nilS,.nilS,.nilS]):=by kernel_rfl
theorem bTn (n:Int):buildA Try.prog 46 [(0,.int .i64 7),(3,.int .i64 n)]=some (.agg [.int .i64 7,.str [],.str [],.int .i64 n,.int .i64 0,.int .i64 0,.str [],.int .i64 0,.nilS,.int .i64 0,.int .i64 0,.str [],.int .i64 0,.nilS,.nilS,.nilS,.nilS]):=by kernel_rfl
theorem bsT17 (H:Hp) (c0 c1 c2 c3 c4 c5 c6 c7 c8 c9 d0 d1 d2 d3 d4 d5 d6:AV):buildSliceA Try.prog H 36 1 [(0,.agg [c0,c1,c2,c3,c4,c5,c6,c7,c8,c9,d0,d1,d2,d3,d4,d5,d6])]=some (.sl H.next 0 1 17,H.alloc (.cells [c0,c1,c2,c3,c4,c5,c6,c7,c8,c9,d0,d1,d2,d3,d4,d5,d6] 0 true)):=by kernel_rfl
theorem aggS17 (c0 c1 c2 c3 c4 c5 c6 c7 c8 c9 d0 d1 d2 d3 d4 d5 d6:AV):aggA 17 [c0,c1,c2,c3,c4,c5,c6,c7,c8,c9,d0,d1,d2,d3,d4,d5,d6]=some (.agg [c0,c1,c2,c3,c4,c5,c6,c7,c8,c9,d0,d1,d2,d3,d4,d5,d6]):=rfl
theorem aggS4 (c0 c1 c2 c3 c4 c5 c6 c7 c8 c9 d0 d1 d2 d3 d4 d5 d6:AV):aggA 5 (List.drop 4 [c0,c1,c2,c3,c4,c5,c6,c7,c8,c9,d0,d1,d2,d3,d4,d5,d6])=some (.agg [c4,c5,c6,c7,c8]):=rfl
theorem aggS9 (c0 c1 c2 c3 c4 c5 c6 c7 c8 c9 d0 d1 d2 d3 d4 d5 d6:AV):aggA 5 (List.drop 9 [c0,c1,c2,c3,c4,c5,c6,c7,c8,c9,d0,d1,d2,d3,d4,d5,d6])=some (.agg [c9,d0,d1,d2,d3]):=rfl
theorem aggS4' (c4 c5 c6 c7 c8 c9 d0 d1 d2 d3 d4 d5 d6:AV):aggA 5 [c4,c5,c6,c7,c8,c9,d0,d1,d2,d3,d4,d5,d6]=some (.agg [c4,c5,c6,c7,c8]):=rfl
theorem aggS9' (c9 d0 d1 d2 d3 d4 d5 d6:AV):aggA 5 [c9,d0,d1,d2,d3,d4,d5,d6]=some (.agg [c9,d0,d1,d2,d3]):=rfl
theorem exW {S:Nat → Prop} {n:Nat} {H:Hp} (e:Ex):CellsW S (n + 1) H [.int .i64 e.kind,.int .i64 e.n,.str e.name,.int .i64 e.op,.lst (e.kids.map Ex.cells)] e.cells:=by
 cases e;exact ex_node _ _ _ _ (RdW.exs _)
theorem st_made {H:Hp} (k n:Int) (nm to:List UInt8) (e v:Ex) {va vt vl:AV} {args:List Ex} {thn els:List St} {S:Nat → Prop} {m:Nat} (h1:RdW S (m + 1) H va (.lst (args.map Ex.cells))) (h2:RdW S (m + 1) H vt (.lst (thn.map St.cells))) (h3:RdW S (m + 1) H vl (.lst (els.map St.cells))) (hm:m ≤ 57) :
   ∃ m0 u,iceV H m0 (.agg [.int .i64 k,.str nm,.str to,.int .i64 n,.int .i64 e.kind,.int .i64 e.n,.str e.name,.int .i64 e.op,.lst (e.kids.map Ex.cells),.int .i64 v.kind,.int .i64 v.n,.str v.name,.int .i64 v.op,.lst (v.kids.map Ex.cells),va,vt,vl])=some u ∧ wkN 60 u=.agg (St.mk k nm to n e v args thn els).cells:=
 (st_node k nm to n (exW e) (exW v) h1 h2 h3).made (by omega)
theorem mutS_con (ρ:Nat → Int):∀ y:MuB,y.x.sz < 2 ^ 36 → Con Try.prog ρ 35 (mbE y) (.agg (mutS y.x y.how y.a).cells):=
 Con.recW (levMv_ok ρ) (fun y=>y.x.sz) (ok:=fun y=>y.x.sz < 2 ^ 36) (enc:=mbE) (out:=fun y=>.agg (mutS y.x y.how y.a).cells) (fun y _=>.cons (.agg y.x.pure) (.cons (.int _ _) (.cons (.int _ _) .nil))) (fun y hx=>by
 have hw:=plainR (sz:=fun y:MuB=>y.x.sz) (ok:=fun y=>y.x.sz < 2 ^ 36) (out:=fun y=>.agg (mutS y.x y.how y.a).cells) mbE_inj (f:=35) (l:=levMv) y
 generalize hl:(⟨35,false,spP (fun z=>z.x.sz < 2 ^ 36 ∧ z.x.sz < y.x.sz) mbE fun y=>.agg (mutS y.x y.how y.a).cells⟩:En) :: levMv=l at hw ⊢
 obtain ⟨x,how,a⟩:=y
 simp only at hx hl hw ⊢
 have kr:∀ (y:St) (h b:Int),y.sz < x.sz → ∀ H,WpCall Try.prog (cfgN pls l) 35 [.agg y.cells,.int .i64 h,.int .i64 b] H fun v H'=>v=.agg (mutS y h b).cells ∧ H'=H:=fun y h b h2 H=>by
   subst hl;exact WpCall.en (enc:=mbE) (out:=fun y=>.agg (mutS y.x y.how y.a).cells) mbE_inj (x:=⟨y,h,b⟩) rfl ⟨show y.sz < 2 ^ 36 by omega,h2⟩
 have ke:∀ (y:Ex) (h b:Int),y.sz < 2 ^ 36 → ∀ H,WpCall Try.prog (cfgN pls l) 34 [.agg [.int .i64 y.kind,.int .i64 y.n,.str y.name,.int .i64 y.op,.lst (y.kids.map Ex.cells)],.int .i64 h,.int .i64 b] H fun v H'=>v=.agg [.int .i64 (mutE y h b).kind,.int .i64 (mutE y h b).n,.str (mutE y h b).name,.int .i64 (mutE y h b).op,.lst ((mutE y h b).kids.map Ex.cells)] ∧ H'=H:=fun y h b h2 H=>by
   rw [← Ex.cells_eq,← Ex.cells_eq]
   subst hl;exact WpCall.en (enc:=muE) (out:=fun y=>.agg (mutE y.x y.how y.a).cells) muE_inj (x:=⟨y,h,b⟩) rfl h2
 have kp:∀ n m:Int,m ≠ 0 → ∀ H,WpCall Try.prog (cfgN pls l) 16 [.int .i64 n,.int .i64 m] H fun v H'=>v=.int .i64 (pickG n m) ∧ H'=H:=fun n m h H=>by
   subst hl;exact WpCall.en (enc:=pkE) (ok:=fun x=>x.2 ≠ 0) (out:=fun x=>.int .i64 (pickG x.1 x.2)) pkE_inj (x:=(n,m)) rfl h
 have hkeep:(cfgN pls l).keep 35=false:=rfl
 clear hl
 have hsz:=x.sz_eq
 have hlen:=exprsSz_len x.args
 have hlen2:=stmtsSz_len x.thn
 have hlen3:=stmtsSz_len x.els
 have hq:=pickG_range (n:=how) (m:=13) (by omega) (by omega)
 have h6:=pickG_range (n:=a) (m:=6) (by omega) (by omega)
 have h5:=pickG_range (n:=a) (m:=5) (by omega) (by omega)
 have h13:(13:Int) ≠ 0:=by decide
 have h3:(3:Int) ≠ 0:=by decide
 generalize hR:mutS x how a=R
 obtain ⟨k,nm,to,n,e,v,args,thn,els⟩:=x
 rw [mutS] at hR
 have e17:(St.mk k nm to n e v args thn els).cells=[.int .i64 k,.str nm,.str to,.int .i64 n,.int .i64 e.kind,.int .i64 e.n,.str e.name,.int .i64 e.op,.lst (e.kids.map Ex.cells),.int .i64 v.kind,.int .i64 v.n,.str v.name,.int .i64 v.op,.lst (v.kids.map Ex.cells),.lst (args.map Ex.cells),.lst (thn.map St.cells),.lst (els.map St.cells)]:=by rw [St.cells_eq];rfl
 change WpCall _ _ _ [.agg (St.mk k nm to n e v args thn els).cells,.int .i64 how,.int .i64 a] _ _
 change PlainA _ _ [.agg (St.mk k nm to n e v args thn els).cells,.int .i64 how,.int .i64 a] at hw
 rw [e17] at hw ⊢
 clear e17
 simp only [St.args,St.thn,St.els] at hsz hlen hlen2 hlen3
 have hse:e.sz < 2 ^ 36:=by simp only [St.sz] at hx;omega
 have hsv:v.sz < 2 ^ 36:=by simp only [St.sz] at hx;omega
 have hn1:=nm_at nmsS1 (n:=pickG a 6) (by show _ < 6;omega)
 have hn2:=nm_at nmsS2 (n:=pickG a 5) (by show _ < 5;omega)
 have hn3:=in_at numsS (n:=pickG a 5) (by show _ < 5;omega)
 have hi6:=fun r=>ixSt r 6 h6.1 (by omega)
 have hi5:=fun r=>ixSt r 5 h5.1 (by omega)
 have hi5':=fun r=>ixIn r 5 h5.1 (by omega)
 have h60:=h6.1
 have h50:=h5.1
 have hb6:=fun H=>bs6 H [120] [113] [97] [102] [] [116,114,97,112]
 change ∀ H,buildSliceA _ H _ _ _=some (_,H.alloc (.cells (nmsS1.map .str) 0 true)) at hb6
 have hb5:=fun H=>bs5s H [102] [103] [104] [] [97]
 change ∀ H,buildSliceA _ H _ _ _=some (_,H.alloc (.cells (nmsS2.map .str) 0 true)) at hb5
 have hb5':=fun H=>bs5i H 0 1 (-1) 1000000 1000001
 change ∀ H,buildSliceA _ H _ _ _=some (_,H.alloc (.cells (numsS.map (.int .i64)) 0 true)) at hb5'
 have kpl:∀ n:Int,(0:Int) < thn.length → ∀ H,WpCall Try.prog (cfgN pls l) 16 [.int .i64 n,.int .i64 (thn.length:Int)] H fun v H'=>v=.int .i64 (pickG n thn.length) ∧ H'=H:=fun n h H=>kp n _ (by omega) H
 refine WpCall.slim (M:=125) (rs:=[.cell 6 46]) hw.call hw.ice hw.froz Try.func35 rfl rfl code35.2 rfl ?_;dsimp only [code35,envOf,Nat.reduceAdd]
 have gh0:=@aggS17
 have gh1:=@aggS4
 have gh2:=@aggS9
 have gh3:=@aggS4'
 have gh4:=@aggS9'
 have gh5:=@bsS0'
 have gh6:=@bTr
 have gh7:=@bTn
 have gh8:=@bsT17
 repeat' (first
    | (apply Rx.nl ?_;clear hK K)|apply Ry.o ?_|apply Ry.on ?_|(apply Ry.call ?_;first|refine Rx.k (kp _ _ (by decide) _) ?_|refine Rx.k (kpl _ (by omega) _) ?_|refine Rx.k (ke e _ _ hse _) ?_|refine Rx.k (ke v _ _ hsv _) ?_)|(apply Ry.cd (fun hb hbp=>?_) (fun hb hbp=>?_) <;> try (cases hb;done))|apply Wp.seq ?_|(apply Wp.ops' fun K hK=>?_)|(apply Rx.dT 26 [(1,12),(1,14),(4,12),(7,12)] fun K hK=>?_)|(apply Rx.nq ?_;try intro _)|(apply Rx.nt ?_ ?_ <;> clear hK K)|apply WpT.step ?_|apply WpT.step0 rfl ?_|apply Wp.block ?_|apply Rx.sk ?_|apply Rx.rt ?_)
 · refine ⟨eI, _, (by (try simp only [sB, sO, Nat.reduceBEq, Nat.reduceAdd, Nat.reduceLeDiff, tyF, resultsA, resultA, aggS17, *]); first | done | with_reducible rfl), ?_⟩; try simp only [oneOr]
   rw [if_pos (by omega)] at hR
   subst hR
   exact st_made (S:=fun _=>True) (m:=0) _ _ _ _ e v (RdW.exs args) (RdW.sts thn) (RdW.sts els) (by omega)
 · refine ⟨eI, _, (by (try simp only [sB, sO, Nat.reduceBEq, Nat.reduceAdd, Nat.reduceLeDiff, tyF, resultsA, resultA, aggS17, *]); first | done | with_reducible rfl), ?_⟩; try simp only [oneOr]
   rw [if_neg (by omega),if_pos (by omega)] at hR
   subst hR
   exact st_made (S:=fun _=>True) (m:=0) _ _ _ _ e v (RdW.exs args) (RdW.sts thn) (RdW.sts els) (by omega)
 · refine ⟨eI, _, (by (try simp only [sB, sO, Nat.reduceBEq, Nat.reduceAdd, Nat.reduceLeDiff, tyF, resultsA, resultA, aggS17, *]); first | done | with_reducible rfl), ?_⟩; try simp only [oneOr]
   rw [if_neg (by omega),if_neg (by omega),if_pos (by omega)] at hR
   subst hR
   exact st_made (S:=fun _=>True) (m:=0) _ _ _ _ e v (RdW.exs args) (RdW.sts thn) (RdW.sts els) (by omega)
 · refine ⟨eI, _, (by (try simp only [sB, sO, Nat.reduceBEq, Nat.reduceAdd, Nat.reduceLeDiff, tyF, resultsA, resultA, aggS17, *]); first | done | with_reducible rfl), ?_⟩; try simp only [oneOr]
   rw [if_neg (by omega),if_neg (by omega),if_neg (by omega),if_pos (by omega)] at hR
   subst hR
   exact st_made (S:=fun _=>True) (m:=0) _ _ _ _ e v (RdW.exs args) (RdW.sts thn) (RdW.sts els) (by omega)
 · refine ⟨eI, _, (by (try simp only [sB, sO, Nat.reduceBEq, Nat.reduceAdd, Nat.reduceLeDiff, tyF, resultsA, resultA, aggS17, *]); first | done | with_reducible rfl), ?_⟩; try simp only [oneOr]
   rw [if_neg (by omega),if_neg (by omega),if_neg (by omega),if_neg (by omega),if_pos (by omega)] at hR
   subst hR
   exact st_made (S:=fun _=>True) (m:=0) _ _ _ _ (mutE e (w64 (how.tdiv 13)) a) v (RdW.exs args) (RdW.sts thn) (RdW.sts els) (by omega)
 · refine ⟨eI, _, (by (try simp only [sB, sO, Nat.reduceBEq, Nat.reduceAdd, Nat.reduceLeDiff, tyF, resultsA, resultA, aggS17, *]); first | done | with_reducible rfl), ?_⟩; try simp only [oneOr]
   rw [if_neg (by omega),if_neg (by omega),if_neg (by omega),if_neg (by omega),if_neg (by omega),if_pos (by omega)] at hR
   subst hR
   exact st_made (S:=fun _=>True) (m:=0) _ _ _ _ e (mutE v (w64 (how.tdiv 13)) a) (RdW.exs args) (RdW.sts thn) (RdW.sts els) (by omega)
 · rw [if_neg (by omega), if_neg (by omega), if_neg (by omega), if_neg (by omega), if_neg (by omega), if_neg (by omega), if_pos (by omega)] at hR
   generalize hHb:Hp.alloc (Hp.alloc (Hp.alloc H0 _) _) _=Hb
   have nb:Hb.next=3:=by rw [← hHb];rfl
   have g0:Hb.get 0=some (.cells [.int .i64 k,.str nm,.str to,.int .i64 n,.int .i64 e.kind,.int .i64 e.n,.str e.name,.int .i64 e.op,.lst (e.kids.map Ex.cells),.int .i64 v.kind,.int .i64 v.n,.str v.name,.int .i64 v.op,.lst (v.kids.map Ex.cells),.lst (args.map Ex.cells),.lst (thn.map St.cells),.lst (els.map St.cells)] 0 true):=by rw [← hHb];simp [Hp.get_alloc,Hp.next_alloc,H0_next]
   have g1:Hb.get 1=some (.cells [.int .i64 0,.str [],.str [],.int .i64 0,.int .i64 0,.int .i64 0,.str [],.int .i64 0,.nilS,.int .i64 0,.int .i64 0,.str [],.int .i64 0,.nilS,.nilS,.nilS,.nilS] 0 true):=by rw [← hHb];simp [Hp.get_alloc,Hp.next_alloc,H0_next]
   have g2:Hb.get 2=some (.cells [] 0 true):=by rw [← hHb];simp [Hp.get_alloc,Hp.next_alloc,H0_next]
   clear hHb
   obtain ⟨q',H4,a4,gq,hq',lq,n4,n4',o4⟩:=app_rows (P:=Try.prog) (t:=37) Try.underlying37 sz39 bt39 zr39 rfl (by kernel_rfl) g2 (by omega) (rows:=args.map Ex.cells) (rows_exs args) (exs_one args) (by simp [maxRoom];omega) (by simp [maxRoom];omega)
   simp only [List.length_map] at a4
   have h0:H4.get 0=some (.cells [.int .i64 k,.str nm,.str to,.int .i64 n,.int .i64 e.kind,.int .i64 e.n,.str e.name,.int .i64 e.op,.lst (e.kids.map Ex.cells),.int .i64 v.kind,.int .i64 v.n,.str v.name,.int .i64 v.op,.lst (v.kids.map Ex.cells),.lst (args.map Ex.cells),.lst (thn.map St.cells),.lst (els.map St.cells)] 0 true):=by rw [o4 0 (by omega) (by omega)];exact g0
   have h1:H4.get 1=some (.cells [.int .i64 0,.str [],.str [],.int .i64 0,.int .i64 0,.int .i64 0,.str [],.int .i64 0,.nilS,.int .i64 0,.int .i64 0,.str [],.int .i64 0,.nilS,.nilS,.nilS,.nilS] 0 true):=by rw [o4 1 (by omega) (by omega)];exact g1
   have lo:2 ≤ q':=by omega
   have n40:3 ≤ H4.next:=by omega
   clear nb g0 g1 g2 o4 n4 n4' hq'
   have e2:(q' == 0)=false:=ne_beq (by omega)
   have e3:(0 == q')=false:=ne_beq (by omega)
   have e4:(1 == q')=false:=ne_beq (by omega)
   have e0:(0 == H4.next)=false:=ne_beq (by omega)
   have e1:(1 == H4.next)=false:=ne_beq (by omega)
   repeat' (first
      | (apply Rx.nl ?_;clear hK K)|apply Rx.o ?_|apply Rx.on ?_|apply Wp.seq ?_|(apply Wp.ops' fun K hK=>?_)|(apply Rx.dT 26 [(1,12),(1,14),(4,12),(7,12)] fun K hK=>?_)|(apply Rx.nq ?_;try intro _)|(apply Rx.nt ?_ ?_ <;> clear hK K)|apply WpT.step ?_|apply WpT.step0 rfl ?_|apply Wp.block ?_|apply Rx.sk ?_|apply Rx.rt ?_)
   obtain ⟨v5,H5,a5,s5,n5,f5,q5⟩:=RowOwn.push (P:=Try.prog) (t:=37) Try.underlying37 sz39 bt39 zr39 rfl (by kernel_rfl) (lo:=2) (n:=1) (H:=H4.alloc (.cells [.int .i64 1,.int .i64 0,.str [],.int .i64 0,.nilS] 0 true)) (v:=.sl q' 0 args.length 5) (ws:=args.map Ex.cells) (.inr ⟨q',0,args.map Ex.cells,by rw [List.length_map],lo,by simp only [Hp.next_alloc];omega,by rw [Hp.get_alloc,if_neg (by omega)];exact gq,Nat.zero_le _,RowsW.exs args⟩) (by simp only [Hp.next_alloc];omega) (r:=H4.next) (imm:=0) (row:=[.int .i64 1,.int .i64 0,.str [],.int .i64 0,.nilS]) (w:=num0.cells) (by rw [Hp.get_alloc,if_pos rfl]) rfl rfl (ex_leaf 1 0 0 []) (by simp [maxRoom];omega) (by simp [maxRoom];omega)
   have h05:H5.get 0=some (.cells [.int .i64 k,.str nm,.str to,.int .i64 n,.int .i64 e.kind,.int .i64 e.n,.str e.name,.int .i64 e.op,.lst (e.kids.map Ex.cells),.int .i64 v.kind,.int .i64 v.n,.str v.name,.int .i64 v.op,.lst (v.kids.map Ex.cells),.lst (args.map Ex.cells),.lst (thn.map St.cells),.lst (els.map St.cells)] 0 true):=by rw [f5 0 (by simp only [Hp.next_alloc];omega) (fun o m z' e=>by simp only [AV.sl.injEq] at e;omega),Hp.get_alloc,if_neg (by omega)];exact h0
   have h15:H5.get 1=some (.cells [.int .i64 0,.str [],.str [],.int .i64 0,.int .i64 0,.int .i64 0,.str [],.int .i64 0,.nilS,.int .i64 0,.int .i64 0,.str [],.int .i64 0,.nilS,.nilS,.nilS,.nilS] 0 true):=by rw [f5 1 (by simp only [Hp.next_alloc];omega) (fun o m z' e=>by simp only [AV.sl.injEq] at e;omega),Hp.get_alloc,if_neg (by omega)];exact h1
   obtain ⟨t1,t2⟩:=s5.one
   clear f5 q5 n5 h0 h1
   have gh0:=@aggS17
   repeat' (first
      | (apply Rx.nl ?_;clear hK K)|apply Rx.o ?_|apply Rx.on ?_|apply Wp.seq ?_|(apply Wp.ops' fun K hK=>?_)|(apply Rx.dT 26 [(1,12),(1,14),(4,12),(7,12)] fun K hK=>?_)|(apply Rx.nq ?_;try intro _)|(apply Rx.nt ?_ ?_ <;> clear hK K)|apply WpT.step ?_|apply WpT.step0 rfl ?_|apply Wp.block ?_|apply Rx.sk ?_|apply Rx.rt ?_)
   refine ⟨eI,_,(by (try simp only [sB,sO,Nat.reduceBEq,Nat.reduceAdd,Nat.reduceLeDiff,tyF,resultsA,resultA,aggS17, *]);first|done|with_reducible rfl),?_⟩;try simp only [oneOr]
   subst hR
   refine st_made (S:=fun k=>2 ≤ k) (m:=1) _ _ _ _ e v ?_ (RdW.sts thn) (RdW.sts els) (by omega)
   rw [List.map_append]
   exact s5.rd.keep2 (fun _ _ h=>h) (Nat.le_refl _) fun k h1 h2=>by rw [Hp.get_set,if_neg (by omega),Hp.get_set,if_neg (by omega)]
 · refine ⟨eI, _, (by (try simp only [sB, sO, Nat.reduceBEq, Nat.reduceAdd, Nat.reduceLeDiff, tyF, resultsA, resultA, aggS17, *]); first | done | with_reducible rfl), ?_⟩; try simp only [oneOr]
   rw [if_neg (by omega),if_neg (by omega),if_neg (by omega),if_neg (by omega),if_neg (by omega),if_neg (by omega),if_neg (by omega),if_pos (by omega)] at hR
   subst hR
   exact st_made (S:=fun _=>True) (m:=0) _ _ _ _ e v .nilS (RdW.sts thn) (RdW.sts els) (by omega)
 · rw [if_neg (by omega), if_neg (by omega), if_neg (by omega), if_neg (by omega), if_neg (by omega), if_neg (by omega), if_neg (by omega), if_neg (by omega), if_pos (by omega)] at hR
   generalize hHb:Hp.alloc (Hp.alloc (Hp.alloc H0 _) _) _=Hb
   have nb:Hb.next=3:=by rw [← hHb];rfl
   have g0:Hb.get 0=some (.cells [.int .i64 k,.str nm,.str to,.int .i64 n,.int .i64 e.kind,.int .i64 e.n,.str e.name,.int .i64 e.op,.lst (e.kids.map Ex.cells),.int .i64 v.kind,.int .i64 v.n,.str v.name,.int .i64 v.op,.lst (v.kids.map Ex.cells),.lst (args.map Ex.cells),.lst (thn.map St.cells),.lst (els.map St.cells)] 0 true):=by rw [← hHb];simp [Hp.get_alloc,Hp.next_alloc,H0_next]
   have g1:Hb.get 1=some (.cells [.int .i64 0,.str [],.str [],.int .i64 0,.int .i64 0,.int .i64 0,.str [],.int .i64 0,.nilS,.int .i64 0,.int .i64 0,.str [],.int .i64 0,.nilS,.nilS,.nilS,.nilS] 0 true):=by rw [← hHb];simp [Hp.get_alloc,Hp.next_alloc,H0_next]
   have g2:Hb.get 2=some (.cells [] 0 true):=by rw [← hHb];simp [Hp.get_alloc,Hp.next_alloc,H0_next]
   clear hHb
   obtain ⟨q',H4,a4,gq,hq',lq,n4,n4',o4⟩:=app_rows (P:=Try.prog) (t:=36) Try.underlying36 sz46 bt46 zr46 rfl (by kernel_rfl) g2 (by omega) (rows:=els.map St.cells) (rows_sts els) (sts_one els) (by simp [maxRoom];omega) (by simp [maxRoom];omega)
   simp only [List.length_map] at a4
   have h0:H4.get 0=some (.cells [.int .i64 k,.str nm,.str to,.int .i64 n,.int .i64 e.kind,.int .i64 e.n,.str e.name,.int .i64 e.op,.lst (e.kids.map Ex.cells),.int .i64 v.kind,.int .i64 v.n,.str v.name,.int .i64 v.op,.lst (v.kids.map Ex.cells),.lst (args.map Ex.cells),.lst (thn.map St.cells),.lst (els.map St.cells)] 0 true):=by rw [o4 0 (by omega) (by omega)];exact g0
   have h1:H4.get 1=some (.cells [.int .i64 0,.str [],.str [],.int .i64 0,.int .i64 0,.int .i64 0,.str [],.int .i64 0,.nilS,.int .i64 0,.int .i64 0,.str [],.int .i64 0,.nilS,.nilS,.nilS,.nilS] 0 true):=by rw [o4 1 (by omega) (by omega)];exact g1
   have lo:2 ≤ q':=by omega
   have n40:3 ≤ H4.next:=by omega
   clear nb g0 g1 g2 o4 n4 n4' hq'
   have e2:(q' == 0)=false:=ne_beq (by omega)
   have e3:(0 == q')=false:=ne_beq (by omega)
   have e4:(1 == q')=false:=ne_beq (by omega)
   have e0:(0 == H4.next)=false:=ne_beq (by omega)
   have e1:(1 == H4.next)=false:=ne_beq (by omega)
   have gh0:=@bTr
   have gh1:=@bsT17
   repeat' (first
      | (apply Rx.nl ?_;clear hK K)|apply Rx.o ?_|apply Rx.on ?_|apply Wp.seq ?_|(apply Wp.ops' fun K hK=>?_)|(apply Rx.dT 26 [(1,12),(1,14),(4,12),(7,12)] fun K hK=>?_)|(apply Rx.nq ?_;try intro _)|(apply Rx.nt ?_ ?_ <;> clear hK K)|apply WpT.step ?_|apply WpT.step0 rfl ?_|apply Wp.block ?_|apply Rx.sk ?_|apply Rx.rt ?_)
   obtain ⟨v5,H5,a5,s5,n5,f5,q5⟩:=RowOwn.push (P:=Try.prog) (t:=36) Try.underlying36 sz46 bt46 zr46 rfl (by kernel_rfl) (lo:=2) (n:=1) (H:=H4.alloc (.cells [.int .i64 7,.str [],.str [],.int .i64 0,.int .i64 0,.int .i64 0,.str [],.int .i64 0,.nilS,.int .i64 0,.int .i64 0,.str [],.int .i64 0,.nilS,.nilS,.nilS,.nilS] 0 true)) (v:=.sl q' 0 els.length 17) (ws:=els.map St.cells) (.inr ⟨q',0,els.map St.cells,by rw [List.length_map],lo,by simp only [Hp.next_alloc];omega,by rw [Hp.get_alloc,if_neg (by omega)];exact gq,Nat.zero_le _,RowsW.sts els⟩) (by simp only [Hp.next_alloc];omega) (r:=H4.next) (imm:=0) (row:=[.int .i64 7,.str [],.str [],.int .i64 0,.int .i64 0,.int .i64 0,.str [],.int .i64 0,.nilS,.int .i64 0,.int .i64 0,.str [],.int .i64 0,.nilS,.nilS,.nilS,.nilS]) (w:=(trp 0).cells) (by rw [Hp.get_alloc,if_pos rfl]) rfl rfl (st_node 7 [] [] 0 zC_w zC_w .nilS .nilS .nilS) (by simp [maxRoom];omega) (by simp [maxRoom];omega)
   have h05:H5.get 0=some (.cells [.int .i64 k,.str nm,.str to,.int .i64 n,.int .i64 e.kind,.int .i64 e.n,.str e.name,.int .i64 e.op,.lst (e.kids.map Ex.cells),.int .i64 v.kind,.int .i64 v.n,.str v.name,.int .i64 v.op,.lst (v.kids.map Ex.cells),.lst (args.map Ex.cells),.lst (thn.map St.cells),.lst (els.map St.cells)] 0 true):=by rw [f5 0 (by simp only [Hp.next_alloc];omega) (fun o m z' e=>by simp only [AV.sl.injEq] at e;omega),Hp.get_alloc,if_neg (by omega)];exact h0
   have h15:H5.get 1=some (.cells [.int .i64 0,.str [],.str [],.int .i64 0,.int .i64 0,.int .i64 0,.str [],.int .i64 0,.nilS,.int .i64 0,.int .i64 0,.str [],.int .i64 0,.nilS,.nilS,.nilS,.nilS] 0 true):=by rw [f5 1 (by simp only [Hp.next_alloc];omega) (fun o m z' e=>by simp only [AV.sl.injEq] at e;omega),Hp.get_alloc,if_neg (by omega)];exact h1
   obtain ⟨t1,t2⟩:=s5.one
   clear f5 q5 n5 h0 h1
   have gh0:=@aggS17
   repeat' (first
      | (apply Rx.nl ?_;clear hK K)|apply Rx.o ?_|apply Rx.on ?_|apply Wp.seq ?_|(apply Wp.ops' fun K hK=>?_)|(apply Rx.dT 26 [(1,12),(1,14),(4,12),(7,12)] fun K hK=>?_)|(apply Rx.nq ?_;try intro _)|(apply Rx.nt ?_ ?_ <;> clear hK K)|apply WpT.step ?_|apply WpT.step0 rfl ?_|apply Wp.block ?_|apply Rx.sk ?_|apply Rx.rt ?_)
   refine ⟨eI,_,(by (try simp only [sB,sO,Nat.reduceBEq,Nat.reduceAdd,Nat.reduceLeDiff,tyF,resultsA,resultA,aggS17, *]);first|done|with_reducible rfl),?_⟩;try simp only [oneOr]
   subst hR
   refine st_made (S:=fun k=>2 ≤ k) (m:=1) _ _ _ _ e v ((RdW.exs (n:=1) args)) (RdW.sts thn) ?_ (by omega)
   rw [List.map_append]
   exact s5.rd.keep2 (fun _ _ h=>h) (Nat.le_refl _) fun k h1 h2=>by rw [Hp.get_set,if_neg (by omega),Hp.get_set,if_neg (by omega)]
 · rw [if_neg (by omega), if_neg (by omega), if_neg (by omega), if_neg (by omega), if_neg (by omega), if_neg (by omega), if_neg (by omega), if_neg (by omega), if_neg (by omega), if_pos (by omega)] at hR
   generalize hHb:Hp.alloc (Hp.alloc (Hp.alloc H0 _) _) _=Hb
   have nb:Hb.next=3:=by rw [← hHb];rfl
   have g0:Hb.get 0=some (.cells [.int .i64 k,.str nm,.str to,.int .i64 n,.int .i64 e.kind,.int .i64 e.n,.str e.name,.int .i64 e.op,.lst (e.kids.map Ex.cells),.int .i64 v.kind,.int .i64 v.n,.str v.name,.int .i64 v.op,.lst (v.kids.map Ex.cells),.lst (args.map Ex.cells),.lst (thn.map St.cells),.lst (els.map St.cells)] 0 true):=by rw [← hHb];simp [Hp.get_alloc,Hp.next_alloc,H0_next]
   have g1:Hb.get 1=some (.cells [.int .i64 0,.str [],.str [],.int .i64 0,.int .i64 0,.int .i64 0,.str [],.int .i64 0,.nilS,.int .i64 0,.int .i64 0,.str [],.int .i64 0,.nilS,.nilS,.nilS,.nilS] 0 true):=by rw [← hHb];simp [Hp.get_alloc,Hp.next_alloc,H0_next]
   have g2:Hb.get 2=some (.cells [] 0 true):=by rw [← hHb];simp [Hp.get_alloc,Hp.next_alloc,H0_next]
   clear hHb
   obtain ⟨q',H4,a4,gq,hq',lq,n4,n4',o4⟩:=app_rows (P:=Try.prog) (t:=36) Try.underlying36 sz46 bt46 zr46 rfl (by kernel_rfl) g2 (by omega) (rows:=thn.map St.cells) (rows_sts thn) (sts_one thn) (by simp [maxRoom];omega) (by simp [maxRoom];omega)
   simp only [List.length_map] at a4
   have h0:H4.get 0=some (.cells [.int .i64 k,.str nm,.str to,.int .i64 n,.int .i64 e.kind,.int .i64 e.n,.str e.name,.int .i64 e.op,.lst (e.kids.map Ex.cells),.int .i64 v.kind,.int .i64 v.n,.str v.name,.int .i64 v.op,.lst (v.kids.map Ex.cells),.lst (args.map Ex.cells),.lst (thn.map St.cells),.lst (els.map St.cells)] 0 true):=by rw [o4 0 (by omega) (by omega)];exact g0
   have h1:H4.get 1=some (.cells [.int .i64 0,.str [],.str [],.int .i64 0,.int .i64 0,.int .i64 0,.str [],.int .i64 0,.nilS,.int .i64 0,.int .i64 0,.str [],.int .i64 0,.nilS,.nilS,.nilS,.nilS] 0 true):=by rw [o4 1 (by omega) (by omega)];exact g1
   have lo:2 ≤ q':=by omega
   have n40:3 ≤ H4.next:=by omega
   clear nb g0 g1 g2 o4 n4 n4' hq'
   have e2:(q' == 0)=false:=ne_beq (by omega)
   have e3:(0 == q')=false:=ne_beq (by omega)
   have e4:(1 == q')=false:=ne_beq (by omega)
   have e0:(0 == H4.next)=false:=ne_beq (by omega)
   have e1:(1 == H4.next)=false:=ne_beq (by omega)
   have gh0:=@bTn
   have gh1:=@bsT17
   repeat' (first
      | (apply Rx.nl ?_;clear hK K)|apply Rx.o ?_|apply Rx.on ?_|(apply Rx.call ?_;first|refine Rx.k (kp _ _ (by decide) _) ?_)|apply Wp.seq ?_|(apply Wp.ops' fun K hK=>?_)|(apply Rx.dT 26 [(1,12),(1,14),(4,12),(7,12)] fun K hK=>?_)|(apply Rx.nq ?_;try intro _)|(apply Rx.nt ?_ ?_ <;> clear hK K)|apply WpT.step ?_|apply WpT.step0 rfl ?_|apply Wp.block ?_|apply Rx.sk ?_|apply Rx.rt ?_)
   obtain ⟨v5,H5,a5,s5,n5,f5,q5⟩:=RowOwn.push (P:=Try.prog) (t:=36) Try.underlying36 sz46 bt46 zr46 rfl (by kernel_rfl) (lo:=2) (n:=1) (H:=H4.alloc (.cells [.int .i64 7,.str [],.str [],.int .i64 (pickG a 3),.int .i64 0,.int .i64 0,.str [],.int .i64 0,.nilS,.int .i64 0,.int .i64 0,.str [],.int .i64 0,.nilS,.nilS,.nilS,.nilS] 0 true)) (v:=.sl q' 0 thn.length 17) (ws:=thn.map St.cells) (.inr ⟨q',0,thn.map St.cells,by rw [List.length_map],lo,by simp only [Hp.next_alloc];omega,by rw [Hp.get_alloc,if_neg (by omega)];exact gq,Nat.zero_le _,RowsW.sts thn⟩) (by simp only [Hp.next_alloc];omega) (r:=H4.next) (imm:=0) (row:=[.int .i64 7,.str [],.str [],.int .i64 (pickG a 3),.int .i64 0,.int .i64 0,.str [],.int .i64 0,.nilS,.int .i64 0,.int .i64 0,.str [],.int .i64 0,.nilS,.nilS,.nilS,.nilS]) (w:=(trp (pickG a 3)).cells) (by rw [Hp.get_alloc,if_pos rfl]) rfl rfl (st_node 7 [] [] (pickG a 3) zC_w zC_w .nilS .nilS .nilS) (by simp [maxRoom];omega) (by simp [maxRoom];omega)
   have h05:H5.get 0=some (.cells [.int .i64 k,.str nm,.str to,.int .i64 n,.int .i64 e.kind,.int .i64 e.n,.str e.name,.int .i64 e.op,.lst (e.kids.map Ex.cells),.int .i64 v.kind,.int .i64 v.n,.str v.name,.int .i64 v.op,.lst (v.kids.map Ex.cells),.lst (args.map Ex.cells),.lst (thn.map St.cells),.lst (els.map St.cells)] 0 true):=by rw [f5 0 (by simp only [Hp.next_alloc];omega) (fun o m z' e=>by simp only [AV.sl.injEq] at e;omega),Hp.get_alloc,if_neg (by omega)];exact h0
   have h15:H5.get 1=some (.cells [.int .i64 0,.str [],.str [],.int .i64 0,.int .i64 0,.int .i64 0,.str [],.int .i64 0,.nilS,.int .i64 0,.int .i64 0,.str [],.int .i64 0,.nilS,.nilS,.nilS,.nilS] 0 true):=by rw [f5 1 (by simp only [Hp.next_alloc];omega) (fun o m z' e=>by simp only [AV.sl.injEq] at e;omega),Hp.get_alloc,if_neg (by omega)];exact h1
   obtain ⟨t1,t2⟩:=s5.one
   clear f5 q5 n5 h0 h1
   have gh0:=@aggS17
   repeat' (first
      | (apply Rx.nl ?_;clear hK K)|apply Rx.o ?_|apply Rx.on ?_|apply Wp.seq ?_|(apply Wp.ops' fun K hK=>?_)|(apply Rx.dT 26 [(1,12),(1,14),(4,12),(7,12)] fun K hK=>?_)|(apply Rx.nq ?_;try intro _)|(apply Rx.nt ?_ ?_ <;> clear hK K)|apply WpT.step ?_|apply WpT.step0 rfl ?_|apply Wp.block ?_|apply Rx.sk ?_|apply Rx.rt ?_)
   refine ⟨eI,_,(by (try simp only [sB,sO,Nat.reduceBEq,Nat.reduceAdd,Nat.reduceLeDiff,tyF,resultsA,resultA,aggS17, *]);first|done|with_reducible rfl),?_⟩;try simp only [oneOr]
   subst hR
   refine st_made (S:=fun k=>2 ≤ k) (m:=1) _ _ _ _ e v ((RdW.exs (n:=1) args)) ?_ (RdW.sts els) (by omega)
   rw [List.map_append]
   exact s5.rd.keep2 (fun _ _ h=>h) (Nat.le_refl _) fun k h1 h2=>by rw [Hp.get_set,if_neg (by omega),Hp.get_set,if_neg (by omega)]
 · rw [if_neg (by omega), if_neg (by omega), if_neg (by omega), if_neg (by omega), if_neg (by omega), if_neg (by omega), if_neg (by omega), if_neg (by omega), if_neg (by omega), if_neg (by omega), if_pos (by omega)] at hR
   generalize hHb:Hp.alloc (Hp.alloc (Hp.alloc H0 _) _) _=Hb
   have nb:Hb.next=3:=by rw [← hHb];rfl
   have g0:Hb.get 0=some (.cells [.int .i64 k,.str nm,.str to,.int .i64 n,.int .i64 e.kind,.int .i64 e.n,.str e.name,.int .i64 e.op,.lst (e.kids.map Ex.cells),.int .i64 v.kind,.int .i64 v.n,.str v.name,.int .i64 v.op,.lst (v.kids.map Ex.cells),.lst (args.map Ex.cells),.lst (thn.map St.cells),.lst (els.map St.cells)] 0 true):=by rw [← hHb];simp [Hp.get_alloc,Hp.next_alloc,H0_next]
   have g1:Hb.get 1=some (.cells [.int .i64 0,.str [],.str [],.int .i64 0,.int .i64 0,.int .i64 0,.str [],.int .i64 0,.nilS,.int .i64 0,.int .i64 0,.str [],.int .i64 0,.nilS,.nilS,.nilS,.nilS] 0 true):=by rw [← hHb];simp [Hp.get_alloc,Hp.next_alloc,H0_next]
   have g2:Hb.get 2=some (.cells [] 0 true):=by rw [← hHb];simp [Hp.get_alloc,Hp.next_alloc,H0_next]
   clear hHb
   obtain ⟨q',H4,a4,gq,hq',lq,n4,n4',o4⟩:=app_rows (P:=Try.prog) (t:=36) Try.underlying36 sz46 bt46 zr46 rfl (by kernel_rfl) g2 (by omega) (rows:=thn.map St.cells) (rows_sts thn) (sts_one thn) (by simp [maxRoom];omega) (by simp [maxRoom];omega)
   simp only [List.length_map] at a4
   have h0:H4.get 0=some (.cells [.int .i64 k,.str nm,.str to,.int .i64 n,.int .i64 e.kind,.int .i64 e.n,.str e.name,.int .i64 e.op,.lst (e.kids.map Ex.cells),.int .i64 v.kind,.int .i64 v.n,.str v.name,.int .i64 v.op,.lst (v.kids.map Ex.cells),.lst (args.map Ex.cells),.lst (thn.map St.cells),.lst (els.map St.cells)] 0 true):=by rw [o4 0 (by omega) (by omega)];exact g0
   have h1:H4.get 1=some (.cells [.int .i64 0,.str [],.str [],.int .i64 0,.int .i64 0,.int .i64 0,.str [],.int .i64 0,.nilS,.int .i64 0,.int .i64 0,.str [],.int .i64 0,.nilS,.nilS,.nilS,.nilS] 0 true):=by rw [o4 1 (by omega) (by omega)];exact g1
   have lo:2 ≤ q':=by omega
   have n40:3 ≤ H4.next:=by omega
   clear nb g0 g1 g2 o4 n4 n4' hq'
   have e2:(q' == 0)=false:=ne_beq (by omega)
   have e3:(0 == q')=false:=ne_beq (by omega)
   have e4:(1 == q')=false:=ne_beq (by omega)
   have e0:(0 == H4.next)=false:=ne_beq (by omega)
   have e1:(1 == H4.next)=false:=ne_beq (by omega)
   have hp:=pickG_range (n:=a) (m:=thn.length) (by omega) (by omega)
   have hlt:(pickG a thn.length).toNat < thn.length:=by omega
   have hi17:indexAddrA Try.prog 36 (.sl q' 0 thn.length 17) (.int .i64 (pickG a thn.length))=some (.ptr q' ((pickG a thn.length).toNat * 17)):=ixSm q' _ hp.1 hlt
   obtain ⟨y,hy⟩:∃ y,thn[(pickG a thn.length).toNat]?=some y:=⟨_,List.getElem?_eq_getElem hlt⟩
   have hrow:(thn.map St.cells)[(pickG a thn.length).toNat]?=some y.cells:=by rw [List.getElem?_map,hy];rfl
   have hagg:=agg_row (rows_sts thn) hrow
   have hsm:=stmtsSz_mem (List.mem_of_getElem? hy)
   have kr1:=fun H=>kr y (w64 (how.tdiv 13)) (w64 (a.tdiv 3)) (by simp only [St.sz];omega) H
   rw [mutL_set _ _ _ _ _ hy] at hR
   have gh0:=@aggS17
   repeat' (first
      | (apply Rx.nl ?_;clear hK K)|apply Rx.o ?_|apply Rx.on ?_|(apply Rx.call ?_;first|refine Rx.k (kr1 _) ?_)|apply Wp.seq ?_|(apply Wp.ops' fun K hK=>?_)|(apply Rx.dT 26 [(1,12),(1,14),(4,12),(7,12)] fun K hK=>?_)|(apply Rx.nq ?_;try intro _)|(apply Rx.nt ?_ ?_ <;> clear hK K)|apply WpT.step ?_|apply WpT.step0 rfl ?_|apply Wp.block ?_|apply Rx.sk ?_|apply Rx.rt ?_)
   refine WpL.store eV eV (astore_row (rows:=thn.map St.cells) sz46 (by rw [Hp.get_set,if_neg (by omega)];exact gq) (rows_sts thn) (by rw [List.length_map];exact hlt) (St.clen _) (St.one _)) ?_
   have gh0:=@aggS17
   repeat' (first
      | (apply Rx.nl ?_;clear hK K)|apply Rx.o ?_|apply Rx.on ?_|apply Wp.seq ?_|(apply Wp.ops' fun K hK=>?_)|(apply Rx.dT 26 [(1,12),(1,14),(4,12),(7,12)] fun K hK=>?_)|(apply Rx.nq ?_;try intro _)|(apply Rx.nt ?_ ?_ <;> clear hK K)|apply WpT.step ?_|apply WpT.step0 rfl ?_|apply Wp.block ?_|apply Rx.sk ?_|apply Rx.rt ?_)
   · exact eK
   refine ⟨eI,_,(by (try simp only [sB,sO,Nat.reduceBEq,Nat.reduceAdd,Nat.reduceLeDiff,tyF,resultsA,resultA,aggS17, *]);first|done|with_reducible rfl),?_⟩;try simp only [oneOr]
   subst hR
   refine st_made (S:=fun k=>2 ≤ k) (m:=1) _ _ _ _ e v (RdW.exs args) ?_ (RdW.sts els) (by omega)
   have hks:(thn.map St.cells).set (pickG a thn.length).toNat (mutS y (w64 (how.tdiv 13)) (w64 (a.tdiv 3))).cells=(thn.set (pickG a thn.length).toNat (mutS y (w64 (how.tdiv 13)) (w64 (a.tdiv 3)))).map St.cells:=List.map_set.symm
   have:=RdW.rows (S:=fun k=>2 ≤ k) (n:=1) (z:=17) (tip:=true) (imm:=0) (r:=q') (H:=Hp.set (Hp.set (Hp.set H4 0 (.cells [.int .i64 k,.str nm,.str to,.int .i64 n,.int .i64 e.kind,.int .i64 e.n,.str e.name,.int .i64 e.op,.lst (e.kids.map Ex.cells),.int .i64 v.kind,.int .i64 v.n,.str v.name,.int .i64 v.op,.lst (v.kids.map Ex.cells),.lst (args.map Ex.cells),.sl q' 0 thn.length 17,.lst (els.map St.cells)] 0 true)) q' (.cells ((thn.map St.cells).set (pickG a thn.length).toNat (mutS y (w64 (how.tdiv 13)) (w64 (a.tdiv 3))).cells).flatten 0 true)) 1 (.cells [.int .i64 k,.str nm,.str to,.int .i64 n,.int .i64 e.kind,.int .i64 e.n,.str e.name,.int .i64 e.op,.lst (e.kids.map Ex.cells),.int .i64 v.kind,.int .i64 v.n,.str v.name,.int .i64 v.op,.lst (v.kids.map Ex.cells),.lst (args.map Ex.cells),.sl q' 0 thn.length 17,.lst (els.map St.cells)] 0 true)) (a:=(thn.set (pickG a thn.length).toNat (mutS y (w64 (how.tdiv 13)) (w64 (a.tdiv 3)))).map St.cells) lo lq (by rw [Hp.get_set,if_neg (by omega),Hp.get_set,if_pos rfl,hks]) (Nat.zero_le _) (RowsW.sts _)
   rw [List.length_map,List.length_set] at this
   exact this
 · refine ⟨eI, _, (by (try simp only [sB, sO, Nat.reduceBEq, Nat.reduceAdd, Nat.reduceLeDiff, tyF, resultsA, resultA, aggS17, *]); first | done | with_reducible rfl), ?_⟩; try simp only [oneOr]
   rw [if_neg (by omega),if_neg (by omega),if_neg (by omega),if_neg (by omega),if_neg (by omega),if_neg (by omega),if_neg (by omega),if_neg (by omega),if_neg (by omega),if_neg (by omega),if_pos (by omega)] at hR
   subst hR
   have hk0:thn=[]:=List.eq_nil_of_length_eq_zero (by omega)
   subst hk0
   exact st_made (S:=fun _=>True) (m:=0) _ _ _ _ e v (RdW.exs args) (RdW.sts []) (RdW.sts els) (by omega)
 · refine ⟨eI, _, (by (try simp only [sB, sO, Nat.reduceBEq, Nat.reduceAdd, Nat.reduceLeDiff, tyF, resultsA, resultA, aggS17, *]); first | done | with_reducible rfl), ?_⟩; try simp only [oneOr]
   rw [if_neg (by omega),if_neg (by omega),if_neg (by omega),if_neg (by omega),if_neg (by omega),if_neg (by omega),if_neg (by omega),if_neg (by omega),if_neg (by omega),if_neg (by omega),if_neg (by omega)] at hR
   subst hR
   exact st_made (S:=fun _=>True) (m:=0) _ _ _ _ e v (RdW.exs args) (RdW.sts thn) (RdW.sts els) (by omega))
end Go.Proofs.Ytackdnelcpbfjaa
namespace Go.Proofs.Ytackdnelcpbfjaa
set_option maxRecDepth 20000
open Go Go.Ab
section
variable {i:Nat} {pt:Nat → Nat} {lo b b' n:Nat} {H:Hp} {ra rf:Nat} {x y:Int} {f g:Fu} {pf lf bf:AV} {vf:List AV} {pg lg bg:AV} {vg:List AV} (h:ProgX i pt lo b b' n H ra rf x y f g pf lf bf vf pg lg bg vg)
include h
theorem ProgX.mv0 {H':Hp} (hn:H.next ≤ H'.next) (hk:∀ q,lo ≤ q → q < H.next → H'.get q=H.get q):ProgX i (fun q=>if H.next ≤ q then 0 else pt q) lo b b' n H' ra rf x y f g pf lf bf vf pg lg bg vg:=by
 obtain ⟨b1,b2,b3⟩:=h.hb
 have hra:=h.lo_of (q:=ra) (by rw [h.lra];decide)
 have hrf:=h.lo_of (q:=rf) (by rw [h.lrf];decide)
 have h1:=h.ltA
 have h2:=h.ltF
 have h3:=h.hlo
 have la:=h.lra
 have lf:=h.lrf
 exact ⟨h.hb,by omega,fun q hq=>by show (if _ then _ else _)=0;rw [if_neg (by omega)];exact h.lab q hq,by rw [hk ra hra h1];exact h.ga,by rw [hk rf hrf h2];exact h.gf,by omega,by omega,by show (if _ then _ else _)=1;rw [if_neg (by omega)];exact la,by show (if _ then _ else _)=2;rw [if_neg (by omega)];exact lf,
   h.F.mv (Nat.le_refl _) (fun q h4 _ _=>if_neg (by omega)) hn fun q h4 h5 _=>hk q (h.lo_of (by omega)) h4,h.G.mv (Nat.le_refl _) (fun q h4 _ _=>if_neg (by omega)) hn fun q h4 h5 _=>hk q (h.lo_of (by omega)) h4⟩
theorem ProgX.pushP {Hb : Hp} (hn : H.next ≤ Hb.next) (hk : ∀ q, lo ≤ q → q < H.next → Hb.get q = H.get q) {r imm : Nat} {s : List UInt8} (hg : Hb.get r = some (.cells [.str s] imm true)) {N : Nat} (hN : f.params.length = N) (hl : N < 2 ^ 30) :
    ∃ H', appendA Try.prog false Hb 35 35 pf (.sl r 0 1 1) = some (.sl Hb.next 0 (N + 1) 1, H') ∧ H'.next = Hb.next + 1 ∧ (∀ q, q < Hb.next → (H.next ≤ q ∨ pt q ≠ b) → H'.get q = Hb.get q) ∧
      ∀ H'' : Hp, H''.next = H'.next → (∀ q, q ≠ rf → H''.get q = H'.get q) → H''.get rf = some (.cells (ordC i (fnC f.name (.sl Hb.next 0 (N + 1) 1) lf bf vf) (fnC g.name pg lg bg vg)) 0 true) →
        ProgX i (fun q=>if H.next ≤ q then b else pt q) lo b b' n H'' ra rf x y { f with params:=f.params ++ [s] } g (.sl Hb.next 0 (N + 1) 1) lf bf vf pg lg bg vg:=by
  have hb:=h.hb
  have lr:=h.lrf
  have h2:=h.ltF
  have h3:=h.hlo
  obtain ⟨H',flat,imm',a1,b1,b2,b3,a2,a3,a4⟩:=RowOwn.pushX (P:=Try.prog) (t:=35) Try.underlying35 sz9 bt9 zr9 rfl (by kernel_rfl) h.F.ps hn (fun q h4 h5=>hk q (h.lo_of (by omega)) h4) hg rfl rfl (by rw [List.length_map,show maxRoom=70368744177664 from rfl];omega) (by rw [List.length_map,show maxRoom=70368744177664 from rfl];omega)
  rw [List.length_map,hN] at a1 a4 b1 b2
  refine ⟨H',a1,a2,a3,fun H'' h4 h5 h9=>?_⟩
  refine h.setP (f.params ++ [s]) (by omega) (Nat.le_refl _) (fun q h7 h8 h9 h10=>?_) h9 ?_
  · rw [h5 q h9,a3 q (by omega) (.inr h10),hk q h7 h8]
  · have := a4 H'' rf [.str s] [.str s] (by omega) (fun q h6 _ => h5 q h6) (by omega) h2 (by rw [h5 _ (by omega)]; exact b3) rfl ((CellsW.strs (n := 0) s).up (Nat.le_of_not_lt fun hlt => by
      have h0:n=0:=by omega
      subst h0
      obtain ⟨us,hu,_⟩:=h.F.vw
      have hv:=h.F.len
      cases vf with
      | nil=>simp at hv
      | cons v vf => cases us with
        | nil=>exact hu.elim
        | cons u us=>exact hu.1.elim))
    rw [List.map_append,List.map_cons,List.map_nil]
    exact this
theorem ProgX.pushL {Hb : Hp} (hn : H.next ≤ Hb.next) (hk : ∀ q, lo ≤ q → q < H.next → Hb.get q = H.get q) {r imm : Nat} {s : List UInt8} (hg : Hb.get r = some (.cells [.str s] imm true)) {N : Nat} (hN : f.locals.length = N) (hl : N < 2 ^ 30) :
    ∃ H', appendA Try.prog false Hb 35 35 lf (.sl r 0 1 1) = some (.sl Hb.next 0 (N + 1) 1, H') ∧ H'.next = Hb.next + 1 ∧ (∀ q, q < Hb.next → (H.next ≤ q ∨ pt q ≠ b + 1) → H'.get q = Hb.get q) ∧
      ∀ H'' : Hp, H''.next = H'.next → (∀ q, q ≠ rf → H''.get q = H'.get q) → H''.get rf = some (.cells (ordC i (fnC f.name pf (.sl Hb.next 0 (N + 1) 1) bf vf) (fnC g.name pg lg bg vg)) 0 true) →
        ProgX i (fun q=>if H.next ≤ q then b + 1 else pt q) lo b b' n H'' ra rf x y { f with locals:=f.locals ++ [s] } g pf (.sl Hb.next 0 (N + 1) 1) bf vf pg lg bg vg:=by
  have hb:=h.hb
  have lr:=h.lrf
  have h2:=h.ltF
  have h3:=h.hlo
  obtain ⟨H',flat,imm',a1,b1,b2,b3,a2,a3,a4⟩:=RowOwn.pushX (P:=Try.prog) (t:=35) Try.underlying35 sz9 bt9 zr9 rfl (by kernel_rfl) h.F.ls hn (fun q h4 h5=>hk q (h.lo_of (by omega)) h4) hg rfl rfl (by rw [List.length_map,show maxRoom=70368744177664 from rfl];omega) (by rw [List.length_map,show maxRoom=70368744177664 from rfl];omega)
  rw [List.length_map,hN] at a1 a4 b1 b2
  refine ⟨H',a1,a2,a3,fun H'' h4 h5 h9=>?_⟩
  refine h.setL (f.locals ++ [s]) (by omega) (Nat.le_refl _) (fun q h7 h8 h9 h10=>?_) h9 ?_
  · rw [h5 q h9,a3 q (by omega) (.inr h10),hk q h7 h8]
  · have := a4 H'' rf [.str s] [.str s] (by omega) (fun q h6 _ => h5 q h6) (by omega) h2 (by rw [h5 _ (by omega)]; exact b3) rfl ((CellsW.strs (n := 0) s).up (Nat.le_of_not_lt fun hlt => by
      have h0:n=0:=by omega
      subst h0
      obtain ⟨us,hu,_⟩:=h.F.vw
      have hv:=h.F.len
      cases vf with
      | nil=>simp at hv
      | cons v vf => cases us with
        | nil=>exact hu.elim
        | cons u us=>exact hu.1.elim))
    rw [List.map_append,List.map_cons,List.map_nil]
    exact this
theorem ProgX.pushC {Hb : Hp} (hn : H.next ≤ Hb.next) (hk : ∀ q, lo ≤ q → q < H.next → Hb.get q = H.get q) {r imm : Nat} {row : List AV} (hg : Hb.get r = some (.cells row imm true)) (hrow : row.length = 17) (hone : row.all AV.one = true) {N : Nat} (hN : f.body.length = N) (hl : N < 2 ^ 30) :
    ∃ H' flat imm', appendA Try.prog false Hb 36 36 bf (.sl r 0 1 17) = some (.sl Hb.next 0 (N + 1) 17, H') ∧ H'.get Hb.next = some (.cells (flat ++ row) imm' true) ∧ imm' ≤ N * 17 ∧ (flat ++ row).length = N * 17 + 17 ∧ (flat ++ row).take (N * 17) = flat ∧ (flat ++ row).drop (N * 17 + 17) = [] ∧ H'.next = Hb.next + 1 ∧ (∀ q, q < Hb.next → (H.next ≤ q ∨ pt q ≠ b + 2) → H'.get q = Hb.get q) ∧
      ∀ (H'' : Hp) (row' : List AV) (w : St), H''.next = H'.next → (∀ q, q ≠ rf → q < Hb.next → H''.get q = H'.get q) → H''.get Hb.next = some (.cells (flat ++ row') imm' true) → row'.length = 17 → CellsW (fun q => H.next ≤ q ∧ q < Hb.next) n Hb row' w.cells → H''.get rf = some (.cells (ordC i (fnC f.name pf lf (.sl Hb.next 0 (N + 1) 17) vf) (fnC g.name pg lg bg vg)) 0 true) →
        ProgX i (fun q=>if H.next ≤ q then b + 2 else pt q) lo b b' n H'' ra rf x y { f with body:=f.body ++ [w] } g pf lf (.sl Hb.next 0 (N + 1) 17) vf pg lg bg vg:=by
  have hb:=h.hb
  have lr:=h.lrf
  have h2:=h.ltF
  have h3:=h.hlo
  obtain ⟨H',flat,imm',a1,b1,b2,b3,a2,a3,a4⟩:=RowOwn.pushX (P:=Try.prog) (t:=36) Try.underlying36 sz46 bt46 zStmt (by rfl) (by kernel_rfl) h.F.bo hn (fun q h4 h5=>hk q (h.lo_of (by omega)) h4) hg hrow hone (by rw [List.length_map,show maxRoom=70368744177664 from rfl];omega) (by rw [List.length_map,show maxRoom=70368744177664 from rfl];omega)
  rw [List.length_map,hN] at a1 a4 b1 b2
  refine ⟨H',flat,imm',a1,b3,b2,by rw [List.length_append,b1,hrow],by rw [← b1,List.take_left],List.drop_eq_nil_of_le (by rw [List.length_append];omega),a2,a3,fun H'' row' w h4 h5 h6 h7 h8 h9=>?_⟩
  refine h.setB (f.body ++ [w]) (by omega) (Nat.le_refl _) (fun q h7 h8 h9 h10=>?_) h9 ?_
  · rw [h5 q h9 (by omega),a3 q (by omega) (.inr h10),hk q h7 h8]
  · have := a4 H'' rf row' w.cells (by omega) h5 (by omega) h2 h6 h7 h8
    rw [List.map_append,List.map_cons,List.map_nil]
    exact this
theorem ProgX.fnsP:RowOwn (fun q=>pt q ≠ 0 ∧ q ≠ ra) (n + 1) H 9 (.sl rf 0 2 9) ((ordP i x y f g).funcs.map Fu.cells):=by
 obtain ⟨b1,b2,b3⟩:=h.hb
 have lr:=h.lrf
 have la:=h.lra
 have cF:=h.F.row (S:=fun q=>(pt q ≠ 0 ∧ q ≠ ra) ∧ q ≠ rf) fun q h1 h2 h3=>⟨⟨by omega,fun e=>by rw [e] at h2;omega⟩,fun e=>by rw [e] at h2;omega⟩
 have cG:=h.G.row (S:=fun q=>(pt q ≠ 0 ∧ q ≠ ra) ∧ q ≠ rf) fun q h1 h2 h3=>⟨⟨by omega,fun e=>by rw [e] at h2;omega⟩,fun e=>by rw [e] at h2;omega⟩
 have hrf:pt rf ≠ 0 ∧ rf ≠ ra:=⟨by omega,fun e=>h.ne e.symm⟩
 have gf:=h.gf
 cases i with
 | zero=>exact .inr ⟨rf,0,[fnC f.name pf lf bf vf,fnC g.name pg lg bg vg],rfl,hrf,h.ltF,by rw [gf];simp [ordC],Nat.zero_le _,⟨h.F.clen _,cF⟩,⟨h.G.clen _,cG⟩,trivial⟩
 | succ i=>exact .inr ⟨rf,0,[fnC g.name pg lg bg vg,fnC f.name pf lf bf vf],rfl,hrf,h.ltF,by rw [gf];simp [ordC],Nat.zero_le _,⟨h.G.clen _,cG⟩,⟨h.F.clen _,cF⟩,trivial⟩
theorem ProgX.arsP:RowOwn (fun q=>q=ra) (n + 1) H 2 (.sl ra 0 2 2) ((ordP i x y f g).arrays.map Ar.cells):=by
 have e:(ordP i x y f g).arrays.map Ar.cells=[[.str [97],.int .i64 x],[.str [98],.int .i64 y]]:=by cases i <;> rfl
 rw [e]
 exact .inr ⟨ra,0,[[.str [97],.int .i64 x],[.str [98],.int .i64 y]],rfl,rfl,h.ltA,h.ga,Nat.zero_le _,⟨rfl,.cons (.str _) (.cons (.int _ _) .nil)⟩,⟨rfl,.cons (.str _) (.cons (.int _ _) .nil)⟩,trivial⟩
end
def zzN:List UInt8:=[122,122]
structure MutG (p:Pr):Prop where
 sz:p.sz < 2 ^ 30
 fn:∀ f ∈ p.funcs,f.name ≠ zzN
 ar:∀ a ∈ p.arrays,a.name ≠ zzN
structure MutR (lo P n:Nat) (H:Hp) (va vb:AV) (p:Pr) (R:Nat → Prop):Prop where
 ne:¬ R P
 ars:RowOwn (fun q=>lo ≤ q ∧ R q) n H 2 va (p.arrays.map Ar.cells)
 fns:RowOwn (fun q=>lo ≤ q ∧ ¬ R q ∧ q ≠ P) n H 9 vb (p.funcs.map Fu.cells)
 good:MutG p
def MutI (lo P:Nat) (Hs H':Hp):Prop:=∃ va vb p R,H'.get P=some (.cells [va,vb] 0 true) ∧ P < H'.next ∧ MutR lo P 50 H' va vb p R ∧ (∀ q,q < lo → H'.get q=Hs.get q)
theorem MutI.of {i:Nat} {pt:Nat → Nat} {lo b b' n:Nat} {H:Hp} {ra rf:Nat} {x y:Int} {f g:Fu} {pf lf bf:AV} {vf:List AV} {pg lg bg:AV} {vg:List AV} {P:Nat} {Hs:Hp} (h:ProgX i pt lo b b' n H ra rf x y f g pf lf bf vf pg lg bg vg) (hP:pt P=0) (hP2:P < H.next) (gp:H.get P=some (.cells [.sl ra 0 2 2,.sl rf 0 2 9] 0 true)) (old:∀ q,q < lo → H.get q=Hs.get q) (hn:n ≤ 48)
   (h1:f.sz < 2 ^ 28) (h2:g.sz < 2 ^ 28) (h3:f.name ≠ zzN) (h4:g.name ≠ zzN):MutI lo P Hs H:=by
 have hPr:P ≠ ra:=fun e=>by have:=h.lra;rw [← e] at this;omega
 refine ⟨_,_,ordP i x y f g,fun q=>q=ra,gp,hP2,⟨hPr,?_,?_,?_,?_,?_⟩,old⟩
 · exact (h.arsP.keep (fun q _ hq=>⟨h.lo_of (by rw [hq,h.lra];decide),hq⟩) (Nat.le_refl _) fun _ _ _=>rfl).up (by omega)
 · exact (h.fnsP.keep (fun q _ hq=>⟨h.lo_of hq.1,hq.2,fun e=>hq.1 (by rw [e];exact hP)⟩) (Nat.le_refl _) fun _ _ _=>rfl).up (by omega)
 · cases i <;> simp only [ordP,pr2,arG2,Pr.sz,arrsSz,fnsSz,List.length_cons,List.length_nil] <;> omega
 · intro f' hf'
   cases i <;> simp only [ordP,pr2,List.mem_cons,List.not_mem_nil,or_false] at hf' <;> rcases hf' with rfl|rfl <;> assumption
 · intro a ha
   cases i <;> simp only [ordP,pr2,arG2,List.mem_cons,List.not_mem_nil,or_false] at ha <;> rcases ha with rfl|rfl <;> (intro e;cases e)
end Go.Proofs.Ytackdnelcpbfjaa
