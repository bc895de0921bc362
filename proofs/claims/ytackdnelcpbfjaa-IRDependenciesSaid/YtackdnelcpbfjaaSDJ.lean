/- Parts: K7, AbArg, Seeds, K8. -/
import Derived.Deep.Slices
import Derived.Test.YtackdnelcpbfjaaSDI
import Derived.WideKeyArgs
import Derived.WideShapes
set_option linter.unusedSimpArgs false
set_option linter.unusedVariables false
set_option linter.unusedSectionVars false
set_option linter.defProp false
set_option maxHeartbeats 32000000
namespace Go.Proofs.Ytackdnelcpbfjaa
set_option maxRecDepth 20000
set_option maxRecDepth 20000
open Go Go.Ab
namespace tyK7
def tyF:=And.intro @tq2 (And.intro @tq3 (And.intro @tq26 (And.intro @tq60 (And.intro @tq66 (And.intro @bin_quo (And.intro @bn1 (@agN)))))))
end tyK7
open tyK7
noncomputable def code22:{ c:SC // slim 111 (Try.f22.body.getD .skip)=c }:=by
 refine ⟨?_,?_⟩
 rotate_left
 · simp only [Try.f22, Option.getD_some, slim, slimR, slimL, slimD, slimG, Nat.blt, Nat.ble]
   rfl
theorem bsN0 (H:Hp):buildSliceA Try.prog H 60 0 []=some (.sl H.next 0 0 3,H.alloc (.cells [] 0 true)):=by kernel_rfl
theorem bnI0 (H:Hp):buildSliceA Try.prog H 26 0 []=some (.sl H.next 0 0 1,H.alloc (.cells [] 0 true)):=by kernel_rfl
theorem rows_nds (l:List Nd):∀ x ∈ l.map Nd.cells,x.length=3:=fun r hr=>by
 obtain ⟨a,_,rfl⟩:=List.mem_map.1 hr;exact a.clen
theorem nds_one:∀ l:List Nd,(l.map Nd.cells).flatten.all AV.one=true
 | []=>rfl
 | a :: l=>by rw [List.map_cons,List.flatten_cons,List.all_append,a.one,nds_one l];rfl
theorem CellsW.nd {S:Nat → Prop} {n:Nat} {H:Hp} (x:Nd):CellsW S (n + 1) H x.cells x.cells:=by
 refine .cons (.int _ _) (.cons (.int _ _) (.cons ?_ .nil))
 exact .flat ⟨ints_pure _,trivial⟩ (wk_ints _)
theorem RowsW.nds {S:Nat → Prop} {n:Nat} {H:Hp}:∀ l:List Nd,RowsW S (n + 1) H 3 (l.map Nd.cells) (l.map Nd.cells)
 | []=>trivial
 | a :: l=>⟨⟨a.clen,CellsW.nd a⟩,RowsW.nds l⟩
theorem appZ_lst {H:Hp} {v:AV} {l:List Int} {lo:Nat} (m:List Int) (hv:IntZ H v l lo) (hlo:lo ≤ H.next) (hb:l.length + m.length < 2 ^ 40) :
   ∃ v' H',appendA Try.prog false H 26 26 v (lstI m)=some (v',H') ∧ IntZ H' v' (l ++ m) lo ∧ H.next ≤ H'.next ∧ (∀ k,k < lo → H'.get k=H.get k):=by
 by_cases hm:m=[]
 · subst hm
   refine ⟨v,H,?_,by rw [List.append_nil];exact hv,Nat.le_refl _,fun _ _=>rfl⟩
   obtain ⟨r,rfl,h2,_⟩:=hv
   simp only [appendA,Try.underlying26,sz3,bt3,zr3,show srcType Try.prog 26=true by kernel_rfl,List.map_nil,srcCells,List.all_nil,if_true,List.length_nil]
 · obtain ⟨v', H', h1, h2, h3, h4, _⟩ := appZ_gen (.inr hv) hlo (src_ints H m) hm hb
   exact ⟨v',H',h1,h2,by omega,h4⟩
theorem app_row0 {P:Program} {t e:TypeId} {z b:Nat} {zz:List AV} (ht:P.underlying t=some (.slice e)) (hs:sizeA P e=some z) (hb:bytesA P e=some b) (hz:zeroA P e=some zz) (hzz:zz.length=z) (hsrc:srcType P t=true)
   {H:Hp} {q r imm:Nat} {rows:List (List AV)} {row:List AV} (hq:H.get q=some (.cells rows.flatten 0 true)) (hr3:∀ x ∈ rows,x.length=z) (hg:H.get r=some (.cells row imm true)) (hrow:row.length=z) (hone:row.all AV.one=true) (hb1:(rows.length + 1) * b ≤ maxRoom) (hb2:rows.length + 1 ≤ maxRoom) :
   appendA P false H t t (.sl q 0 rows.length z) (.sl r 0 1 z)=some (.sl H.next 0 (rows.length + 1) z,(H.kill q).alloc (.cells (rows.flatten ++ row) 0 true)):=by
 have hx:srcCells H z (.sl r 0 1 z)=some (1,row):=by
   have:=src_sl (H:=H) (r:=r) (o:=0) (n:=1) (z:=z) (s:=z) hg (by rw [List.drop_zero,List.length_take];omega)
   rw [this,List.drop_zero,List.take_of_length_le (by omega)]
 have hrl:=rows_len hr3
 have htr:trimA false H z (.sl q 0 rows.length z)=H:=by
   unfold trimA
   simp only [hq,Nat.zero_add]
   have:Nat.blt (rows.length * z) rows.flatten.length=false:=by
     cases hb:Nat.blt (rows.length * z) rows.flatten.length with
     | false=>rfl
     | true=>rw [Nat.blt_eq] at hb;omega
   simp only [Bool.not_false,Bool.true_and,this,Bool.false_and]
 simp only [appendA,ht,hs,hb,hz,hsrc,hx,hone,htr,hzz,and_self,if_true,appendOnto,hq,Nat.zero_add,List.drop_zero,Bool.false_eq_true,if_false]
 rw [if_pos ⟨hb1,hb2,by omega,trivial,Nat.zero_le _⟩]
theorem drop_slice {S:Nat → Prop} {r:Nat} {H:Hp} {kids:List Int} (h0:kids.length ≠ 0) (hg:H.get r=some (.cells (kids.map (.int .i64)) 0 true)) (hr:r < H.next) (hS:S r) :
   ∃ kv,sliceA Try.prog 26 (.sl r 0 kids.length 1) (some (.int .i64 1)) none=some kv ∧ AV.one kv=true ∧ kv.cells=[kv] ∧ ∀ H',H.next ≤ H'.next → H'.get r=H.get r → RdW S 2 H' kv (lstI (kids.drop 1)):=by
 have e1:(1:Int)=Int.ofNat 1:=rfl
 have hs:sliceA Try.prog 26 (.sl r 0 kids.length 1) (some (.int .i64 1)) none=some (if 1=kids.length then .lst [] else .sl r (0 + 1 * 1) (kids.length - 1) 1):=by
   simp only [sliceA,Try.underlying26,sz3,e1,boundA]
   rw [if_pos ⟨by omega,Nat.le_refl _,trivial⟩]
   split <;> rfl
 rw [hs]
 by_cases c:1=kids.length
 · rw [if_pos c]
   refine ⟨_,rfl,rfl,rfl,fun H' _ _=>?_⟩
   have:kids.drop 1=[]:=List.eq_nil_of_length_eq_zero (by rw [List.length_drop];omega)
   rw [this];exact RdW.lst0
 · rw [if_neg c]
   refine ⟨_,rfl,rfl,rfl,fun H' hn hg'=>?_⟩
   have hdl:(kids.drop 1).length=kids.length - 1:=List.length_drop
   refine ⟨.lst (chunk 1 (kids.length - 1) ((kids.drop 1).map (.int .i64))),⟨hS,by omega,_,0,true,(kids.drop 1).map (.int .i64),by rw [hg'];exact hg,Nat.zero_le _,by rw [List.length_map];omega,?_,rfl⟩,fun m hm=>?_⟩
   · rw [← List.map_drop, List.take_of_length_le (by rw [List.length_map, List.length_drop]; omega)]
     exact all2_ints _ _ _ _
   · rw [← hdl, chunkI_one]
     obtain ⟨k,rfl⟩:∃ k,m=k + 2:=⟨m - 2,by omega⟩
     exact wk60_ints k _
structure MutF (ws:List (List AV)) (w:List AV) (k:Nat) (E:Env) (H:Hp) (q:Nat) (rows:List (List AV)) (row:List AV):Prop where
 k7:E.at 7=.sl q 0 rows.length 3
 k8:E.at 8=.int .i64 k
 k9:∃ r,E.at 9=.ptr r 0 ∧ H.get r=some (.cells row 0 true) ∧ r ≠ q
 gq:H.get q=some (.cells rows.flatten 0 true)
 r3:∀ x ∈ rows,x.length=3
 w3:row.length=3
 one:row.all AV.one=true
 rw_:RowsW (fun j=>j ≠ q) 2 H 3 rows ws
 cw:CellsW (fun j=>j ≠ q) 2 H row w
 lt:q < H.next
structure MuX where
 l:List Nd
 how:Int
 a:Int
def muxE (x:MuX):List AV:=[lstN x.l,.int .i64 x.how,.int .i64 x.a]
theorem muxE_inj (x y:MuX) (h:muxE x=muxE y):x=y:=by
 obtain ⟨a,b,c⟩:=x
 obtain ⟨a',b',c'⟩:=y
 simp only [muxE,List.cons.injEq,AV.int.injEq,and_true,true_and] at h
 rw [lstN_inj h.1,h.2.1,h.2.2]
def muxOk (x:MuX):Prop:=NdsOk x.l ∧ x.l ≠ []
set_option maxRecDepth 100000 in
theorem mutate_con (ρ : Nat → Int) (x : MuX) (hx : muxOk x) : Con Try.prog ρ 22 (muxE x) (lstN (mutN x.l x.how x.a)) := con_of_wk2 (n := 60) (cfg := cfgN pls [enPick]) fit (noDec ρ) (EnsOk.look ⟨enPick_ok ρ, trivial⟩) (.cons (nds_pure _) (.cons (.int _ _) (.cons (.int _ _) .nil))) (by
  obtain ⟨l,how,a⟩:=x
  obtain ⟨hl,hne⟩:=hx
  simp only [] at hl hne
  have hl1:=hl.1
  have hw:Plain (cfgN pls [enPick]) 22:=plainN (fun _=>rfl) rfl
  have hkeep:(cfgN pls [enPick]).keep 22=false:=rfl
  have hlp:0 < l.length:=List.length_pos_iff.2 hne
  have hr:=pickG_range (n:=a) (m:=l.length) (by omega) (by omega)
  obtain ⟨k,hk⟩:=Int.eq_ofNat_of_zero_le hr.1
  rw [hk] at hr
  have hkl:k < l.length:=by omega
  have hgk:l[k]?=some (l.getD k ⟨0,0,[]⟩):=by rw [List.getD_eq_getElem?_getD,List.getElem?_eq_getElem hkl];rfl
  have hnk:(l.getD k ⟨0,0,[]⟩).kids.length < 2 ^ 30:=by
    have:=List.mem_of_getElem? hgk
    exact hl.2 _ this
  have hmut:mutN l how a=(if pickG how 10=5 then l ++ [l.getD k ⟨0,0,[]⟩] else l).set k (mutNd l (l.getD k ⟨0,0,[]⟩) how a):=by
    rw [mutN,if_neg hne,hk,Int.toNat_natCast]
  generalize hn:l.getD k ⟨0,0,[]⟩=n at *
  rw [muxE]
  simp only []
  have hlne:(l.length:Int) ≠ 0:=by omega
  refine WpCall.slim (M:=111) (rs:=[.tmp 6]) (hw.call _) hw.ice hw.froz Try.func22 rfl rfl code22.2 rfl ?_;dsimp only [code22,envOf,Nat.reduceAdd]
  have gh0:=@bsN0
  repeat' (first
     | (apply Rx.nl ?_;clear hK K)|apply Rx.o ?_|apply Rx.on ?_|apply Wp.seq ?_|(apply Wp.ops' fun K hK=>?_)|(apply Rx.dT 13 [(1,7),(1,10),(5,7),(9,10)] fun K hK=>?_)|(apply Rx.dT 16 [(1,7),(1,13),(1,16),(5,7),(6,7),(11,7),(11,13)] fun K hK=>?_)|(apply Rx.nq ?_;try intro _)|(apply Rx.nt ?_ ?_ <;> clear hK K)|apply WpT.step ?_|apply WpT.step0 rfl ?_|apply Wp.block ?_|apply Rx.sk ?_|apply Rx.rt ?_)
  obtain ⟨q,H1,a1,gq,hq1,hq2,n1,n1',o1⟩:=app_rows (P:=Try.prog) (t:=60) (H:=H0.alloc (.cells [] 0 true)) (q:=0) Try.underlying60 sz66 bt66 zr66 rfl (by kernel_rfl) (by rw [Hp.get_alloc,if_pos (by rfl)]) (by rw [Hp.next_alloc];omega) (rows:=l.map Nd.cells) (rows_nds l) (nds_one l) (by simp [maxRoom];omega) (by simp [maxRoom];omega)
  refine WpL.append eV eV (by rw [hkeep];exact a1) ?_
  have hrow:(l.map Nd.cells)[k]?=some n.cells:=by rw [List.getElem?_map,hgk];rfl
  have hagg:=agg_row (rows_nds l) hrow
  repeat' (first
     | (apply Rx.nl ?_;clear hK K)|apply Ry.o ?_|apply Ry.on ?_|(apply Ry.call ?_;first|refine Rx.k (pick_en (fun _=>rfl) _ _ hlne _) ?_)|(apply Ry.cd (fun hb hbp=>?_) (fun hb hbp=>?_) <;> try (cases hb;done))|apply Wp.seq ?_|(apply Wp.ops' fun K hK=>?_)|(apply Rx.dT 13 [(1,7),(1,10),(5,7),(9,10)] fun K hK=>?_)|(apply Rx.dT 16 [(1,7),(1,13),(1,16),(5,7),(6,7),(11,7),(11,13)] fun K hK=>?_)|(apply Rx.nq ?_;try intro _)|(apply Rx.nt ?_ ?_ <;> clear hK K)|apply WpT.step ?_|apply WpT.step0 rfl ?_|apply Wp.block ?_|apply Rx.sk ?_|apply Rx.rt ?_)
  generalize hHb:Hp.set (Hp.alloc H1 _) _ _=H2
  have n2:H1.next + 1 ≤ H2.next:=by rw [← hHb];exact Nat.le_refl _
  have g9:H2.get H1.next=some (.cells [.int .i64 n.op,.int .i64 n.imm,lstI n.kids] 0 true):=by rw [← hHb,Hp.get_set,if_pos rfl];rfl
  have gq2:H2.get q=some (.cells (l.map Nd.cells).flatten 0 true):=by rw [← hHb,Hp.get_set,if_neg (by omega),Hp.get_alloc,if_neg (by omega)];exact gq
  have hq9:q < H1.next:=hq2
  clear hHb a1 o1 n1 n1' hq1 hq2 gq hagg hrow
  obtain ⟨kv,H3,a3,s3,n3,o3⟩:=appZ_lst (H:=H2.alloc (.cells [] 0 true)) (v:=.sl H2.next 0 0 1) (l:=[]) (lo:=H2.next) n.kids ⟨H2.next,rfl,by rw [Hp.get_alloc,if_pos rfl];rfl,Nat.le_refl _,Nat.lt_succ_self _⟩ (Nat.le_succ _) (by simp;omega)
  rw [List.nil_append] at s3
  have n3':H2.next + 1 ≤ H3.next:=n3
  have g93:H3.get H1.next=some (.cells [.int .i64 n.op,.int .i64 n.imm,lstI n.kids] 0 true):=by rw [o3 _ (by omega),Hp.get_alloc,if_neg (by omega)];exact g9
  have gq3:H3.get q=some (.cells (l.map Nd.cells).flatten 0 true):=by rw [o3 _ (by omega),Hp.get_alloc,if_neg (by omega)];exact gq2
  have hkv1:AV.one kv=true ∧ kv.cells=[kv]:=by obtain ⟨r,rfl,_⟩:=s3;exact ⟨rfl,rfl⟩
  obtain ⟨hkv1,hkv2⟩:=hkv1
  have e1:(H1.next == H2.next)=false:=ne_beq (by omega)
  clear n3 o3 gq2
  have gh0:=@bnI0
  repeat' (first
     | (apply Rx.nl ?_;clear hK K)|apply Rx.o ?_|apply Rx.on ?_|(apply Rx.call ?_;first|refine Rx.k (pick_en (fun _=>rfl) _ _ (by decide) _) ?_)|apply Wp.seq ?_|(apply Wp.ops' fun K hK=>?_)|(apply Rx.dT 13 [(1,7),(1,10),(5,7),(9,10)] fun K hK=>?_)|(apply Rx.dT 16 [(1,7),(1,13),(1,16),(5,7),(6,7),(11,7),(11,13)] fun K hK=>?_)|(apply Rx.nq ?_;try intro _)|(apply Rx.nt ?_ ?_ <;> clear hK K)|apply WpT.step ?_|apply WpT.step0 rfl ?_|apply Wp.block ?_|apply Rx.sk ?_|apply Rx.rt ?_)
  generalize hHb:Hp.set H3 _ _=H4
  have n4:H4.next=H3.next:=by rw [← hHb];rfl
  have g94:H4.get H1.next=some (.cells [.int .i64 n.op,.int .i64 n.imm,kv] 0 true):=by rw [← hHb,Hp.get_set,if_pos rfl]
  have gq4:H4.get q=some (.cells (l.map Nd.cells).flatten 0 true):=by rw [← hHb,Hp.get_set,if_neg (by omega)];exact gq3
  have s4:IntZ H4 kv n.kids H2.next:=s3.keep (by omega) fun k hk=>by rw [← hHb,Hp.get_set,if_neg (by have:=(s3.b.lt hk).1;omega)]
  have n4':H1.next + 1 ≤ H4.next:=by omega
  have nq4:q < H4.next:=by omega
  have nq2:H1.next < H2.next:=by omega
  clear hHb a3 s3 g93 gq3 g9 n2 n3' n4 e1
  obtain ⟨m,hm⟩:∃ m,pickG how 10=m:=⟨_,rfl⟩
  have hmr:=pickG_range (n:=how) (m:=10) (by omega) (by omega)
  rw [hm] at hmr hmut
  have hmn:mutNd l n how a=if m=0 then ⟨pickG (w64 (how.tdiv 10)) 36 - 1,n.imm,n.kids⟩
    else if m=1 then ⟨n.op,pickG (w64 (how.tdiv 10)) 300 - 3,n.kids⟩
    else if m=2 then ⟨n.op,n.imm,n.kids ++ [pickG (w64 (how.tdiv 10)) (l.length + 2) - 1]⟩
    else if m=3 then (if n.kids=[] then n else ⟨n.op,n.imm,n.kids.set (pickG (w64 (how.tdiv 10)) n.kids.length).toNat (pickG (w64 (a.tdiv 3)) (l.length + 2) - 1)⟩)
    else if m=4 then ⟨n.op,n.imm,n.kids.drop 1⟩
    else if m=6 then ⟨3,pickG (w64 (how.tdiv 10)) 40,[]⟩
    else n:=by rw [mutNd,hm]
  generalize mutNd l n how a=w at *
  have q10:(10:Int) ≠ 0:=by decide
  have q3:(3:Int) ≠ 0:=by decide
  have hml:∀ S,RowsW (fun j=>j ≠ q) 2 S 3 (l.map Nd.cells) (l.map Nd.cells):=fun S=>RowsW.nds l
  have hlm:(l.map Nd.cells).length=l.length:=List.length_map _
  refine Wp.join2 (fun E' H'=>∃ q' rows row,MutF ((if m=5 then l ++ [n] else l).map Nd.cells) w.cells k E' H' q' rows row) ?_ ?_
  · have hS : ∀ (kv' : AV) (kids : List Int) (o i : Int) (H : Hp), IntN H kv' kids H2.next → CellsW (fun j => j ≠ q) 2 H [.int .i64 o, .int .i64 i, kv'] (Nd.mk o i kids).cells := fun kv' kids o i H h => nd_cells o i h fun k hk => by omega
    have ho3:∀ (o i:Int) (kv':AV),AV.one kv'=true → ([.int .i64 o,.int .i64 i,kv']:List AV).all AV.one=true:=fun o i kv' h=>by
      show (true && (true && (AV.one kv' && true)))=true
      rw [h];rfl
    have hfin:∀ (E:Env) (o i:Int) (kv':AV) (kids:List Int) (Hx:Hp),E.at 7=.sl q 0 l.length 3 → E.at 8=.int .i64 k → E.at 9=.ptr H1.next 0 → Hx.get H1.next=some (.cells [.int .i64 o,.int .i64 i,kv'] 0 true) → Hx.get q=some (.cells (l.map Nd.cells).flatten 0 true) → AV.one kv'=true → CellsW (fun j=>j ≠ q) 2 Hx [.int .i64 o,.int .i64 i,kv'] (Nd.mk o i kids).cells → q < Hx.next → m ≠ 5 → w=⟨o,i,kids⟩ → ∃ q' rows row,MutF ((if m=5 then l ++ [n] else l).map Nd.cells) w.cells k E Hx q' rows row:=fun E o i kv' kids Hx h7 h8 h9 hg hq h1 hc hlt h5 hw=>by
      subst hw
      exact ⟨q,l.map Nd.cells,[.int .i64 o,.int .i64 i,kv'],⟨by rw [hlm];exact h7,h8,⟨H1.next,h9,hg,by omega⟩,hq,rows_nds l,rfl,ho3 _ _ _ h1,by rw [if_neg h5];exact hml _,hc,hlt⟩⟩
    by_cases c0:m=0
    · have hr0 := pickG_range (n := w64 (how.tdiv 10)) (m := 36) (by omega) (by omega)
      obtain ⟨p,hp⟩:∃ p,pickG (w64 (how.tdiv 10)) 36=p:=⟨_,rfl⟩
      have hp':pickG (IntKind.wrap .i64 (how.tdiv 10)) 36=p:=hp
      rw [if_pos c0,hp] at hmn
      rw [hp] at hr0
      have ew:IntKind.wrap .i64 (p - 1)=p - 1:=i64_id (by omega) (by omega)
      clear hp
      repeat' (first
         | (apply Rx.nl ?_;clear hK K)|apply Ry.o ?_|apply Ry.on ?_|(apply Ry.call ?_;first|refine Rx.k (pick_en (fun _=>rfl) _ _ (by decide) _) ?_)|(apply Ry.cd (fun hb hbp=>?_) (fun hb hbp=>?_) <;> try (cases hb;done))|apply Wp.seq ?_|(apply Wp.ops' fun K hK=>?_)|(apply Rx.dT 13 [(1,7),(1,10),(5,7),(9,10)] fun K hK=>?_)|(apply Rx.dT 16 [(1,7),(1,13),(1,16),(5,7),(6,7),(11,7),(11,13)] fun K hK=>?_)|(apply Rx.nq ?_;try intro _)|(apply Rx.nt ?_ ?_ <;> clear hK K)|apply WpT.step ?_|apply WpT.step0 rfl ?_|apply Wp.block ?_|apply Rx.sk ?_|apply Rx.rt ?_)
      exact ⟨rfl,hfin _ (p - 1) n.imm kv n.kids _ eE eE eE (by rw [Hp.get_set,if_pos rfl]) (by rw [Hp.get_set,if_neg (by omega)];exact gq4) hkv1 (hS _ _ _ _ _ (.inr (s4.b.keep (Nat.le_refl _) fun k hk=>by rw [Hp.get_set,if_neg (by have:=(s4.b.lt hk).1;omega)]))) nq4 (by omega) hmn⟩
    rw [if_neg c0] at hmn
    by_cases c1:m=1
    · have hr0 := pickG_range (n := w64 (how.tdiv 10)) (m := 300) (by omega) (by omega)
      obtain ⟨p,hp⟩:∃ p,pickG (w64 (how.tdiv 10)) 300=p:=⟨_,rfl⟩
      have hp':pickG (IntKind.wrap .i64 (how.tdiv 10)) 300=p:=hp
      rw [if_pos c1,hp] at hmn
      rw [hp] at hr0
      have ew:IntKind.wrap .i64 (p - 3)=p - 3:=i64_id (by omega) (by omega)
      clear hp
      repeat' (first
         | (apply Rx.nl ?_;clear hK K)|apply Ry.o ?_|apply Ry.on ?_|(apply Ry.call ?_;first|refine Rx.k (pick_en (fun _=>rfl) _ _ (by decide) _) ?_)|(apply Ry.cd (fun hb hbp=>?_) (fun hb hbp=>?_) <;> try (cases hb;done))|apply Wp.seq ?_|(apply Wp.ops' fun K hK=>?_)|(apply Rx.dT 13 [(1,7),(1,10),(5,7),(9,10)] fun K hK=>?_)|(apply Rx.dT 16 [(1,7),(1,13),(1,16),(5,7),(6,7),(11,7),(11,13)] fun K hK=>?_)|(apply Rx.nq ?_;try intro _)|(apply Rx.nt ?_ ?_ <;> clear hK K)|apply WpT.step ?_|apply WpT.step0 rfl ?_|apply Wp.block ?_|apply Rx.sk ?_|apply Rx.rt ?_)
      exact ⟨rfl,hfin _ n.op (p - 3) kv n.kids _ eE eE eE (by rw [Hp.get_set,if_pos rfl]) (by rw [Hp.get_set,if_neg (by omega)];exact gq4) hkv1 (hS _ _ _ _ _ (.inr (s4.b.keep (Nat.le_refl _) fun k hk=>by rw [Hp.get_set,if_neg (by have:=(s4.b.lt hk).1;omega)]))) nq4 (by omega) hmn⟩
    rw [if_neg c1] at hmn
    have hl2:(l.length:Int) + 2 ≠ 0:=by omega
    have ew2:IntKind.wrap .i64 ((l.length:Int) + 2)=(l.length:Int) + 2:=i64_id (by omega) (by omega)
    by_cases c2:m=2
    · have hr0 := pickG_range (n := w64 (how.tdiv 10)) (m := (l.length : Int) + 2) (by omega) (by omega)
      obtain ⟨p,hp⟩:∃ p,pickG (w64 (how.tdiv 10)) ((l.length:Int) + 2)=p:=⟨_,rfl⟩
      have hp':pickG (IntKind.wrap .i64 (how.tdiv 10)) ((l.length:Int) + 2)=p:=hp
      rw [if_pos c2,hp] at hmn
      rw [hp] at hr0
      have ew:IntKind.wrap .i64 (p - 1)=p - 1:=i64_id (by omega) (by omega)
      clear hp
      have hvb:IntN (H4.alloc (.cells [.int .i64 (p - 1)] 0 true)) kv n.kids H2.next:=.inr (s4.b.keep (Nat.le_succ _) fun k hk=>by rw [Hp.get_alloc,if_neg (by have:=(s4.b.lt hk).2;omega)])
      have hH24:H2.next ≤ H4.next:=by obtain ⟨r,_,_,h1,h2⟩:=s4;omega
      obtain ⟨v5,H5,a5,s5,n5,f5,o5⟩:=appI_one (r:=H4.next) (imm:=0) (p - 1) hvb (by simp only [Hp.next_alloc];omega) (by rw [Hp.get_alloc,if_pos rfl]) (by omega)
      have n5':H4.next + 1 ≤ H5.next:=by simp only [Hp.next_alloc] at n5;omega
      have g95:H5.get H1.next=some (.cells [.int .i64 n.op,.int .i64 n.imm,kv] 0 true):=by rw [f5 _ (by omega),Hp.get_alloc,if_neg (by omega)];exact g94
      have gq5:H5.get q=some (.cells (l.map Nd.cells).flatten 0 true):=by rw [f5 _ (by omega),Hp.get_alloc,if_neg (by omega)];exact gq4
      have h1v5:AV.one v5=true ∧ v5.cells=[v5]:=by obtain ⟨r,imm,rfl,_⟩:=s5;exact ⟨rfl,rfl⟩
      obtain ⟨hv51,hv52⟩:=h1v5
      have e1:(H1.next == H4.next)=false:=ne_beq (by omega)
      clear n5 f5 o5 hvb
      repeat' (first
         | (apply Rx.nl ?_;clear hK K)|apply Ry.o ?_|apply Ry.on ?_|(apply Ry.call ?_;first|refine Rx.k (pick_en (fun _=>rfl) _ _ hl2 _) ?_)|(apply Ry.cd (fun hb hbp=>?_) (fun hb hbp=>?_) <;> try (cases hb;done))|apply Wp.seq ?_|(apply Wp.ops' fun K hK=>?_)|(apply Rx.dT 13 [(1,7),(1,10),(5,7),(9,10)] fun K hK=>?_)|(apply Rx.dT 16 [(1,7),(1,13),(1,16),(5,7),(6,7),(11,7),(11,13)] fun K hK=>?_)|(apply Rx.nq ?_;try intro _)|(apply Rx.nt ?_ ?_ <;> clear hK K)|apply WpT.step ?_|apply WpT.step0 rfl ?_|apply Wp.block ?_|apply Rx.sk ?_|apply Rx.rt ?_)
      · exact eK
      · exact ⟨rfl,hfin _ n.op n.imm v5 (n.kids ++ [p - 1]) _ eE eE eE (by rw [Hp.get_set,if_pos rfl]) (by rw [Hp.get_set,if_neg (by omega)];exact gq5) hv51 (hS _ _ _ _ _ (.inr (s5.keep (Nat.le_refl _) fun k hk=>by rw [Hp.get_set,if_neg (by have:=(s5.lt hk).1;omega)]))) (by simp only [Hp.next_set];omega) (by omega) hmn⟩
    rw [if_neg c2] at hmn
    have hd0:∀ (Hx:Hp),IntZ Hx kv n.kids H2.next → CellsW (fun j=>j ≠ q) 2 Hx [.int .i64 n.op,.int .i64 n.imm,kv] (Nd.mk n.op n.imm n.kids).cells:=fun Hx h=>hS _ _ _ _ _ (.inr h.b)
    by_cases c3:m=3
    · rw [if_pos c3] at hmn
      by_cases hke:n.kids=[]
      · rw [if_pos hke] at hmn
        obtain ⟨r,hkvr,gr,lr,rl⟩:=s4
        have hlen0:n.kids.length=0:=by rw [hke];rfl
        have hz:=hd0 H4 ⟨r,hkvr,gr,lr,rl⟩
        rw [hlen0] at hkvr
        have hlk:lenAt Try.prog H4 26 kv=some (.int .i64 0):=by rw [hkvr];exact lenAt_sl Try.underlying26 _ _ _ _
        clear hkvr
        repeat' (first
           | (apply Rx.nl ?_;clear hK K)|apply Ry.o ?_|apply Ry.on ?_|(apply Ry.cd (fun hb hbp=>?_) (fun hb hbp=>?_) <;> try (cases hb;done))|apply Wp.seq ?_|(apply Wp.ops' fun K hK=>?_)|(apply Rx.dT 13 [(1,7),(1,10),(5,7),(9,10)] fun K hK=>?_)|(apply Rx.dT 16 [(1,7),(1,13),(1,16),(5,7),(6,7),(11,7),(11,13)] fun K hK=>?_)|(apply Rx.nq ?_;try intro _)|(apply Rx.nt ?_ ?_ <;> clear hK K)|apply WpT.step ?_|apply WpT.step0 rfl ?_|apply Wp.block ?_|apply Rx.sk ?_|apply Rx.rt ?_)
        exact ⟨rfl,hfin _ n.op n.imm kv n.kids _ eE eE eE g94 gq4 hkv1 hz nq4 (by omega) hmn⟩
      · rw [if_neg hke] at hmn
        have hlp2:0 < n.kids.length:=List.length_pos_iff.2 hke
        have hkne:(n.kids.length:Int) ≠ 0:=by omega
        have hr1:=pickG_range (n:=w64 (how.tdiv 10)) (m:=n.kids.length) (by omega) (by omega)
        obtain ⟨p1,hp1⟩:=Int.eq_ofNat_of_zero_le hr1.1
        have hp1':pickG (IntKind.wrap .i64 (how.tdiv 10)) n.kids.length=p1:=hp1
        have hr2:=pickG_range (n:=w64 (a.tdiv 3)) (m:=(l.length:Int) + 2) (by omega) (by omega)
        obtain ⟨p2,hp2⟩:∃ p,pickG (w64 (a.tdiv 3)) ((l.length:Int) + 2)=p:=⟨_,rfl⟩
        have hp2':pickG (IntKind.wrap .i64 (a.tdiv 3)) ((l.length:Int) + 2)=p2:=hp2
        rw [hp1,hp2,Int.toNat_natCast] at hmn
        rw [hp1] at hr1
        rw [hp2] at hr2
        have ew:IntKind.wrap .i64 (p2 - 1)=p2 - 1:=i64_id (by omega) (by omega)
        have hp1l:p1 < n.kids.length:=by omega
        clear hp1 hp2
        obtain ⟨r,hkvr,gr,lr,rl⟩:=s4
        have hlk:∀ H:Hp,lenAt Try.prog H 26 kv=some (.int .i64 n.kids.length):=fun H=>by rw [hkvr];exact lenAt_sl Try.underlying26 _ _ _ _
        have hix:indexAddrA Try.prog 26 kv (.int .i64 (p1:Int))=some (.ptr r p1):=by rw [hkvr,index_sl Try.underlying26 sz3 hp1l];simp
        have hgt:(0:Int) < n.kids.length:=by omega
        have er:(H1.next == r)=false:=ne_beq (by omega)
        repeat' (first
           | (apply Rx.nl ?_;clear hK K)|apply Ry.o ?_|apply Ry.on ?_|(apply Ry.call ?_;first|refine Rx.k (pick_en (fun _=>rfl) _ _ hkne _) ?_|refine Rx.k (pick_en (fun _=>rfl) _ _ hl2 _) ?_)|(apply Ry.cd (fun hb hbp=>?_) (fun hb hbp=>?_) <;> try (cases hb;done))|apply Wp.seq ?_|(apply Wp.ops' fun K hK=>?_)|(apply Rx.dT 13 [(1,7),(1,10),(5,7),(9,10)] fun K hK=>?_)|(apply Rx.dT 16 [(1,7),(1,13),(1,16),(5,7),(6,7),(11,7),(11,13)] fun K hK=>?_)|(apply Rx.nq ?_;try intro _)|(apply Rx.nt ?_ ?_ <;> clear hK K)|apply WpT.step ?_|apply WpT.step0 rfl ?_|apply Wp.block ?_|apply Rx.sk ?_|apply Rx.rt ?_)
        refine WpL.store eV eV (set_int gr (by rw [List.length_map];exact hp1l) _) ?_
        repeat' (first
           | (apply Rx.nl ?_;clear hK K)|apply Rx.o ?_|apply Rx.on ?_|apply Wp.seq ?_|(apply Wp.ops' fun K hK=>?_)|(apply Rx.dT 13 [(1,7),(1,10),(5,7),(9,10)] fun K hK=>?_)|(apply Rx.dT 16 [(1,7),(1,13),(1,16),(5,7),(6,7),(11,7),(11,13)] fun K hK=>?_)|(apply Rx.nq ?_;try intro _)|(apply Rx.nt ?_ ?_ <;> clear hK K)|apply WpT.step ?_|apply WpT.step0 rfl ?_|apply Wp.block ?_|apply Rx.sk ?_|apply Rx.rt ?_)
        · exact eK
        · refine ⟨rfl,hfin _ n.op n.imm kv (n.kids.set p1 (p2 - 1)) _ eE eE eE (by rw [Hp.get_set,if_neg (by omega)];exact g94) (by rw [Hp.get_set,if_neg (by omega)];exact gq4) hkv1 (hS _ _ _ _ _ (.inr ⟨r,0,by rw [List.length_set];exact hkvr,by rw [Hp.get_set,if_pos rfl,List.map_set],Nat.zero_le _,lr,rl⟩)) nq4 (by omega) hmn⟩
    rw [if_neg c3] at hmn
    by_cases c4:m=4
    · rw [if_pos c4] at hmn
      obtain ⟨r,hkvr,gr,lr,rl⟩:=s4
      have hz:=hd0 H4 ⟨r,hkvr,gr,lr,rl⟩
      have hlk:∀ H:Hp,lenAt Try.prog H 26 kv=some (.int .i64 n.kids.length):=fun H=>by rw [hkvr];exact lenAt_sl Try.underlying26 _ _ _ _
      by_cases hke:n.kids.length=0
      · have hgt : ¬ (0 : Int) < n.kids.length := by omega
        have hke2:n.kids.drop 1=n.kids:=by rw [List.eq_nil_of_length_eq_zero hke];rfl
        rw [hke2] at hmn
        clear hke
        repeat' (first
           | (apply Rx.nl ?_;clear hK K)|apply Ry.o ?_|apply Ry.on ?_|(apply Ry.cd (fun hb hbp=>?_) (fun hb hbp=>?_) <;> try (cases hb;done))|apply Wp.seq ?_|(apply Wp.ops' fun K hK=>?_)|(apply Rx.dT 13 [(1,7),(1,10),(5,7),(9,10)] fun K hK=>?_)|(apply Rx.dT 16 [(1,7),(1,13),(1,16),(5,7),(6,7),(11,7),(11,13)] fun K hK=>?_)|(apply Rx.nq ?_;try intro _)|(apply Rx.nt ?_ ?_ <;> clear hK K)|apply WpT.step ?_|apply WpT.step0 rfl ?_|apply Wp.block ?_|apply Rx.sk ?_|apply Rx.rt ?_)
        exact ⟨rfl,hfin _ n.op n.imm kv n.kids _ eE eE eE g94 gq4 hkv1 hz nq4 (by omega) hmn⟩
      · have hgt : (0 : Int) < n.kids.length := by omega
        obtain ⟨kv5,hsl,h51,h52,hc5⟩:=drop_slice (S:=fun j=>j ≠ q) (r:=r) (H:=H4) (kids:=n.kids) (by omega) gr rl (by omega)
        have hslH:∀ H:Hp,sliceHA Try.prog H 26 kv (some (.int .i64 1)) none=some kv5:=fun H=>by rw [hkvr];exact hsl
        clear hsl hkvr
        repeat' (first
           | (apply Rx.nl ?_;clear hK K)|apply Ry.o ?_|apply Ry.on ?_|(apply Ry.cd (fun hb hbp=>?_) (fun hb hbp=>?_) <;> try (cases hb;done))|apply Wp.seq ?_|(apply Wp.ops' fun K hK=>?_)|(apply Rx.dT 13 [(1,7),(1,10),(5,7),(9,10)] fun K hK=>?_)|(apply Rx.dT 16 [(1,7),(1,13),(1,16),(5,7),(6,7),(11,7),(11,13)] fun K hK=>?_)|(apply Rx.nq ?_;try intro _)|(apply Rx.nt ?_ ?_ <;> clear hK K)|apply WpT.step ?_|apply WpT.step0 rfl ?_|apply Wp.block ?_|apply Rx.sk ?_|apply Rx.rt ?_)
        exact ⟨rfl,hfin _ n.op n.imm kv5 (n.kids.drop 1) _ eE eE eE (by rw [Hp.get_set,if_pos rfl]) (by rw [Hp.get_set,if_neg (by omega)];exact gq4) h51 (.cons (.int _ _) (.cons (.int _ _) (.cons (hc5 _ (by simp only [Hp.next_set];omega) (by rw [Hp.get_set,if_neg (by omega)])) .nil))) nq4 (by omega) hmn⟩
    rw [if_neg c4] at hmn
    by_cases c5:m=5
    · rw [if_neg (by omega)] at hmn
      have hcw:∀ Hx:Hp,H4.next ≤ Hx.next → (∀ k,H2.next ≤ k → k < H4.next → Hx.get k=H4.get k) → CellsW (fun j=>j ≠ q) 2 Hx [.int .i64 n.op,.int .i64 n.imm,kv] n.cells:=fun Hx h1 h2=>hS kv n.kids n.op n.imm Hx (.inr (s4.b.keep h1 fun k hk=>h2 k (s4.b.lt hk).1 (s4.b.lt hk).2))
      have hone:=ho3 n.op n.imm kv hkv1
      have kbs:=fun H=>bsN1 H (cs:=[.int .i64 n.op,.int .i64 n.imm,kv]) rfl hone
      have hH24:H2.next ≤ H4.next:=by obtain ⟨r,_,_,h1,h2⟩:=s4;omega
      have a5:=app_row0 (P:=Try.prog) (t:=60) (H:=H4.alloc (.cells [.int .i64 n.op,.int .i64 n.imm,kv] 0 true)) (q:=q) (r:=H4.next) (imm:=0) (rows:=l.map Nd.cells) (row:=[.int .i64 n.op,.int .i64 n.imm,kv]) Try.underlying60 sz66 bt66 zr66 rfl (by kernel_rfl) (by rw [Hp.get_alloc,if_neg (by omega)];exact gq4) (rows_nds l) (by rw [Hp.get_alloc,if_pos rfl]) rfl hone (by simp [maxRoom];omega) (by simp [maxRoom];omega)
      rw [hlm] at a5
      generalize hHc:Hp.alloc (Hp.kill (H4.alloc _) _) _=H5 at a5
      have n5:H4.next + 2 ≤ H5.next:=by rw [← hHc];exact Nat.le_refl _
      have g5:H5.get (H4.next + 1)=some (.cells ((l.map Nd.cells).flatten ++ [.int .i64 n.op,.int .i64 n.imm,kv]) 0 true):=by rw [← hHc,Hp.get_alloc,if_pos (by simp only [Hp.next_kill,Hp.next_alloc])]
      have o5:∀ j,j < H4.next → j ≠ q → H5.get j=H4.get j:=fun j hj hjq=>by rw [← hHc,Hp.get_alloc,if_neg (by simp only [Hp.next_kill,Hp.next_alloc];omega),Hp.get_kill,if_neg hjq,Hp.get_alloc,if_neg (by omega)]
      clear hHc
      have g95:H5.get H1.next=some (.cells [.int .i64 n.op,.int .i64 n.imm,kv] 0 true):=by rw [o5 _ (by omega) (by omega)];exact g94
      rw [Hp.next_alloc] at a5
      obtain ⟨rk,hkvr,grk,lrk,rrk⟩:=s4
      have hrd5:RdW (fun j=>j ≠ H4.next + 1) 2 H5 kv (lstI n.kids):=by
        rw [hkvr]
        exact RdW.intsM n.kids (by omega) (by omega) (by rw [o5 rk rrk (by omega)];exact grk) (Nat.zero_le _)
      have hcw5:CellsW (fun j=>j ≠ H4.next + 1) 2 H5 [.int .i64 n.op,.int .i64 n.imm,kv] n.cells:=.cons (.int _ _) (.cons (.int _ _) (.cons hrd5 .nil))
      have hrl5:(l.map Nd.cells ++ [[.int .i64 n.op,.int .i64 n.imm,kv]]).length=l.length + 1:=by simp
      clear hkvr grk hrd5 o5
      repeat' (first
         | (apply Rx.nl ?_;clear hK K)|apply Ry.o ?_|apply Ry.on ?_|(apply Ry.cd (fun hb hbp=>?_) (fun hb hbp=>?_) <;> try (cases hb;done))|apply Wp.seq ?_|(apply Wp.ops' fun K hK=>?_)|(apply Rx.dT 13 [(1,7),(1,10),(5,7),(9,10)] fun K hK=>?_)|(apply Rx.dT 16 [(1,7),(1,13),(1,16),(5,7),(6,7),(11,7),(11,13)] fun K hK=>?_)|(apply Rx.nq ?_;try intro _)|(apply Rx.nt ?_ ?_ <;> clear hK K)|apply WpT.step ?_|apply WpT.step0 rfl ?_|apply Wp.block ?_|apply Rx.sk ?_|apply Rx.rt ?_)
      refine ⟨rfl,H4.next + 1,l.map Nd.cells ++ [[.int .i64 n.op,.int .i64 n.imm,kv]],[.int .i64 n.op,.int .i64 n.imm,kv],⟨?_,eE,⟨H1.next,eE,g95,by omega⟩,by rw [g5];simp,?_,rfl,hone,?_,by rw [hmn];exact hcw5,by omega⟩⟩
      · rw [hrl5];exact eE
      · intro x hx
        rcases List.mem_append.1 hx with h|h
        · exact rows_nds l x h
        · rw [List.mem_singleton] at h;subst h;rfl
      · rw [if_pos c5, List.map_append]
        exact All2.append (RowsW.nds l) ⟨⟨rfl,hcw5⟩,trivial⟩
    by_cases c6:m=6
    · rw [if_pos c6] at hmn
      obtain ⟨p,hp⟩:∃ p,pickG (w64 (how.tdiv 10)) 40=p:=⟨_,rfl⟩
      have hp':pickG (IntKind.wrap .i64 (how.tdiv 10)) 40=p:=hp
      rw [hp] at hmn
      clear hp
      repeat' (first
         | (apply Rx.nl ?_;clear hK K)|apply Ry.o ?_|apply Ry.on ?_|(apply Ry.call ?_;first|refine Rx.k (pick_en (fun _=>rfl) _ _ (by decide) _) ?_)|(apply Ry.cd (fun hb hbp=>?_) (fun hb hbp=>?_) <;> try (cases hb;done))|apply Wp.seq ?_|(apply Wp.ops' fun K hK=>?_)|(apply Rx.dT 13 [(1,7),(1,10),(5,7),(9,10)] fun K hK=>?_)|(apply Rx.dT 16 [(1,7),(1,13),(1,16),(5,7),(6,7),(11,7),(11,13)] fun K hK=>?_)|(apply Rx.nq ?_;try intro _)|(apply Rx.nt ?_ ?_ <;> clear hK K)|apply WpT.step ?_|apply WpT.step0 rfl ?_|apply Wp.block ?_|apply Rx.sk ?_|apply Rx.rt ?_)
      exact ⟨rfl,hfin _ 3 p .nilS [] _ eE eE eE (by rw [Hp.get_set,if_pos rfl]) (by rw [Hp.get_set,if_neg (by omega),Hp.get_set,if_neg (by omega),Hp.get_set,if_neg (by omega)];exact gq4) rfl (nd_nil 3 p) nq4 (by omega) hmn⟩
    rw [if_neg c6] at hmn
    repeat' (first
       | (apply Rx.nl ?_;clear hK K)|apply Ry.o ?_|apply Ry.on ?_|(apply Ry.cd (fun hb hbp=>?_) (fun hb hbp=>?_) <;> try (cases hb;done))|apply Wp.seq ?_|(apply Wp.ops' fun K hK=>?_)|(apply Rx.dT 13 [(1,7),(1,10),(5,7),(9,10)] fun K hK=>?_)|(apply Rx.dT 16 [(1,7),(1,13),(1,16),(5,7),(6,7),(11,7),(11,13)] fun K hK=>?_)|(apply Rx.nq ?_;try intro _)|(apply Rx.nt ?_ ?_ <;> clear hK K)|apply WpT.step ?_|apply WpT.step0 rfl ?_|apply Wp.block ?_|apply Rx.sk ?_|apply Rx.rt ?_)
    exact ⟨rfl,hfin _ n.op n.imm kv n.kids _ eE eE eE g94 gq4 hkv1 (hd0 H4 s4) nq4 (by omega) hmn⟩
  · rintro E5 H5 ⟨q', rows, row, hF⟩
    obtain ⟨k7,k8,⟨r,k9,gr,hrq⟩,gq',hr3,hw3,hone,hrw,hcw,hlt⟩:=hF
    have hrl:rows.length=((if m=5 then l ++ [n] else l).map Nd.cells).length:=All2.len hrw
    have hkr:k < rows.length:=by
      rw [hrl,List.length_map]
      split
      · rw [List.length_append];omega
      · exact hkl
    have hst:=astore_row (P:=Try.prog) (t:=66) sz66 gq' hr3 hkr hw3 hone
    dsimp only [thenQ,blockQ]
    obtain ⟨x0,x1,x2,rfl⟩:=len3g hw3
    have hix:indexAddrA Try.prog 60 (.sl q' 0 rows.length 3) (.int .i64 (k:Int))=some (.ptr q' (k * 3)):=by
      rw [index_sl Try.underlying60 sz66 hkr,Nat.zero_add]
    clear hrl
    repeat' (first
       | (apply Rx.nl ?_;clear hK K)|apply Rx.o ?_|apply Rx.on ?_|apply Wp.seq ?_|(apply Wp.ops' fun K hK=>?_)|(apply Rx.dT 13 [(1,7),(1,10),(5,7),(9,10)] fun K hK=>?_)|(apply Rx.dT 16 [(1,7),(1,13),(1,16),(5,7),(6,7),(11,7),(11,13)] fun K hK=>?_)|(apply Rx.nq ?_;try intro _)|(apply Rx.nt ?_ ?_ <;> clear hK K)|apply WpT.step ?_|apply WpT.step0 rfl ?_|apply Wp.block ?_|apply Rx.sk ?_|apply Rx.rt ?_)
    all_goals (refine ⟨eI,_,eR,?_⟩;try simp only [oneOr])
    have hsl:(rows.set k [x0,x1,x2]).length=rows.length:=List.length_set
    have hrd:RdW (fun _=>True) 3 (H5.set q' (.cells (rows.set k [x0,x1,x2]).flatten 0 true)) (.sl q' 0 (rows.set k [x0,x1,x2]).length 3) (.lst (((if m=5 then l ++ [n] else l).map Nd.cells).set k w.cells)):=by
      refine RdW.rows (imm:=0) (tip:=true) trivial hlt (by rw [Hp.get_set,if_pos rfl]) (Nat.zero_le _) ?_
      have hk2:∀ j,j ≠ q' → (H5.set q' (.cells (rows.set k [x0,x1,x2]).flatten 0 true)).get j=H5.get j:=fun j hj=>by rw [Hp.get_set,if_neg hj]
      exact All2.set (RowsW.keep2 (H':=H5.set q' (.cells (rows.set k [x0,x1,x2]).flatten 0 true)) hrw (fun _ _ _=>trivial) (Nat.le_refl _) fun j hj _=>hk2 j hj) ⟨rfl,CellsW.keep2 (H':=H5.set q' (.cells (rows.set k [x0,x1,x2]).flatten 0 true)) hcw (fun _ _ _=>trivial) (Nat.le_refl _) fun j hj _=>hk2 j hj⟩
    obtain ⟨u,h1,h2⟩:=hrd
    obtain ⟨m0,hm0⟩:=Ic.iceV h1
    rw [hsl] at hm0
    refine ⟨m0,u,hm0 m0 (Nat.le_refl _),?_⟩
    rw [h2 60 (by omega),hmut,lstN,List.map_set])
end Go.Proofs.Ytackdnelcpbfjaa
namespace Go.Ab
set_option maxRecDepth 20000
open Go Go.WideShapes Go.Deep Go.RowKit Go.ChangeShapes
def memF (W:World):Nat → Nat → Option Value:=fun b o=>W.cell? ⟨b,o,none⟩
theorem memF_ok (W:World):∀ b o v,memF W b o=some v → W.cell? ⟨b,o,none⟩=some v:=fun _ _ _ h=>h
section
variable {H:Type} {enc:TypeId × Value → H} {P:Program} {W:World}
theorem arg_ints {r : Reach} {b0 : Nat} {t e : TypeId} {k : IntKind} {v : Value} {d : DataW H} {ps : List MemPlace} {sp : Nat → Bool} {held : Bool} (ht : P.underlying t = some (.slice e)) (he : P.underlying e = some (.int k)) (hc : P.cellsOf e = 1) (hval : Value.okWide P W r b0 t v) (hd : DataW.Trod enc P W 0 sp held t v d ps) (β : Nat → Option (Nat × Nat × Nat)) (ρ : Nat → Int) :
    ∃ l:List Int,VR ⟨β,memF W,ρ⟩ (.lst (l.map fun n=>[AV.int k n])) v ∧ l.length ≤ maxLen:=by
  obtain ⟨a0,len0,cap0,rfl⟩:=okWide_slice ht hval
  obtain ⟨fuel,hf⟩:=hd
  rcases open_slice1 ht hc hf with ⟨h,_⟩|⟨a,len,cap,m,n,V,D,Pl,h,hb,hl,hm,hmm,hx,hV⟩
  · simp [Value.cells] at h
    obtain ⟨rfl,rfl,rfl⟩:=h
    exact ⟨[],.lst0 _ _,Nat.zero_le _⟩
  · simp [Value.cells] at h
    obtain ⟨rfl,rfl,rfl⟩:=h
    have hlm:len0 ≤ m:=by rw [hmm];split <;> omega
    have hint:∀ i,∃ n:Int,i < len0 → V i=.int k n:=fun i=>by
      by_cases hi:i < len0
      · obtain ⟨n', h1, _⟩ := DataW.trod_int he (hV i (by omega)).2
        simp at h1
        exact ⟨n',fun _=>h1⟩
      · exact ⟨0,fun h=>absurd h hi⟩
    obtain ⟨N,hN⟩:=Classical.axiomOfChoice hint
    refine ⟨(List.range len0).map N,?_,by simp;omega⟩
    by_cases h0:len0=0
    · subst h0;exact .lst0 _ _
    obtain ⟨ab,ao,asp⟩:=a
    have hspot:asp=none:=by
      have:=(hV 0 (by omega)).1
      simp only [Addr.add,if_true,World.cell?] at this
      split at this
      · split at this
        · cases this
        · rename_i hn
          cases asp with
          | none=>rfl
          | some s=>simp at hn
      · cases this
    subst hspot
    have hlen:(((List.range len0).map N).map fun n=>[AV.int k n]).length=len0:=by simp
    have key:=VR.lst (G:=⟨β,memF W,ρ⟩) (xs:=((List.range len0).map N).map fun n=>[AV.int k n]) (b:=ab) (o:=ao) (cap:=cap0) (z:=1) (fun i _=>V i) ?_ ?_ ?_ (by rw [hlen];omega)
    · rw [hlen] at key;exact key
    · intro i row hr
      rw [List.getElem?_map] at hr
      cases hq:((List.range len0).map N)[i]? with
      | none=>rw [hq] at hr;simp at hr
      | some q=>rw [hq] at hr;simp only [Option.map_some,Option.some.injEq] at hr;rw [← hr];rfl
    · intro i j hi hj
      rw [hlen] at hi
      have h2:=(hV i (by omega)).1
      show W.cell? ⟨ab,ao + i * 1 + j,none⟩=some (V i)
      have hj0:j=0:=by omega
      subst hj0
      rw [← h2]
      congr 1
      unfold Addr.add
      split
      · rename_i h;subst h;rfl
      · simp
    · intro i j row c hr hcj
      rw [List.getElem?_map,List.getElem?_map] at hr
      by_cases hi:i < len0
      · rw [List.getElem?_range hi] at hr
        simp only [Option.map_some,Option.some.injEq] at hr
        subst hr
        cases j with
        | zero =>
          simp only [List.getElem?_cons_zero,Option.some.injEq] at hcj
          subst hcj
          show VR _ _ (V i)
          rw [hN i hi]
          exact .int k _
        | succ j=>simp at hcj
      · rw [List.getElem?_eq_none (by simp; omega)] at hr
        simp at hr
theorem arg_stays {t:TypeId} (hl:laidOutB P=true) (hr:P.readableRec t=true) (hrow:t < P.types.size) {W':World} {v:Value} {d:DataW H} {ps before:List MemPlace}
   (h:DataW.Trod enc P W 0 (fun _=>true) true t v d ps) (hb:Below W.heap.size W W') (hlt:∀ p ∈ before,p.block < W.heap.size) (hps:∀ p ∈ ps,p ∈ before) {sp:Nat → Bool} (hsp:∀ p ∈ before,sp p.block=true) :
   DataW.Trod enc P W' 0 sp true t v d ps:=
 WideElems.Trod_stays hl hr hrow h (fun x hx=>hb.same (hlt x (hps x hx))) fun x hx=>hsp x (hps x hx)
end
end Go.Ab
namespace Go.Proofs.Ytackdnelcpbfjaa
set_option maxRecDepth 20000
open Go Go.Ab
def intRows (l:List Int):AV:=.lst (l.map fun n=>[.int .i64 n])
theorem intRows_pure (l:List Int):PureA (intRows l):=.map fun n _=>.cons (.int _ _) .nil
theorem maxLen_lt {n:Nat} (h:n ≤ maxLen):n < 2 ^ 63:=Nat.lt_of_le_of_lt h (by decide)
theorem cells_int:Try.prog.cellsOf 3=1:=by kernel_rfl
set_option maxRecDepth 100000 in
theorem seeds_arg {H:Type} {enc:TypeId × Value → H} {W:World} {v0:Value} {r:Reach} {b0:Nat} (k0:Value.okWide Try.prog W r b0 26 v0) {d:DataW H} {ps:List MemPlace} {sp:Nat → Bool} {held:Bool} (h0:DataW.Trod enc Try.prog W 0 sp held 26 v0 d ps):∃ l:List Int,VR ⟨fun _=>none,memF W,fun _=>0⟩ (intRows l) v0 ∧ l.length < 2 ^ 63:=by
 obtain ⟨l,hv,hl⟩:=arg_ints Try.underlying26 Try.underlying3 cells_int k0 h0 (fun _=>none) (fun _=>0)
 exact ⟨l,hv,maxLen_lt hl⟩
end Go.Proofs.Ytackdnelcpbfjaa
namespace Go.Proofs.Ytackdnelcpbfjaa
set_option maxRecDepth 20000
open Go Go.Ab
def ndE (l:List Int):List AV:=[lstI l,.bool false]
theorem ndE_inj (x y:List Int) (h:ndE x=ndE y):x=y:=by
 simp only [ndE,List.cons.injEq,and_true] at h;exact lstI_inj h
noncomputable def enNd:En:=⟨23,false,spP (fun l=>l.length < 2 ^ 63) ndE fun l=>lstN (nodesL l false)⟩
theorem enNd_ok (ρ:Nat → Int):EnOk Try.prog ρ enNd:=spP_ok fun l hl=>nodes_con ρ l hl
theorem nd_en {tb:List En} (ht:∀ ar,lookN tb 23 ar=enNd.sp ar) (l:List Int) (hl:l.length < 2 ^ 63) (H:Hp):WpCall Try.prog (cfgN pls tb) 23 [lstI l,.bool false] H fun v H'=>v=lstN (nodesL l false) ∧ H'=H:=
 WpCall.en (enc:=ndE) (ok:=fun l=>l.length < 2 ^ 63) (out:=fun l=>lstN (nodesL l false)) ndE_inj (x:=l) (ht _) hl
noncomputable def enMut:En:=⟨22,true,spP muxOk muxE fun x=>lstN (mutN x.l x.how x.a)⟩
theorem enMut_ok (ρ:Nat → Int):EnOk Try.prog ρ enMut:=spP_ok fun x hx=>mutate_con ρ x hx
theorem mutn_en {tb:List En} (ht:∀ ar,lookN tb 22 ar=enMut.sp ar) (l:List Nd) (how a:Int) (hl:NdsOk l ∧ l ≠ []) (H:Hp):WpCall Try.prog (cfgN pls tb) 22 [lstN l,.int .i64 how,.int .i64 a] H fun v H'=>v=lstN (mutN l how a) ∧ H'=H:=
 WpCall.en (enc:=muxE) (ok:=muxOk) (out:=fun x=>lstN (mutN x.l x.how x.a)) muxE_inj (x:=⟨l,how,a⟩) (ht _) hl
noncomputable def enDe:En:=⟨24,true,spP (fun x=>NdsOk x.1) srE fun x=>lstI (depsI x.1 x.2)⟩
theorem enDe_ok (ρ:Nat → Int):EnOk Try.prog ρ enDe:=spP_ok fun x hx=>ideps_con ρ x hx
theorem nodesL_ok (l:List Int):NdsOk (nodesL l false):=nodesK_ok l false (Nat.min_le_right _ _)
theorem mutL_ok (l:List Int) (how a:Int):NdsOk (mutN (nodesL l false) how a) ∧ (mutN (nodesL l false) how a).length ≤ 18 ∧ mutN (nodesL l false) how a ≠ []:=by
 have h1:=nodesK_len l false (min l.length 14)
 have h2:=mutN_len (nodesL l false) how a
 have h3:(nodesL l false).length ≤ 17:=by unfold nodesL;omega
 have h4:=mutN_kids (nodesK_kids l false (min l.length 14)) how a
 exact ⟨⟨by omega,fun n hn=>by have:=h4 n hn;omega⟩,by omega,mutN_ne (nodesL_ne l false) how a⟩
end Go.Proofs.Ytackdnelcpbfjaa
