/- Parts: G3, G4, G5p, ChkM, LoL, SpecU. -/
import Derived.Test.YtpbcimfiofmoeaaSDN
set_option linter.unusedSimpArgs false
set_option linter.unusedVariables false
set_option linter.unusedSectionVars false
set_option linter.defProp false
set_option maxHeartbeats 32000000
namespace Go.Proofs.Ytpbcimfiofmoeaa
set_option maxRecDepth 20000
set_option maxRecDepth 20000
open Go Go.Ab
namespace tyG3
def tyF:=And.intro @tq2 (And.intro @tq3 (And.intro @tq9 (And.intro @zcV (And.intro @zcc (And.intro @zba (And.intro @zau (And.intro @nms2 (And.intro @zhg (@zhh)))))))))
end tyG3
open tyG3
noncomputable def code29:{ c:SC // slim 115 (Try.f29.body.getD .skip)=c }:=by
 refine⟨?_,?_⟩
 rotate_left
 ·simp only[Try.f29,Option.getD_some,slim,zZ,zS,z6,z7,Nat.blt,Nat.ble]
  rfl
def zoh (f:FuncId):Bool:=Nat.beq f 27||Nat.beq f 29||Nat.beq f 28||Nat.beq f 55||Nat.beq f 14
structure GenL (l:List En):Prop where
 pick:∀ ar,yQ l 9 ar=zke.sp ar
 word:∀ ar,yQ l 57 ar=zq4.sp ar
 nms:∀ ar,yQ l 56 ar=enNms.sp ar
 pl:∀ f,zoh f=true→(∀ ar,yQ l f ar=none)∧zev l f=false
theorem GenL.plain {l:List En} (h:GenL l) {f:FuncId} (hf:zoh f=true):Plain (zK pls l) f:=yJ (h.pl f hf).1 (h.pl f hf).2
theorem zlM {f:FuncId} (h:zoh f=true):f=27∨f=29∨f=28∨f=55∨f=14:=by
 simp only[zoh,Bool.or_eq_true]at h
 rcases h with (((h|h)|h)|h)|h<;>have e:=Nat.eq_of_beq_eq_true h<;>subst e<;>simp
def op2G (m:Int):Int:=if m.tmod 2=0 then 20 else 21
def zkn (m:Int):List UInt8:=if m.tmod 2=0 then [97]else [98]
def zD (f:Int):Nat→Nat→List Int→Ex×List Int
 | 0,_,L=>(.mk 0 0 [] 0 [],L)
 | k+1,deep,L=>
   let n:=(zF L).1
   let L1:=(zF L).2
   let q:=yn n 16
   let m:=yn (w64 (n.tdiv 16)) 1000
   if q < 4∨(3:Int) < deep then
    if q.tmod 2=0∨((3:Int) < deep∧8 < q)then (.mk 2 0 ((yB f).getD (m.tmod (yB f).length).toNat []) 0 [],L1)
    else (.mk 1 (zeL m n) [] 0 [],L1)
   else if q < 6 then (.mk 3 0 (zkn m) 0 [(zD f k (deep+1) L1).1],(zD f k (deep+1) L1).2)
   else if q < 7 then
    let a:=zD f k (deep+1) L1
    let b:=zD f k (deep+1) a.2
    let c:=zD f k (deep+1) b.2
    (.mk 5 0 [] 0 [a.1,b.1,c.1],c.2)
   else if q < 9 then (.mk 4 0 [] (op2G m) [(zD f k (deep+1) L1).1],(zD f k (deep+1) L1).2)
   else
    let a:=zD f k (deep+1) L1
    let b:=zD f k (deep+1) a.2
    (.mk 4 0 [] (w64 (4+m.tmod 15)) [a.1,b.1],b.2)
theorem yM (L:List Int):(zF L).2.length≤L.length:=by cases L<;>simp[zF]
theorem zJ (f:Int):∀ (k deep:Nat) (L:List Int),(zD f k deep L).2.length≤L.length
 | 0,_,_=>Nat.le_refl _
 | k+1,deep,L=>by
   have h:=yM L
   have ih:=fun L=>zJ f k (deep+1) L
   simp only[zD]
   split
   ·split<;>exact h
   ·split
    ·exact Nat.le_trans (ih _) h
    ·split
     ·exact Nat.le_trans (ih _) (Nat.le_trans (ih _) (Nat.le_trans (ih _) h))
     ·split
      ·exact Nat.le_trans (ih _) h
      ·exact Nat.le_trans (ih _) (Nat.le_trans (ih _) h)
def zlN (z n lo:Nat) (H:Hp) (r:Nat) (ws:List AV) (L:List Int) (c:Int) (v:AV) (H':Hp):Prop:=
 (∃ cs,v=.agg cs∧cs.length=z∧cs.all AV.one=true∧ym (fun q=>H.next≤q) n H' cs ws)∧zcl lo H' r L c∧H.next≤H'.next∧∀ q,q < H.next→q≠r→H'.get q=H.get q
theorem zah {α:Type} (l:List α) (hl:(l.length:Int)≠0) {m:Int} (hm:0≤m) (d:α):0≤m.tmod l.length∧l[(m.tmod l.length).toNat]?=some (l.getD (m.tmod l.length).toNat d):=by
 have h1:=Int.tmod_nonneg (l.length:Int) hm
 have h2:=Int.tmod_lt_of_pos m (b:=(l.length:Int)) (by omega)
 refine⟨h1,?_⟩
 generalize m.tmod l.length=t at *
 rw[List.getD_eq_getElem?_getD,List.getElem?_eq_getElem (by omega)];rfl
theorem tm2 {m:Int} (h:0≤m):0≤m.tmod 2∧m.tmod 2 < 2:=⟨Int.tmod_nonneg _ h,Int.tmod_lt_of_pos _ (by omega)⟩
theorem zko {m:Int} (h:0≤m) (r:Nat):zq Try.prog 47 (.sl r 0 2 1) (.int .i64 (m.tmod 2))=some (.ptr r (m.tmod 2).toNat):=by
 obtain⟨h1,h2⟩:=tm2 h
 rw[ix47s _ _ _ _ h1,decide_eq_true (by omega:(m.tmod 2).toNat < 2)];simp
theorem ixI2 {m:Int} (h:0≤m) (r:Nat):zq Try.prog 23 (.sl r 0 2 1) (.int .i64 (m.tmod 2))=some (.ptr r (m.tmod 2).toNat):=by
 obtain⟨h1,h2⟩:=tm2 h
 rw[ix23s _ _ _ _ h1,decide_eq_true (by omega:(m.tmod 2).toNat < 2)];simp
theorem znf {α:Type}{m:Int} (h:0≤m) (a b:α):[a,b][(m.tmod 2).toNat]?=some (if m.tmod 2=0 then a else b):=by
 obtain⟨h1,h2⟩:=tm2 h
 rcases (by omega:m.tmod 2=0∨m.tmod 2=1)with e|e<;>rw[e]<;>rfl
theorem zdy {m:Int} (h:0≤m):[AV.str [97],AV.str [98]][(m.tmod 2).toNat]?=some (.str (zkn m)):=by
 rw[znf h,zkn];split<;>rfl
theorem op2_at {m:Int} (h:0≤m):[AV.int .i64 20,AV.int .i64 21][(m.tmod 2).toNat]?=some (.int .i64 (op2G m)):=by
 rw[znf h,op2G];split<;>rfl
theorem bx2 (s:List UInt8):yj Try.prog 51 [(0,.int .i64 2),(2,.str s)]=some (.agg [.int .i64 2,.int .i64 0,.str s,.int .i64 0,.nilS]):=by kernel_rfl
theorem bx1 (n:Int):yj Try.prog 51 [(0,.int .i64 1),(1,.int .i64 n)]=some (.agg [.int .i64 1,.int .i64 n,.str [],.int .i64 0,.nilS]):=by kernel_rfl
theorem bx3 (s:List UInt8) (r n:Nat):yj Try.prog 51 [(0,.int .i64 3),(2,.str s),(4,.sl r 0 n 5)]=some (.agg [.int .i64 3,.int .i64 0,.str s,.int .i64 0,.sl r 0 n 5]):=by kernel_rfl
theorem bx5 (r n:Nat):yj Try.prog 51 [(0,.int .i64 5),(4,.sl r 0 n 5)]=some (.agg [.int .i64 5,.int .i64 0,.str [],.int .i64 0,.sl r 0 n 5]):=by kernel_rfl
theorem bx4 (o:Int) (r n:Nat):yj Try.prog 51 [(0,.int .i64 4),(3,.int .i64 o),(4,.sl r 0 n 5)]=some (.agg [.int .i64 4,.int .i64 0,.str [],.int .i64 o,.sl r 0 n 5]):=by kernel_rfl
theorem zcJ {cs:List AV} (h:cs.length=5):∃ a b c d e,cs=[a,b,c,d,e]:=by
 match cs,h with
 | [a,b,c,d,e],_=>exact⟨a,b,c,d,e,rfl⟩
theorem bsK1 (H:Hp) {cs:List AV} (h:cs.length=5) (h1:cs.all AV.one=true):zI Try.prog H 49 1 [(0,.agg cs)]=some (.sl H.next 0 1 5,H.alloc (.cells cs 0 true)):=by
 obtain⟨a,b,c,d,e,rfl⟩:=zcJ h
 kernel_rfl
theorem bsK2 (H:Hp) {cs ds:List AV} (h:cs.length=5) (k:ds.length=5):zI Try.prog H 49 2 [(0,.agg cs),(1,.agg ds)]=some (.sl H.next 0 2 5,H.alloc (.cells (cs++ds) 0 true)):=by
 obtain⟨a,b,c,d,e,rfl⟩:=zcJ h
 obtain⟨a',b',c',d',e',rfl⟩:=zcJ k
 kernel_rfl
theorem bsK3 (H:Hp) {cs ds es:List AV} (h:cs.length=5) (k:ds.length=5) (l:es.length=5):zI Try.prog H 49 3 [(0,.agg cs),(1,.agg ds),(2,.agg es)]=some (.sl H.next 0 3 5,H.alloc (.cells (cs++ds++es) 0 true)):=by
 obtain⟨a,b,c,d,e,rfl⟩:=zcJ h
 obtain⟨a',b',c',d',e',rfl⟩:=zcJ k
 obtain⟨a'',b'',c'',d'',e'',rfl⟩:=zcJ l
 kernel_rfl
theorem bsI2 (H:Hp) (a b:Int):zI Try.prog H 23 2 [(0,.int .i64 a),(1,.int .i64 b)]=some (.sl H.next 0 2 1,H.alloc (.cells [.int .i64 a,.int .i64 b] 0 true)):=by kernel_rfl
theorem zeB (a b c d e:AV):yL 5 [a,b,c,d,e]=some (.agg [a,b,c,d,e]):=rfl
set_option maxRecDepth 100000 in
theorem js {lG:List En} (hG:GenL lG):∀ (k:Nat) (f:Int) (deep:Nat),5≤deep+k→deep≤4→∀ (lo:Nat) (H:Hp) (r:Nat) (L:List Int) (c:Int),zcl lo H r L c→L.length < 2 ^ 60 →
 zr Try.prog (zK pls lG) 29 [.ptr r 0,.int .i64 f,.int .i64 deep] H (zlN 5 (k+1) lo H r (zD f k deep L).1.cells (zD f k deep L).2 c)
 | 0,f,deep,h1,h2,_,_,_,_,_,_,_=>by omega
 | k+1,f,deep,h1,h2,lo,H,r,L,c,hrd,hL=>by
   have hw:Plain (zK pls lG) 29:=hG.plain (by rfl)
   have hnx:Plain (zK pls lG) 27:=hG.plain (by rfl)
   have hrl:=hrd.1
   have hlo:=hrd.2.1
   have hq16:(16:Int)≠0:=by decide
   generalize hR:zD f (k+1) deep L=R
   rw[zD]at hR
   simp only[]at hR
   refine zj (M:=115) (rs:=[.cell 6 51]) (hw.call _) hw.ice hw.froz Try.func29 rfl rfl code29.2 rfl ?_;dsimp only[code29,zO,Nat.reduceAdd]
   repeat' (first
    | (apply Rx.nl ?_;clear hK K)|apply Rx.o ?_|apply Rx.on ?_|apply Rx.gu ?_|(apply Rx.gd (fun hg hgp=>?_) (fun hg hgp=>?_)<;>try (cases hg;done))|(apply Rx.cd (fun hb hbp=>?_) (fun hb hbp=>?_)<;>try (cases hb;done))|apply Wp.seq ?_|(apply zd fun K hK=>?_)|(apply zf 10 [(0,9),(0,12),(4,9),(4,12),(10,12)] fun K hK=>?_)|(apply zf 14 [(0,9),(0,12),(4,9),(4,12),(10,12)] fun K hK=>?_)|(apply zw ?_;try intro _)|(apply zx ?_ ?_<;>clear hK K)|apply WpT.step ?_|apply zo rfl ?_|apply Wp.block ?_|apply zh ?_|apply Rx.rt ?_)
   refine WpL.call rfl eVk eAk ?_;simp only[List.cons_append,List.nil_append,List.append_nil]
   refine zr.mono ?_ (zhr hnx (hrd.keep (Nat.le_succ _) fun q hq=>by rw[za,if_neg (by omega)]) hL)
   rintro v H2 ⟨rfl,hr2,n2,o2⟩
   simp only[zb]at n2
   have g2:H2.get H.next=some (.cells [.int .i64 0,.int .i64 0,.str [],.int .i64 0,.nilS] 0 true):=by rw[o2 _ (by omega),za,if_pos rfl]
   have o2':∀ q,q < H.next→q≠r→H2.get q=H.get q:=fun q h1 h2=>by rw[o2 q h2,za,if_neg (by omega)]
   have hL1:=yM L
   generalize (zF L).1=n at *
   generalize (zF L).2=L1 at *
   have hq:=yy (n:=n) (m:=16) (by omega) (by omega)
   have hm:=yy (n:=w64 (n.tdiv 16)) (m:=1000) (by omega) (by omega)
   have hq2:(2:Int)≠0:=by decide
   have hq15:(15:Int)≠0:=by decide
   have hlen0:((yB f).length:Int)≠0:=by rcases zbi f with h|h<;>rw[h]<;>decide
   have hwd:IntKind.wrap .i64 ((deep:Int)+1)=((deep+1:Nat):Int):=z9 (by omega)
   clear o2
   dsimp only[zA]
   obtain⟨hi0,hix⟩:=zah (yB f) hlen0 hm.1 []
   have hxs:=zko hm.1
   have hxi:=ixI2 hm.1
   have hxa:=zdy hm.1
   have hxo:=op2_at hm.1
   have kf:∀ (H3:Hp) (x:Ex),zcl lo H3 r L1 c→H.next≤H3.next→(∀ q,q < H.next→q≠r→H3.get q=H.get q)→∀ cs,cs.length=5→cs.all AV.one=true→ym (fun q=>H.next≤q) (k+2) H3 cs x.cells→zlN 5 (k+2) lo H r x.cells L1 c (.agg cs) H3:=fun H3 x q1 q2 q3 cs q4 q5 q6=>⟨⟨cs,rfl,q4,q5,q6⟩,q1,q2,q3⟩
   have gh0:=@bx2
   have gh1:=@bx1
   have gh2:=@zeB
   have gh3:=@bsI2
   repeat' (first
    | (apply Rx.nl ?_;clear hK K)|apply Rx.o ?_|apply Rx.on ?_|(apply Rx.call ?_;first|refine zaF (zlF hG.nms _ _) ?_|refine zaF (zeq hG.pick _ _ (by decide) _) ?_|refine zaF (zuL hG.word _ _ _) ?_)|apply Rx.gu ?_|(apply Rx.gd (fun hg hgp=>?_) (fun hg hgp=>?_)<;>try (cases hg;done))|(apply Rx.cd (fun hb hbp=>?_) (fun hb hbp=>?_)<;>try (cases hb;done))|apply Wp.seq ?_|(apply zd fun K hK=>?_)|(apply zf 10 [(0,9),(0,12),(4,9),(4,12),(10,12)] fun K hK=>?_)|(apply zf 14 [(0,9),(0,12),(4,9),(4,12),(10,12)] fun K hK=>?_)|(apply zw ?_;try intro _)|(apply zx ?_ ?_<;>clear hK K)|apply WpT.step ?_|apply zo rfl ?_|apply Wp.block ?_|apply zh ?_|apply Rx.rt ?_)
   ·refine⟨eI,_,(by(try simp only[sB,sO,Nat.reduceBEq,Nat.reduceAdd,Nat.reduceLeDiff,tyF,zQ,yb,zeB, *]);first|done|with_reducible rfl),?_⟩;try simp only[zp]
    first
    | rw[if_pos (by omega),if_pos (by omega)]at hR
    | rw[if_pos (by omega),if_neg (by omega)]at hR
    subst hR
    refine kf _ _ ?_ ?_ ?_ _ rfl rfl (zcA _ _ _ _)
    ·exact hr2.keep (Nat.le_refl _) fun q hq=>by rw[Hp.get_set,if_neg (by omega)]
    ·simp only[ze];omega
    ·intro q h1 h2;rw[Hp.get_set,if_neg (by omega)];exact o2' q h1 h2
   ·refine⟨eI,_,(by(try simp only[sB,sO,Nat.reduceBEq,Nat.reduceAdd,Nat.reduceLeDiff,tyF,zQ,yb,zeB, *]);first|done|with_reducible rfl),?_⟩;try simp only[zp]
    first
    | rw[if_pos (by omega),if_pos (by omega)]at hR
    | rw[if_pos (by omega),if_neg (by omega)]at hR
    subst hR
    refine kf _ _ ?_ ?_ ?_ _ rfl rfl (zcA _ _ _ _)
    ·exact hr2.keep (Nat.le_refl _) fun q hq=>by rw[Hp.get_set,if_neg (by omega)]
    ·simp only[ze];omega
    ·intro q h1 h2;rw[Hp.get_set,if_neg (by omega)];exact o2' q h1 h2
   ·refine⟨eI,_,(by(try simp only[sB,sO,Nat.reduceBEq,Nat.reduceAdd,Nat.reduceLeDiff,tyF,zQ,yb,zeB, *]);first|done|with_reducible rfl),?_⟩;try simp only[zp]
    first
    | rw[if_pos (by omega),if_pos (by omega)]at hR
    | rw[if_pos (by omega),if_neg (by omega)]at hR
    subst hR
    refine kf _ _ ?_ ?_ ?_ _ rfl rfl (zcA _ _ _ _)
    ·exact hr2.keep (Nat.le_refl _) fun q hq=>by rw[Hp.get_set,if_neg (by omega)]
    ·simp only[ze];omega
    ·intro q h1 h2;rw[Hp.get_set,if_neg (by omega)];exact o2' q h1 h2
   ·-- one operand
    have er:(H.next == r)=false:=zP (by omega)
    refine WpL.call rfl eVk eAk ?_;simp only[List.cons_append,List.nil_append,List.append_nil]
    refine zr.mono ?_ (js hG k f (deep+1) (by omega) (by omega) lo _ r L1 c (hr2.keep (Nat.le_succ _) fun q hq=>by rw[za,if_neg (by omega)]) (by omega))
    rintro v H4 ⟨⟨cs,rfl,hc1,hc2,hc3⟩,hr4,n4,o4⟩
    simp only[zb]at n4 o4 hc3
    have g4:H4.get H.next=some (.cells [.int .i64 0,.int .i64 0,.str [],.int .i64 0,.nilS] 0 true):=by rw[o4 _ (by omega) (by omega),za,if_neg (by omega)];exact g2
    have g4s:H4.get (H.next+1)=some (.cells [.str [97],.str [98]] 0 true):=by rw[o4 _ (by omega) (by omega),za,if_pos (by omega)]
    have kb:=fun H=>bsK1 H hc1 hc2
    have e4:(H.next == H4.next)=false:=zP (by omega)
    have e5:(H.next+1 == H4.next)=false:=zP (by omega)
    dsimp only[zA]
    have gh0:=@zeB
    have gh1:=@bx3
    repeat' (first
     | (apply Rx.nl ?_;clear hK K)|apply Rx.o ?_|apply Rx.on ?_|apply Rx.gu ?_|(apply Rx.gd (fun hg hgp=>?_) (fun hg hgp=>?_)<;>try (cases hg;done))|(apply Rx.cd (fun hb hbp=>?_) (fun hb hbp=>?_)<;>try (cases hb;done))|apply Wp.seq ?_|(apply zd fun K hK=>?_)|(apply zf 10 [(0,9),(0,12),(4,9),(4,12),(10,12)] fun K hK=>?_)|(apply zf 14 [(0,9),(0,12),(4,9),(4,12),(10,12)] fun K hK=>?_)|(apply zw ?_;try intro _)|(apply zx ?_ ?_<;>clear hK K)|apply WpT.step ?_|apply zo rfl ?_|apply Wp.block ?_|apply zh ?_|apply Rx.rt ?_)
    ·exact eK
    ·refine⟨eI,_,(by(try simp only[sB,sO,Nat.reduceBEq,Nat.reduceAdd,Nat.reduceLeDiff,tyF,zQ,yb,zeB, *]);first|done|with_reducible rfl),?_⟩;try simp only[zp]
     rw[if_neg (by omega),if_pos (by omega)]at hR
     subst hR
     refine⟨⟨_,rfl,rfl,rfl,?_⟩,?_,?_,?_⟩
     ·refine zfM (n:=k+1) _ _ _ _ (RdW.rows (n:=k+1) (a:=[cs]) (imm:=0) (tip:=true) (by show H.next≤H4.next;omega) (by simp only[ze,zb];omega) (by rw[Hp.get_set,if_neg (by omega),za,if_pos rfl];simp) (by simp) ⟨⟨hc1,hc3.keep (fun q hq=>by omega) (by simp only[ze,zb];omega) fun q h1 h2=>by rw[Hp.get_set,if_neg (by omega),za,if_neg (by omega)]⟩,trivial⟩)
     ·exact hr4.keep (by simp only[ze,zb];omega) fun q hq=>by rw[Hp.get_set,if_neg (by omega),za,if_neg (by omega)]
     ·simp only[ze,zb];omega
     ·intro q h1 h2
      rw[Hp.get_set,if_neg (by omega),za,if_neg (by omega),o4 _ (by omega) h2,za,if_neg (by omega)]
      exact o2' q h1 h2
   ·-- more operands
    have er:(H.next == r)=false:=zP (by omega)
    refine WpL.call rfl eVk eAk ?_;simp only[List.cons_append,List.nil_append,List.append_nil]
    refine zr.mono ?_ (js hG k f (deep+1) (by omega) (by omega) lo _ r L1 c hr2 (by omega))
    rintro v H4 ⟨⟨cs,rfl,hc1,hc2,hc3⟩,hr4,n4,o4⟩
    have hl4:=zJ f k (deep+1) L1
    dsimp only[zA]
    repeat' (first
     | (apply Rx.nl ?_;clear hK K)|apply Rx.o ?_|apply Rx.on ?_|apply Rx.gu ?_|(apply Rx.gd (fun hg hgp=>?_) (fun hg hgp=>?_)<;>try (cases hg;done))|(apply Rx.cd (fun hb hbp=>?_) (fun hb hbp=>?_)<;>try (cases hb;done))|apply Wp.seq ?_|(apply zd fun K hK=>?_)|(apply zf 10 [(0,9),(0,12),(4,9),(4,12),(10,12)] fun K hK=>?_)|(apply zf 14 [(0,9),(0,12),(4,9),(4,12),(10,12)] fun K hK=>?_)|(apply zw ?_;try intro _)|(apply zx ?_ ?_<;>clear hK K)|apply WpT.step ?_|apply zo rfl ?_|apply Wp.block ?_|apply zh ?_|apply Rx.rt ?_)
    refine WpL.call rfl eVk eAk ?_;simp only[List.cons_append,List.nil_append,List.append_nil]
    refine zr.mono ?_ (js hG k f (deep+1) (by omega) (by omega) lo H4 r (zD f k (deep+1) L1).2 c hr4 (by omega))
    rintro v H5 ⟨⟨ds,rfl,hd1,hd2,hd3⟩,hr5,n5,o5⟩
    have hl5:=zJ f k (deep+1) (zD f k (deep+1) L1).2
    dsimp only[zA]
    repeat' (first
     | (apply Rx.nl ?_;clear hK K)|apply Rx.o ?_|apply Rx.on ?_|apply Rx.gu ?_|(apply Rx.gd (fun hg hgp=>?_) (fun hg hgp=>?_)<;>try (cases hg;done))|(apply Rx.cd (fun hb hbp=>?_) (fun hb hbp=>?_)<;>try (cases hb;done))|apply Wp.seq ?_|(apply zd fun K hK=>?_)|(apply zf 10 [(0,9),(0,12),(4,9),(4,12),(10,12)] fun K hK=>?_)|(apply zf 14 [(0,9),(0,12),(4,9),(4,12),(10,12)] fun K hK=>?_)|(apply zw ?_;try intro _)|(apply zx ?_ ?_<;>clear hK K)|apply WpT.step ?_|apply zo rfl ?_|apply Wp.block ?_|apply zh ?_|apply Rx.rt ?_)
    refine WpL.call rfl eVk eAk ?_;simp only[List.cons_append,List.nil_append,List.append_nil]
    refine zr.mono ?_ (js hG k f (deep+1) (by omega) (by omega) lo H5 r (zD f k (deep+1) (zD f k (deep+1) L1).2).2 c hr5 (by omega))
    rintro v H6 ⟨⟨es,rfl,he1,he2,he3⟩,hr6,n6,o6⟩
    have hl6:=zJ f k (deep+1) (zD f k (deep+1) (zD f k (deep+1) L1).2).2
    dsimp only[zA]
    have gz:H6.get H.next=some (.cells [.int .i64 0,.int .i64 0,.str [],.int .i64 0,.nilS] 0 true):=by rw[o6 _ (by omega) (by omega),o5 _ (by omega) (by omega),o4 _ (by omega) (by omega)];exact g2
    have kb:=fun H=>bsK3 H hc1 hd1 he1
    have e4:(H.next == H6.next)=false:=zP (by omega)
    have gh0:=@zeB
    have gh1:=@bx5
    repeat' (first
     | (apply Rx.nl ?_;clear hK K)|apply Rx.o ?_|apply Rx.on ?_|apply Rx.gu ?_|(apply Rx.gd (fun hg hgp=>?_) (fun hg hgp=>?_)<;>try (cases hg;done))|(apply Rx.cd (fun hb hbp=>?_) (fun hb hbp=>?_)<;>try (cases hb;done))|apply Wp.seq ?_|(apply zd fun K hK=>?_)|(apply zf 10 [(0,9),(0,12),(4,9),(4,12),(10,12)] fun K hK=>?_)|(apply zf 14 [(0,9),(0,12),(4,9),(4,12),(10,12)] fun K hK=>?_)|(apply zw ?_;try intro _)|(apply zx ?_ ?_<;>clear hK K)|apply WpT.step ?_|apply zo rfl ?_|apply Wp.block ?_|apply zh ?_|apply Rx.rt ?_)
    refine⟨eI,_,(by(try simp only[sB,sO,Nat.reduceBEq,Nat.reduceAdd,Nat.reduceLeDiff,tyF,zQ,yb,zeB, *]);first|done|with_reducible rfl),?_⟩;try simp only[zp]
    rw[if_neg (by omega),if_neg (by omega),if_pos (by omega)]at hR
    subst hR
    refine⟨⟨_,rfl,rfl,rfl,?_⟩,?_,?_,?_⟩
    ·refine zfM (n:=k+1) _ _ _ _ (RdW.rows (n:=k+1) (a:=[cs,ds,es]) (imm:=0) (tip:=true) (by show H.next≤H6.next;omega) (by simp only[ze,zb];omega) (by rw[Hp.get_set,if_neg (by omega),za,if_pos rfl];simp) (by simp) ⟨⟨hc1,hc3.keep (fun q hq=>by omega) (by simp only[ze,zb];omega) fun q h1 h2=>by rw[Hp.get_set,if_neg (by omega),za,if_neg (by omega),o6 _ (by omega) (by omega),o5 _ (by omega) (by omega)]⟩,⟨hd1,hd3.keep (fun q hq=>by omega) (by simp only[ze,zb];omega) fun q h1 h2=>by rw[Hp.get_set,if_neg (by omega),za,if_neg (by omega),o6 _ (by omega) (by omega)]⟩,⟨he1,he3.keep (fun q hq=>by omega) (by simp only[ze,zb];omega) fun q h1 h2=>by rw[Hp.get_set,if_neg (by omega),za,if_neg (by omega)]⟩,trivial⟩)
    ·exact hr6.keep (by simp only[ze,zb];omega) fun q hq=>by rw[Hp.get_set,if_neg (by omega),za,if_neg (by omega)]
    ·simp only[ze,zb];omega
    ·intro q h1 h2
     rw[Hp.get_set,if_neg (by omega),za,if_neg (by omega),o6 _ (by omega) h2,o5 _ (by omega) h2,o4 _ (by omega) h2]
     exact o2' q h1 h2
   ·-- one operand
    have er:(H.next == r)=false:=zP (by omega)
    refine WpL.call rfl eVk eAk ?_;simp only[List.cons_append,List.nil_append,List.append_nil]
    refine zr.mono ?_ (js hG k f (deep+1) (by omega) (by omega) lo _ r L1 c (hr2.keep (Nat.le_succ _) fun q hq=>by rw[za,if_neg (by omega)]) (by omega))
    rintro v H4 ⟨⟨cs,rfl,hc1,hc2,hc3⟩,hr4,n4,o4⟩
    simp only[zb]at n4 o4 hc3
    have g4:H4.get H.next=some (.cells [.int .i64 0,.int .i64 0,.str [],.int .i64 0,.nilS] 0 true):=by rw[o4 _ (by omega) (by omega),za,if_neg (by omega)];exact g2
    have g4s:H4.get (H.next+1)=some (.cells [.int .i64 20,.int .i64 21] 0 true):=by rw[o4 _ (by omega) (by omega),za,if_pos (by omega)]
    have kb:=fun H=>bsK1 H hc1 hc2
    have e4:(H.next == H4.next)=false:=zP (by omega)
    have e5:(H.next+1 == H4.next)=false:=zP (by omega)
    dsimp only[zA]
    have gh0:=@bsI2
    have gh1:=@zeB
    have gh2:=@bx4
    repeat' (first
     | (apply Rx.nl ?_;clear hK K)|apply Rx.o ?_|apply Rx.on ?_|apply Rx.gu ?_|(apply Rx.gd (fun hg hgp=>?_) (fun hg hgp=>?_)<;>try (cases hg;done))|(apply Rx.cd (fun hb hbp=>?_) (fun hb hbp=>?_)<;>try (cases hb;done))|apply Wp.seq ?_|(apply zd fun K hK=>?_)|(apply zf 10 [(0,9),(0,12),(4,9),(4,12),(10,12)] fun K hK=>?_)|(apply zf 14 [(0,9),(0,12),(4,9),(4,12),(10,12)] fun K hK=>?_)|(apply zw ?_;try intro _)|(apply zx ?_ ?_<;>clear hK K)|apply WpT.step ?_|apply zo rfl ?_|apply Wp.block ?_|apply zh ?_|apply Rx.rt ?_)
    ·exact eK
    ·refine⟨eI,_,(by(try simp only[sB,sO,Nat.reduceBEq,Nat.reduceAdd,Nat.reduceLeDiff,tyF,zQ,yb,zeB, *]);first|done|with_reducible rfl),?_⟩;try simp only[zp]
     rw[if_neg (by omega),if_neg (by omega),if_neg (by omega),if_pos (by omega)]at hR
     subst hR
     refine⟨⟨_,rfl,rfl,rfl,?_⟩,?_,?_,?_⟩
     ·refine zfM (n:=k+1) _ _ _ _ (RdW.rows (n:=k+1) (a:=[cs]) (imm:=0) (tip:=true) (by show H.next≤H4.next;omega) (by simp only[ze,zb];omega) (by rw[Hp.get_set,if_neg (by omega),za,if_pos rfl];simp) (by simp) ⟨⟨hc1,hc3.keep (fun q hq=>by omega) (by simp only[ze,zb];omega) fun q h1 h2=>by rw[Hp.get_set,if_neg (by omega),za,if_neg (by omega)]⟩,trivial⟩)
     ·exact hr4.keep (by simp only[ze,zb];omega) fun q hq=>by rw[Hp.get_set,if_neg (by omega),za,if_neg (by omega)]
     ·simp only[ze,zb];omega
     ·intro q h1 h2
      rw[Hp.get_set,if_neg (by omega),za,if_neg (by omega),o4 _ (by omega) h2,za,if_neg (by omega)]
      exact o2' q h1 h2
   ·-- more operands
    have er:(H.next == r)=false:=zP (by omega)
    refine WpL.call rfl eVk eAk ?_;simp only[List.cons_append,List.nil_append,List.append_nil]
    refine zr.mono ?_ (js hG k f (deep+1) (by omega) (by omega) lo _ r L1 c hr2 (by omega))
    rintro v H4 ⟨⟨cs,rfl,hc1,hc2,hc3⟩,hr4,n4,o4⟩
    have hl4:=zJ f k (deep+1) L1
    dsimp only[zA]
    repeat' (first
     | (apply Rx.nl ?_;clear hK K)|apply Rx.o ?_|apply Rx.on ?_|apply Rx.gu ?_|(apply Rx.gd (fun hg hgp=>?_) (fun hg hgp=>?_)<;>try (cases hg;done))|(apply Rx.cd (fun hb hbp=>?_) (fun hb hbp=>?_)<;>try (cases hb;done))|apply Wp.seq ?_|(apply zd fun K hK=>?_)|(apply zf 10 [(0,9),(0,12),(4,9),(4,12),(10,12)] fun K hK=>?_)|(apply zf 14 [(0,9),(0,12),(4,9),(4,12),(10,12)] fun K hK=>?_)|(apply zw ?_;try intro _)|(apply zx ?_ ?_<;>clear hK K)|apply WpT.step ?_|apply zo rfl ?_|apply Wp.block ?_|apply zh ?_|apply Rx.rt ?_)
    refine WpL.call rfl eVk eAk ?_;simp only[List.cons_append,List.nil_append,List.append_nil]
    refine zr.mono ?_ (js hG k f (deep+1) (by omega) (by omega) lo H4 r (zD f k (deep+1) L1).2 c hr4 (by omega))
    rintro v H5 ⟨⟨ds,rfl,hd1,hd2,hd3⟩,hr5,n5,o5⟩
    have hl5:=zJ f k (deep+1) (zD f k (deep+1) L1).2
    dsimp only[zA]
    have gz:H5.get H.next=some (.cells [.int .i64 0,.int .i64 0,.str [],.int .i64 0,.nilS] 0 true):=by rw[o5 _ (by omega) (by omega),o4 _ (by omega) (by omega)];exact g2
    have kb:=fun H=>bsK2 H hc1 hd1
    have e4:(H.next == H5.next)=false:=zP (by omega)
    have gh0:=@zeB
    have gh1:=@bx4
    repeat' (first
     | (apply Rx.nl ?_;clear hK K)|apply Rx.o ?_|apply Rx.on ?_|apply Rx.gu ?_|(apply Rx.gd (fun hg hgp=>?_) (fun hg hgp=>?_)<;>try (cases hg;done))|(apply Rx.cd (fun hb hbp=>?_) (fun hb hbp=>?_)<;>try (cases hb;done))|apply Wp.seq ?_|(apply zd fun K hK=>?_)|(apply zf 10 [(0,9),(0,12),(4,9),(4,12),(10,12)] fun K hK=>?_)|(apply zf 14 [(0,9),(0,12),(4,9),(4,12),(10,12)] fun K hK=>?_)|(apply zw ?_;try intro _)|(apply zx ?_ ?_<;>clear hK K)|apply WpT.step ?_|apply zo rfl ?_|apply Wp.block ?_|apply zh ?_|apply Rx.rt ?_)
    refine⟨eI,_,(by(try simp only[sB,sO,Nat.reduceBEq,Nat.reduceAdd,Nat.reduceLeDiff,tyF,zQ,yb,zeB, *]);first|done|with_reducible rfl),?_⟩;try simp only[zp]
    rw[if_neg (by omega),if_neg (by omega),if_neg (by omega),if_neg (by omega)]at hR
    subst hR
    refine⟨⟨_,rfl,rfl,rfl,?_⟩,?_,?_,?_⟩
    ·refine zfM (n:=k+1) _ _ _ _ (RdW.rows (n:=k+1) (a:=[cs,ds]) (imm:=0) (tip:=true) (by show H.next≤H5.next;omega) (by simp only[ze,zb];omega) (by rw[Hp.get_set,if_neg (by omega),za,if_pos rfl];simp) (by simp) ⟨⟨hc1,hc3.keep (fun q hq=>by omega) (by simp only[ze,zb];omega) fun q h1 h2=>by rw[Hp.get_set,if_neg (by omega),za,if_neg (by omega),o5 _ (by omega) (by omega)]⟩,⟨hd1,hd3.keep (fun q hq=>by omega) (by simp only[ze,zb];omega) fun q h1 h2=>by rw[Hp.get_set,if_neg (by omega),za,if_neg (by omega)]⟩,trivial⟩)
    ·exact hr5.keep (by simp only[ze,zb];omega) fun q hq=>by rw[Hp.get_set,if_neg (by omega),za,if_neg (by omega)]
    ·simp only[ze,zb];omega
    ·intro q h1 h2
     rw[Hp.get_set,if_neg (by omega),za,if_neg (by omega),o5 _ (by omega) h2,o4 _ (by omega) h2]
     exact o2' q h1 h2
   ·refine⟨eI,_,(by(try simp only[sB,sO,Nat.reduceBEq,Nat.reduceAdd,Nat.reduceLeDiff,tyF,zQ,yb,zeB, *]);first|done|with_reducible rfl),?_⟩;try simp only[zp]
    first
    | rw[if_pos (by omega),if_pos (by omega)]at hR
    | rw[if_pos (by omega),if_neg (by omega)]at hR
    subst hR
    refine kf _ _ ?_ ?_ ?_ _ rfl rfl (zcA _ _ _ _)
    ·exact hr2.keep (Nat.le_refl _) fun q hq=>by rw[Hp.get_set,if_neg (by omega)]
    ·simp only[ze];omega
    ·intro q h1 h2;rw[Hp.get_set,if_neg (by omega)];exact o2' q h1 h2
   ·refine⟨eI,_,(by(try simp only[sB,sO,Nat.reduceBEq,Nat.reduceAdd,Nat.reduceLeDiff,tyF,zQ,yb,zeB, *]);first|done|with_reducible rfl),?_⟩;try simp only[zp]
    first
    | rw[if_pos (by omega),if_pos (by omega)]at hR
    | rw[if_pos (by omega),if_neg (by omega)]at hR
    subst hR
    refine kf _ _ ?_ ?_ ?_ _ rfl rfl (zcA _ _ _ _)
    ·exact hr2.keep (Nat.le_refl _) fun q hq=>by rw[Hp.get_set,if_neg (by omega)]
    ·simp only[ze];omega
    ·intro q h1 h2;rw[Hp.get_set,if_neg (by omega)];exact o2' q h1 h2
   ·refine⟨eI,_,(by(try simp only[sB,sO,Nat.reduceBEq,Nat.reduceAdd,Nat.reduceLeDiff,tyF,zQ,yb,zeB, *]);first|done|with_reducible rfl),?_⟩;try simp only[zp]
    first
    | rw[if_pos (by omega),if_pos (by omega)]at hR
    | rw[if_pos (by omega),if_neg (by omega)]at hR
    subst hR
    refine kf _ _ ?_ ?_ ?_ _ rfl rfl (zcA _ _ _ _)
    ·exact hr2.keep (Nat.le_refl _) fun q hq=>by rw[Hp.get_set,if_neg (by omega)]
    ·simp only[ze];omega
    ·intro q h1 h2;rw[Hp.get_set,if_neg (by omega)];exact o2' q h1 h2
   ·refine⟨eI,_,(by(try simp only[sB,sO,Nat.reduceBEq,Nat.reduceAdd,Nat.reduceLeDiff,tyF,zQ,yb,zeB, *]);first|done|with_reducible rfl),?_⟩;try simp only[zp]
    first
    | rw[if_pos (by omega),if_pos (by omega)]at hR
    | rw[if_pos (by omega),if_neg (by omega)]at hR
    subst hR
    refine kf _ _ ?_ ?_ ?_ _ rfl rfl (zcA _ _ _ _)
    ·exact hr2.keep (Nat.le_refl _) fun q hq=>by rw[Hp.get_set,if_neg (by omega)]
    ·simp only[ze];omega
    ·intro q h1 h2;rw[Hp.get_set,if_neg (by omega)];exact o2' q h1 h2
end Go.Proofs.Ytpbcimfiofmoeaa
namespace Go.Proofs.Ytpbcimfiofmoeaa
set_option maxRecDepth 20000
set_option maxRecDepth 20000
open Go Go.Ab
namespace tyG4
def tyF:=And.intro @tq3 (And.intro @zcV (And.intro @za9 (And.intro @zbw (And.intro @tq77 (And.intro @tq9 (And.intro @zcc (And.intro @zba (@zau))))))))
end tyG4
open tyG4
noncomputable def code28:{ c:SC // slim 36 (Try.f28.body.getD .skip)=c }:=by
 refine⟨?_,?_⟩
 rotate_left
 ·simp only[Try.f28,Option.getD_some,slim,zZ,zS,z6,z7,Nat.blt,Nat.ble]
  rfl
noncomputable def zd8:{ c:SC // slim 156 (Try.f55.body.getD .skip)=c }:=by
 refine⟨?_,?_⟩
 rotate_left
 ·simp only[Try.f55,Option.getD_some,slim,zZ,zS,z6,z7,Nat.blt,Nat.ble]
  rfl
abbrev Sd:=List Int×Int
def zaY (step:Sd→St×Sd):Nat→Sd→List St×Sd
 | 0,s=>([],s)
 | n+1,s=>if s.1=[]then ([],s)else ((step s).1::(zaY step n (step s).2).1,(zaY step n (step s).2).2)
def jI (f:Int):Nat→List Int→List Ex×List Int
 | 0,L=>([],L)
 | n+1,L=>((zD f 3 2 L).1::(jI f n (zD f 3 2 L).2).1,(jI f n (zD f 3 2 L).2).2)
def zE:Ex:=.mk 0 0 [] 0 []
def fgG (m:Int):List UInt8:=if m.tmod 2=0 then [102]else [103]
def jF (sub:Int→Sd→List St×Sd) (f:Int) (L1:List Int) (c q m:Int):St×Sd:=
 if q < 6 then (.mk 1 ((yB f).getD (m.tmod (yB f).length).toNat []) [] 0 zE (zD f 5 0 L1).1 [] [] [],((zD f 5 0 L1).2,c))
 else if q < 8 then (.mk 2 (zkn m) [] 0 (zD f 3 2 L1).1 (zD f 4 1 (zD f 3 2 L1).2).1 [] [] [],((zD f 4 1 (zD f 3 2 L1).2).2,c))
 else if q < 10 then (.mk 3 [] [] 0 zE (zD f 4 1 L1).1 [] (sub 3 ((zD f 4 1 L1).2,c)).1 (sub 2 (sub 3 ((zD f 4 1 L1).2,c)).2).1,(sub 2 (sub 3 ((zD f 4 1 L1).2,c)).2).2)
 else if q < 12 then (.mk 4 [] [] 0 zE (zD f 4 1 L1).1 [] (sub 3 ((zD f 4 1 L1).2,w64 (c+1))).1 [],(sub 3 ((zD f 4 1 L1).2,w64 (c+1))).2)
 else if q < 14 then (.mk 5 [] [] 0 zE (zD f 4 1 L1).1 [] [] [],((zD f 4 1 L1).2,c))
 else if q < 15 then (.mk 6 ((yB f).getD (m.tmod (yB f).length).toNat []) (fgG m) 0 zE zE (jI f (2 - m.tmod 2).toNat L1).1 [] [],((jI f (2 - m.tmod 2).toNat L1).2,c))
 else (.mk 7 [] [] m zE zE [] [] [],(L1,c))
def ziK (deep:Nat) (c q0:Int):Int:=if ((2:Int) < deep∧8≤q0∧q0 < 12)∨(10≤c∧10≤q0)then 0 else q0
def zgY (sub:Int→Sd→List St×Sd) (f:Int) (deep:Nat) (s:Sd):St×Sd:=
 jF sub f (zF s.1).2 s.2 (ziK deep s.2 (yn (zF s.1).1 16)) (yn (w64 ((zF s.1).1.tdiv 16)) 1000)
def jx (f:Int):Nat→Nat→Sd→St×Sd
 | 0,_,s=>(.mk 0 [] [] 0 zE zE [] [] [],s)
 | k+1,deep,s=>zgY (fun most s=>zaY (jx f k (deep+1)) (yn (zF s.1).1 (most+1)).toNat ((zF s.1).2,s.2)) f deep s
def zad (f:Int) (k deep:Nat) (most:Int) (s:Sd):List St×Sd:=zaY (jx f k deep) (yn (zF s.1).1 (most+1)).toNat ((zF s.1).2,s.2)
theorem zd9 {step:Sd→St×Sd} (h:∀ s,(step s).2.1.length≤s.1.length):∀ (n:Nat) (s:Sd),(zaY step n s).2.1.length≤s.1.length
 | 0,_=>Nat.le_refl _
 | n+1,s=>by
   rw[zaY]
   split
   ·exact Nat.le_refl _
   ·exact Nat.le_trans (zd9 h n _) (h s)
theorem zgt (f:Int):∀ (n:Nat) (L:List Int),(jI f n L).2.length≤L.length
 | 0,_=>Nat.le_refl _
 | n+1,L=>Nat.le_trans (zgt f n _) (zJ f 3 2 L)
theorem zpt {sub:Int→Sd→List St×Sd} (h2:∀ (most:Int) (s:Sd),(sub most s).2.1.length≤s.1.length) (f:Int) (deep:Nat) (s:Sd):(zgY sub f deep s).2.1.length≤s.1.length:=by
 have h:=yM s.1
 have e41:=zJ f 4 1 (zF s.1).2
 have e50:=zJ f 5 0 (zF s.1).2
 have e32:=zJ f 3 2 (zF s.1).2
 have e43:=zJ f 4 1 (zD f 3 2 (zF s.1).2).2
 rw[zgY,jF]
 generalize ziK deep s.2 (yn (zF s.1).1 16)=q
 by_cases c1:q < 6
 ·rw[if_pos c1];exact Nat.le_trans e50 h
 rw[if_neg c1]
 by_cases c2:q < 8
 ·rw[if_pos c2];exact Nat.le_trans e43 (Nat.le_trans e32 h)
 rw[if_neg c2]
 by_cases c3:q < 10
 ·rw[if_pos c3];exact Nat.le_trans (h2 _ _) (Nat.le_trans (h2 _ _) (Nat.le_trans e41 h))
 rw[if_neg c3]
 by_cases c4:q < 12
 ·rw[if_pos c4];exact Nat.le_trans (h2 _ _) (Nat.le_trans e41 h)
 rw[if_neg c4]
 by_cases c5:q < 14
 ·rw[if_pos c5];exact Nat.le_trans e41 h
 rw[if_neg c5]
 by_cases c6:q < 15
 ·rw[if_pos c6];exact Nat.le_trans (zgt f _ _) h
 rw[if_neg c6];exact h
theorem zc3 (f:Int):∀ (k deep:Nat) (s:Sd),(jx f k deep s).2.1.length≤s.1.length
 | 0,_,_=>Nat.le_refl _
 | k+1,deep,s=>zpt (fun most s=>Nat.le_trans (zd9 (zc3 f k (deep+1)) _ _) (yM s.1)) f deep s
def stC (k:Int) (nm to:List UInt8) (n:Int) (a v:List AV) (args thn els:AV):List AV:=[.int .i64 k,.str nm,.str to,.int .i64 n]++a++v++[args,thn,els]
theorem zdz {S:Nat→Prop}{n:Nat}{H:Hp} (k:Int) (nm to:List UInt8) (nn:Int) {a v:List AV}{ax vx:Ex}{args thn els:AV}{al:List Ex}{ts es:List St} (ha:ym S (n+1) H a ax.cells) (hv:ym S (n+1) H v vx.cells) (h1:RdW S (n+1) H args (.lst (al.map Ex.cells))) (h2:RdW S (n+1) H thn (.lst (ts.map St.cells))) (h3:RdW S (n+1) H els (.lst (es.map St.cells))) :
 ym S (n+1) H (stC k nm to nn a v args thn els) (St.mk k nm to nn ax vx al ts es).cells:=by
 have e:(St.mk k nm to nn ax vx al ts es).cells=[.int .i64 k,.str nm,.str to,.int .i64 nn]++ax.cells++vx.cells++[.lst (al.map Ex.cells),.lst (ts.map St.cells),.lst (es.map St.cells)]:=by
  rw[St.cells_eq,Ex.cells_eq,Ex.cells_eq];rfl
 rw[e]
 exact(((ym.cons (.int _ _) (.cons (.str _) (.cons (.str _) (.cons (.int _ _) .nil)))).append ha).append hv).append (.cons h1 (.cons h2 (.cons h3 .nil)))
def zC:List AV:=[.int .i64 0,.int .i64 0,.str [],.int .i64 0,.nilS]
theorem zlO {S:Nat→Prop}{n:Nat}{H:Hp}:ym S (n+1) H zC zE.cells:=zcA 0 0 0 []
theorem bS1 (nm:List UInt8) {v:List AV} (h:v.length=5):yj Try.prog 55 [(0,.int .i64 1),(1,.str nm),(5,.agg v)]=some (.agg (stC 1 nm [] 0 zC v .nilS .nilS .nilS)):=by
 obtain⟨a,b,c,d,e,rfl⟩:=zcJ h;kernel_rfl
theorem bS2 (nm:List UInt8) {a v:List AV} (h:a.length=5) (k:v.length=5):yj Try.prog 55 [(0,.int .i64 2),(1,.str nm),(4,.agg a),(5,.agg v)]=some (.agg (stC 2 nm [] 0 a v .nilS .nilS .nilS)):=by
 obtain⟨a,b,c,d,e,rfl⟩:=zcJ h;obtain⟨a',b',c',d',e',rfl⟩:=zcJ k;kernel_rfl
theorem bS3 (k:Int) {v:List AV} (h:v.length=5):yj Try.prog 55 [(0,.int .i64 k),(5,.agg v)]=some (.agg (stC k [] [] 0 zC v .nilS .nilS .nilS)):=by
 obtain⟨a,b,c,d,e,rfl⟩:=zcJ h;kernel_rfl
theorem bS6 (nm to:List UInt8):yj Try.prog 55 [(0,.int .i64 6),(1,.str nm),(2,.str to)]=some (.agg (stC 6 nm to 0 zC zC .nilS .nilS .nilS)):=by kernel_rfl
theorem bS7 (n:Int):yj Try.prog 55 [(0,.int .i64 7),(3,.int .i64 n)]=some (.agg (stC 7 [] [] n zC zC .nilS .nilS .nilS)):=by kernel_rfl
theorem len17 {cs:List AV} (h:cs.length=17):∃ c0 c1 c2 c3 c4 c5 c6 c7 c8 c9 d0 d1 d2 d3 d4 d5 d6,cs=[c0,c1,c2,c3,c4,c5,c6,c7,c8,c9,d0,d1,d2,d3,d4,d5,d6]:=by
 match cs,h with
 | [c0,c1,c2,c3,c4,c5,c6,c7,c8,c9,d0,d1,d2,d3,d4,d5,d6],_=>exact⟨c0,c1,c2,c3,c4,c5,c6,c7,c8,c9,d0,d1,d2,d3,d4,d5,d6,rfl⟩
theorem bsT1 (H:Hp) {cs:List AV} (h:cs.length=17):zI Try.prog H 48 1 [(0,.agg cs)]=some (.sl H.next 0 1 17,H.alloc (.cells cs 0 true)):=by
 obtain⟨c0,c1,c2,c3,c4,c5,c6,c7,c8,c9,d0,d1,d2,d3,d4,d5,d6,rfl⟩:=len17 h
 kernel_rfl
def MadeL (z n lo:Nat) (H:Hp) (r:Nat) (ws:List (List AV)) (L:List Int) (c:Int) (v:AV) (H':Hp):Prop:=
 yh (fun q=>H.next≤q) n H' z v ws∧zcl lo H' r L c∧H.next≤H'.next∧∀ q,q < H.next→q≠r→H'.get q=H.get q
theorem zcl.len {lo:Nat}{H:Hp}{r:Nat}{L:List Int}{c:Int} (h:zcl lo H r L c):∃ v,H.get r=some (.cells [v,.int .i64 c] 0 true)∧∀ H',ye Try.prog H' 23 v=some (.int .i64 L.length):=by
 obtain⟨_,_,v,h1,h2⟩:=h
 refine⟨v,h1,fun H'=>?_⟩
 rcases h2 with ⟨rfl,rfl⟩|⟨b,off,cs,imm,rfl,_⟩
 ·exact jk Try.underlying23 _
 ·exact jq Try.underlying23 _ _ _ _
def zag (lG:List En) (k:Nat) (f:Int) (deep:Nat):Prop:=∀ (lo:Nat) (H:Hp) (r:Nat) (s:Sd),zcl lo H r s.1 s.2→s.1.length < 2 ^ 60 →
 zr Try.prog (zK pls lG) 55 [.ptr r 0,.int .i64 f,.int .i64 deep] H (zlN 17 (8+k) lo H r (jx f k deep s).1.cells (jx f k deep s).2.1 (jx f k deep s).2.2)
set_option maxRecDepth 100000 in
theorem zea {lG:List En} (hG:GenL lG) {k:Nat}{f:Int}{deep:Nat} (hst:zag lG k f deep) (most:Int) (h0:0≤most) (h1:most≤5) (lo:Nat) (H:Hp) (r:Nat) (s:Sd) (hrd:zcl lo H r s.1 s.2) (hL:s.1.length < 2 ^ 60) :
 zr Try.prog (zK pls lG) 28 [.ptr r 0,.int .i64 f,.int .i64 deep,.int .i64 most] H (MadeL 17 (8+k) lo H r ((zad f k deep most s).1.map St.cells) (zad f k deep most s).2.1 (zad f k deep most s).2.2):=by
 have hw:Plain (zK pls lG) 28:=hG.plain (by rfl)
 have hkeep:(zK pls lG).keep 28=false:=rfl
 have hnx:Plain (zK pls lG) 27:=hG.plain (by rfl)
 have hrl:=hrd.1
 have hlo:=hrd.2.1
 have hw1:IntKind.wrap .i64 (most+1)=most+1:=zaV (by omega) (by omega)
 rw[zad]
 refine zj (M:=36) (rs:=[.tmp 8]) (hw.call _) hw.ice hw.froz Try.func28 rfl rfl code28.2 rfl ?_;dsimp only[code28,zO,Nat.reduceAdd]
 repeat' (first
  | (apply Rx.nl ?_;clear hK K)|apply Rx.o ?_|(apply Rx.gd (fun hg hgp=>?_) (fun hg hgp=>?_)<;>try (cases hg;done))|(apply Rx.cd (fun hb hbp=>?_) (fun hb hbp=>?_)<;>try (cases hb;done))|apply Wp.seq ?_|(apply zd fun K hK=>?_)|apply Wp.block ?_|apply zh ?_|apply Rx.rt ?_|apply zk ?_)
 refine WpL.call rfl eVk eAk ?_;simp only[List.cons_append,List.nil_append,List.append_nil]
 refine zr.mono ?_ (zhr hnx hrd hL)
 rintro v H2 ⟨rfl,hr2,n2,o2⟩
 have hL1:=yM s.1
 generalize (zF s.1).1=n at *
 generalize (zF s.1).2=L1 at *
 have hm1:most+1≠0:=by omega
 have hp:=yy (n:=n) (m:=most+1) (by omega) (by omega)
 generalize hc:(yn n (most+1)).toNat=cnt at *
 have hpc:yn n (most+1)=(cnt:Int):=by omega
 dsimp only[zA]
 repeat' (first
  | (apply Rx.nl ?_;clear hK K)|apply Rx.o ?_|(apply Rx.call ?_;first|refine zaF (zeq hG.pick _ _ hm1 _) ?_)|(apply Rx.gd (fun hg hgp=>?_) (fun hg hgp=>?_)<;>try (cases hg;done))|(apply Rx.cd (fun hb hbp=>?_) (fun hb hbp=>?_)<;>try (cases hb;done))|apply Wp.seq ?_|(apply zd fun K hK=>?_)|apply Wp.block ?_|apply zh ?_|apply Rx.rt ?_|apply zk ?_)
 refine zur [0,1,2,8] [] (fun i E H3=>i≤cnt∧E.at 10=.int .i64 i∧∃ v l sd,E.at 9=v∧yh (fun q=>H.next≤q) (8+k) H3 17 v (l.map St.cells)∧zcl lo H3 r sd.1 sd.2∧(∀ q,q < H.next→q≠r→H3.get q=H.get q)∧l.length+i=cnt∧sd.1.length < 2 ^ 60 ∧
  zaY (jx f k deep) cnt (L1,s.2)=(l++(zaY (jx f k deep) i sd).1,(zaY (jx f k deep) i sd).2)) cnt ⟨Nat.le_refl _,(by first|(simp only[sB,Nat.reduceBEq,hpc, *];done)|rfl),.nilS,[],(L1,s.2),eE,.inl ⟨rfl,rfl⟩,hr2,fun q h1 h2=>o2 q h2,by simp,by simp only[];omega,by simp⟩ ?_
 rintro i E H3 hcE hrH hnH ⟨hic,hsI,v,l,sd,k9,hrow,hr3,o3,hli,hsl,hJ⟩
 (try simp only[zi,zl,and_true,sB,sO,Nat.reduceBEq,Nat.reduceAdd,Nat.reduceLeDiff,tyF, *]at hcE)
 obtain⟨lv,hgr,hlen⟩:=hr3.len
 have hle:H.next≤H3.next:=by omega
 repeat' (first
  | (apply Rx.nl ?_;clear hK K)|apply Rx.o ?_|(apply Rx.gd (fun hg hgp=>?_) (fun hg hgp=>?_)<;>try (cases hg;done))|(apply Rx.cd (fun hb hbp=>?_) (fun hb hbp=>?_)<;>try (cases hb;done))|apply Wp.seq ?_|(apply zd fun K hK=>?_)|apply Wp.block ?_|apply zh ?_|apply Rx.rt ?_|apply zk ?_)
 ·refine WpL.call rfl eVk eAk ?_;simp only[List.cons_append,List.nil_append,List.append_nil]
  refine zr.mono ?_ (hst lo H3 r sd hr3 hsl)
  rintro v' H4 ⟨⟨cs,rfl,hc1,hc2,hc3⟩,hr4,n4,o4⟩
  have kb:=fun H=>bsT1 H hc1
  dsimp only[zA]
  repeat' (first
   | (apply Rx.nl ?_;clear hK K)|apply Rx.o ?_|(apply Rx.gd (fun hg hgp=>?_) (fun hg hgp=>?_)<;>try (cases hg;done))|(apply Rx.cd (fun hb hbp=>?_) (fun hb hbp=>?_)<;>try (cases hb;done))|apply Wp.seq ?_|(apply zd fun K hK=>?_)|apply Wp.block ?_|apply zh ?_|apply Rx.rt ?_|apply zk ?_)
  have hvq:∀ q o m z',v=.sl q o m z'→H.next≤q∧q < H3.next:=fun q o m z' e=>by
   rcases hrow with ⟨rfl,_⟩|⟨q',imm,rows,rfl,e1,e2,_⟩
   ·cases e
   ·simp only[AV.sl.injEq]at e
    rw[← e.1];exact⟨e1,e2⟩
  have hrow4:yh (fun q=>H.next≤q) (8+k) (H4.alloc (.cells cs 0 true)) 17 v (l.map St.cells):=hrow.keep (fun q _ h=>h) (by simp only[zb];omega) fun q h1 h2=>by rw[za,if_neg (by omega),o4 q h2 (by omega)]
  obtain⟨v5,H5,a5,s5,n5,f5,q5⟩:=yh.push (P:=Try.prog) (t:=48) Try.underlying48 sz55 bt55 zr55 rfl (by kernel_rfl) hrow4 (by simp only[zb];omega) (r:=H4.next) (imm:=0) (row:=cs) (w:=(jx f k deep sd).1.cells) (by rw[za,if_pos rfl]) hc1 hc2 (hc3.keep2 (fun q h1 h2=>⟨by omega,fun o m z' e=>by have:=(hvq q o m z' e).2;omega⟩) (Nat.le_succ _) fun q h1 h2=>by rw[za,if_neg (by omega)]) (by simp only[List.length_map,zW];omega) (by simp only[List.length_map,zW];omega)
  refine WpL.append eV eV (by rw[hkeep];exact a5) ?_
  have hi0:0 < i:=by omega
  obtain⟨i,rfl⟩:∃ j,i=j+1:=⟨i - 1,by omega⟩
  have hwd:IntKind.wrap .i64 (((i+1:Nat):Int) - 1)=(i:Int):=by rw[zaV (by omega) (by omega)];omega
  simp only[zb]at n5 f5
  have n5':H3.next≤H5.next:=by omega
  have o5:∀ q,q < H.next→q≠r→H5.get q=H.get q:=fun q h1 h2=>by rw[f5 q (by omega) (fun o m z' e=>by have:=(hvq q o m z' e).1;omega),za,if_neg (by omega),o4 q (by omega) h2,o3 q h1 h2]
  have hr5:zcl lo H5 r (jx f k deep sd).2.1 (jx f k deep sd).2.2:=hr4.keep (by omega) fun q hq=>by rw[f5 q (by omega) (fun o m z' e=>by have:=(hvq q o m z' e).1;omega),za,if_neg (by omega)]
  clear n5 f5 a5 hrow4 o4 hr4
  repeat' (first
   | (apply Rx.nl ?_;clear hK K)|apply Rx.o ?_|(apply Rx.gd (fun hg hgp=>?_) (fun hg hgp=>?_)<;>try (cases hg;done))|(apply Rx.cd (fun hb hbp=>?_) (fun hb hbp=>?_)<;>try (cases hb;done))|apply Wp.seq ?_|(apply zd fun K hK=>?_)|apply Wp.block ?_|apply zh ?_|apply Rx.rt ?_|apply zk ?_)
  have hne:sd.1≠[]:=by
   intro e
   have:sd.1.length=0:=by rw[e];rfl
   omega
  have hsd:=zc3 f k deep sd
  refine⟨(by simp only[zi,zl,and_true,sB,sO,Nat.reduceBEq,Nat.reduceAdd,Nat.reduceLeDiff,tyF, *]),(by simp only[zl]),by omega,i,Nat.lt_succ_self _,by omega,eE,v5,l++[(jx f k deep sd).1],(jx f k deep sd).2,eE,by rw[List.map_append];exact s5,hr5,o5,by simp;omega,by omega,?_⟩
  rw[hJ,zaY,if_neg hne]
  simp
 all_goals
  all_goals (refine⟨eI,_,eR,?_⟩;try simp only[zp])
  have hfin:zaY (jx f k deep) i sd=([],sd):=by
   rcases (by omega:i=0∨sd.1.length=0)with h|h
   ·rw[h];rfl
   ·cases i with
    | zero=>rfl
    | succ i=>rw[zaY,if_pos (List.eq_nil_of_length_eq_zero h)]
  rw[hJ,hfin]
  exact⟨by rw[List.append_nil];exact hrow,hr3,hle,o3⟩
end Go.Proofs.Ytpbcimfiofmoeaa
namespace Go.Proofs.Ytpbcimfiofmoeaa
set_option maxRecDepth 20000
open Go Go.Ab
theorem zStmt:yl Try.prog 55=some (stC 0 [] [] 0 zC zC .nilS .nilS .nilS):=by kernel_rfl
theorem zgZ {m:Int} (h:0≤m):[AV.str [102],AV.str [103]][(m.tmod 2).toNat]?=some (.str (fgG m)):=by
 rw[znf h,fgG];split<;>rfl
theorem zvn {P:Program}{cfg:Cfg}{f N:Nat}{a:SC}{E:Env}{H:Hp}{Q:AX→Env→Hp→Prop} (F:Env→Hp→Prop) (h1:Wp P cfg f N a E H fun x E' H'=>x=.normal∧F E' H') (h2:∀ E' H',F E' H'→Q .normal E' H'):Wp P cfg f N a E H Q:=
 Wp.mono (fun x E' H' h=>by obtain⟨rfl,h⟩:=h;exact h2 E' H' h) h1
theorem zcl.tick {lo:Nat}{H:Hp}{r:Nat}{L:List Int}{c:Int} (h:zcl lo H r L c):∃ v,H.get r=some (.cells [v,.int .i64 c] 0 true)∧∀ c',zcl lo (H.set r (.cells [v,.int .i64 c'] 0 true)) r L c':=by
 obtain⟨h0,h00,v,h1,h2⟩:=h
 refine⟨v,h1,fun c'=>⟨h0,h00,v,by rw[Hp.get_set,if_pos rfl],?_⟩⟩
 rcases h2 with h2|⟨b,off,cs,imm,e1,e2,e3,e4,e5⟩
 ·exact .inl h2
 ·exact .inr ⟨b,off,cs,imm,e1,by rw[Hp.get_set,if_neg e4];exact e2,e3,e4,e5⟩
theorem kb1 (nm:List UInt8) (v0 v1 v2 v3 v4:AV):yj Try.prog 55 [(0,.int .i64 1),(1,.str nm),(5,.agg [v0,v1,v2,v3,v4])]=some (.agg [.int .i64 1,.str nm,.str [],.int .i64 0,.int .i64 0,.int .i64 0,.str [],.int .i64 0,.nilS,v0,v1,v2,v3,v4,.nilS,.nilS,.nilS]):=bS1 nm rfl
theorem kb2 (nm:List UInt8) (a0 a1 a2 a3 a4 v0 v1 v2 v3 v4:AV):yj Try.prog 55 [(0,.int .i64 2),(1,.str nm),(4,.agg [a0,a1,a2,a3,a4]),(5,.agg [v0,v1,v2,v3,v4])]=some (.agg [.int .i64 2,.str nm,.str [],.int .i64 0,a0,a1,a2,a3,a4,v0,v1,v2,v3,v4,.nilS,.nilS,.nilS]):=bS2 nm rfl rfl
theorem kb3 (k:Int) (v0 v1 v2 v3 v4:AV):yj Try.prog 55 [(0,.int .i64 k),(5,.agg [v0,v1,v2,v3,v4])]=some (.agg [.int .i64 k,.str [],.str [],.int .i64 0,.int .i64 0,.int .i64 0,.str [],.int .i64 0,.nilS,v0,v1,v2,v3,v4,.nilS,.nilS,.nilS]):=bS3 k rfl
theorem kb6 (nm to:List UInt8):yj Try.prog 55 [(0,.int .i64 6),(1,.str nm),(2,.str to)]=some (.agg [.int .i64 6,.str nm,.str to,.int .i64 0,.int .i64 0,.int .i64 0,.str [],.int .i64 0,.nilS,.int .i64 0,.int .i64 0,.str [],.int .i64 0,.nilS,.nilS,.nilS,.nilS]):=bS6 nm to
theorem kb7 (n:Int):yj Try.prog 55 [(0,.int .i64 7),(3,.int .i64 n)]=some (.agg [.int .i64 7,.str [],.str [],.int .i64 n,.int .i64 0,.int .i64 0,.str [],.int .i64 0,.nilS,.int .i64 0,.int .i64 0,.str [],.int .i64 0,.nilS,.nilS,.nilS,.nilS]):=bS7 n
theorem ziL (c0 c1 c2 c3 c4 c5 c6 c7 c8 c9 d0 d1 d2 d3 d4 d5 d6:AV):yL 17 [c0,c1,c2,c3,c4,c5,c6,c7,c8,c9,d0,d1,d2,d3,d4,d5,d6]=some (.agg [c0,c1,c2,c3,c4,c5,c6,c7,c8,c9,d0,d1,d2,d3,d4,d5,d6]):=rfl
theorem zS17:yl Try.prog 55=some [.int .i64 0,.str [],.str [],.int .i64 0,.int .i64 0,.int .i64 0,.str [],.int .i64 0,.nilS,.int .i64 0,.int .i64 0,.str [],.int .i64 0,.nilS,.nilS,.nilS,.nilS]:=by kernel_rfl
theorem zi9 {a b c d e:AV} (h:[a,b,c,d,e].all AV.one=true):AV.one a=true∧AV.one b=true∧AV.one c=true∧AV.one d=true∧AV.one e=true:=by
 simp only[List.all_cons,List.all_nil,Bool.and_true,Bool.and_eq_true]at h
 exact⟨h.1,h.2.1,h.2.2.1,h.2.2.2.1,h.2.2.2.2⟩
theorem zfe {lo:Nat}{H:Hp}{r n:Nat}{H5:Hp}{L:List Int}{c:Int}{cs:List AV}{x:St} (hl:cs.length=17) (ha:cs.all AV.one=true) (hc:ym (fun q=>H.next≤q) n H5 cs x.cells) (hr:zcl lo H5 r L c) (hn:H.next≤H5.next) (ho:∀ q,q < H.next→q≠r→H5.get q=H.get q):zlN 17 n lo H r x.cells L c (.agg cs) H5:=⟨⟨cs,rfl,hl,ha,hc⟩,hr,hn,ho⟩
def scR:SC→SC
 | .seq _ b=>b
 | x=>x
noncomputable def zbj:SC:=scR (scR (scR (scR (scR (scR zd8.1)))))
noncomputable def zja (f:Int) (k deep:Nat):Int→Sd→List St×Sd:=fun most s=>zaY (jx f k (deep+1)) (yn (zF s.1).1 (most+1)).toNat ((zF s.1).2,s.2)
structure AtT (f:Int) (deep lo:Nat) (H H2:Hp) (r:Nat) (L1:List Int) (c q m:Int) (E2:Env):Prop where
 hd:deep≤3
 hrl:r < lo
 hlo:lo≤H.next
 n2:H2.next=H.next+1
 g2:H2.get H.next=some (.cells [.int .i64 0,.str [],.str [],.int .i64 0,.int .i64 0,.int .i64 0,.str [],.int .i64 0,.nilS,.int .i64 0,.int .i64 0,.str [],.int .i64 0,.nilS,.nilS,.nilS,.nilS] 0 true)
 o2:∀ q,q < H.next→q≠r→H2.get q=H.get q
 hr2:zcl lo H2 r L1 c
 hL:L1.length < 2 ^ 60
 hm:0≤m∧m < 1000
 hqd:8≤q→q < 12→deep≤2
 k0:E2.at 0=.ptr r 0
 k1:E2.at 1=.int .i64 f
 k2:E2.at 2=.int .i64 deep
 k6:E2.at 6=.ptr H.next 0
 k8:E2.at 8=je (yB f)
 k9:E2.at 9=.int .i64 m
 k10:E2.at 10=.int .i64 q
def zcC (k:Nat) (f:Int) (deep lo:Nat) (H:Hp) (r:Nat) (L1:List Int) (c q m:Int):AX→Env→Hp→Prop:=fun x E' H'=>(x=.normal∨x=.ret)∧∃ vs,zQ Try.prog E' H' [.cell 6 55]=some vs∧zlN 17 (8+(k+1)) lo H r (jF (zja f k deep) f L1 c q m).1.cells (jF (zja f k deep) f L1 c q m).2.1 (jF (zja f k deep) f L1 c q m).2.2 (zp vs) H'
noncomputable def zro:En:=⟨22,true,spP (fun p=>p.sz < 2 ^ 36) prE fun p=>.int .i64 (yE p)⟩
theorem zpu (ρ:Nat→Int):zbI Try.prog ρ zro:=jL fun p hp=>zne ρ p hp
namespace tyLoL
def tyF:=And.intro @tq3 (And.intro @tq9 (And.intro @zcV (And.intro @tq25 (And.intro @zg4 (And.intro @tq28 (And.intro @tq31 (And.intro @zgb (And.intro @tq34 (And.intro @zgc (And.intro @zcj (And.intro @zmE (And.intro @zcc (And.intro @za9 (And.intro @zau (And.intro @zfA (And.intro @zld (And.intro @zgd (@zh7))))))))))))))))))
end tyLoL
open tyLoL
noncomputable def zrp:{ c:SC // slim 84 (Try.f15.body.getD .skip)=c }:=by
 refine⟨?_,?_⟩
 rotate_left
 ·simp only[Try.f15,Option.getD_some,slim,zZ,zS,z6,z7,Nat.blt,Nat.ble]
  rfl
theorem zrq:∀ (l:List Nm) (i:Nat) (m:List (Nm×Int)),l.Nodup→∀ nm,lkV (nmE l i m) nm=if yz l nm=true then ((i+ixS l nm:Nat):Int)else lkV m nm
 | [],i,m,_,nm=>rfl
 | a::l,i,m,h,nm=>by
   obtain⟨h1,h2⟩:=List.nodup_cons.1 h
   have hs:yz (a::l) nm=(decide (a=nm)||yz l nm):=rfl
   rw[nmE,zrq l (i+1) _ h2 nm,hs]
   by_cases e:a=nm
   ·subst e
    have hn:yz l a=false:=by
     rw[yz,List.any_eq_false]
     intro x hx hd
     exact h1 (by rw[← of_decide_eq_true hd];exact hx)
    rw[hn,if_neg (by simp),ze8,if_pos rfl,decide_eq_true rfl,Bool.true_or,if_pos rfl,ixS,if_pos rfl,Nat.add_zero]
   ·rw[decide_eq_false e,Bool.false_or,ixS,if_neg e]
    by_cases c:yz l nm=true
    ·rw[if_pos c,if_pos c,if_pos c,show i+1+ixS l nm=i+(ixS l nm+1) by omega]
    ·rw[if_neg c,if_neg c,ze8,if_neg (fun h=>e h.symm)]
theorem zrr:∀ (l:List Nm) (nm:Nm),yz l nm=false→ixS l nm=0
 | [],_,_=>rfl
 | a::l,nm,h=>by
   have hs:yz (a::l) nm=(decide (a=nm)||yz l nm):=rfl
   rw[hs,Bool.or_eq_false_iff,decide_eq_false_iff_not]at h
   rw[ixS,if_neg h.1,h.2];rfl
theorem zrs {l:List Nm} (h:l.Nodup) (nm:Nm):lkV (nmE l 0 []) nm=ixS l nm:=by
 rw[zrq l 0 [] h nm]
 by_cases c:yz l nm=true
 ·rw[if_pos c,Nat.zero_add]
 ·rw[if_neg c,zrr l nm (by simpa using c)];rfl
theorem Valid.fnNames {p:Pr} (h:Valid p) {f:Fu} (hf:f∈p.funcs):(f.params++f.locals).Nodup:=by
 have hd:=h.du
 rw[zgl,zen,Bool.or_eq_false_iff,Bool.or_eq_false_iff]at hd
 have:=List.any_eq_false.1 hd.2.2 f hf
 exact ziv _ _ (by simpa using this)
theorem cxOk {p:Pr} (hv:Valid p) {f:Fu} (hf:f∈p.funcs) {X:Lx} (hp:X.p=p) (ha:X.ae=nmE (p.arrays.map (·.name)) 0 []) (hfe:X.fe=zdr p.funcs 0 []):CxOk (X.nx (nmE (f.params++f.locals) 0 [])) (cxL p f) where
 ar:=hp ▸ rfl
 ae nm:=by
  show lkV X.ae nm=_
  rw[ha]
  exact zrs hv.nodup nm
 ne nm:=zrs (hv.fnNames hf) nm
 fe nm h:=by
  show lkV X.fe nm=_
  rw[hfe]
  exact zjt nm p.funcs [] 0 [] hv.names.2 h
theorem LowT.of {tb:List En} (h:∀ e∈tb,zq7 e.f=false):LowT tb:=⟨fun f hf=>by
 have hne:∀ e∈tb,Nat.beq e.f f=false:=fun e he=>by
  cases hb:Nat.beq e.f f with
  | false=>rfl
  | true=>rw[← Nat.eq_of_beq_eq_true hb,h e he]at hf;cases hf
 clear h
 induction tb with
 | nil=>exact⟨fun _=>rfl,rfl⟩
 | cons e l ih=>
   obtain⟨i1,i2⟩:=ih fun x hx=>hne x (List.mem_cons_of_mem _ hx)
   have he:=hne e List.mem_cons_self
   exact⟨fun ar=>by simp only[yQ,he];exact i1 ar,by simp only[zev,List.any_cons]at i2 ⊢;simp only[he,Bool.false_and,Bool.false_or];exact i2⟩⟩
theorem zrt {l:List Nm}{i:Nat} (h:i < l.length):nmE (l.take (i+1)) 0 []=setV (nmE (l.take i) 0 []) l[i] (i:Int):=by
 rw[List.take_add_one,List.getElem?_eq_getElem h]
 show nmE (l.take i++[l[i]]) 0 []=_
 rw[zfU,List.length_take,Nat.min_eq_left (by omega),Nat.zero_add]
theorem zjE:∀ (l:List Fu) (f:Fu) (i:Nat) (m:List (Nm×Int)),zdr (l++[f]) i m=setV (zdr l i m) f.name ((i+l.length:Nat):Int)
 | [],f,i,m=>rfl
 | b::l,f,i,m=>by
   rw[List.cons_append,zdr,zjE l f (i+1),zdr,List.length_cons,show i+1+l.length=i+(l.length+1) by omega]
theorem zpv {l:List Fu}{i:Nat} (h:i < l.length):zdr (l.take (i+1)) 0 []=setV (zdr (l.take i) 0 []) (l[i]).name (i:Int):=by
 rw[List.take_add_one,List.getElem?_eq_getElem h]
 show zdr (l.take i++[l[i]]) 0 []=_
 rw[zjE,List.length_take,Nat.min_eq_left (by omega),Nat.zero_add]
def zru (p:Pr) (n:Nat):Prop:=∀ f∈p.funcs,∃ s v,zav (cxL p f) n f.body (j6 f)=some s∧exL (cxL p f) n f.value s=some v∧Fin v.2
def UnV (H':Hp) (u:Un) (e:Int) (v:AV):Prop:=∃ cs S,v=.tup [.agg cs,.int .i64 e]∧ym S 5 H' cs u.cells
theorem zvo (H:Hp) (l:List Ar) (hl:l.length < 2 ^ 36):∃ av H',zX Try.prog false H 32 32 .nilS (.lst (l.map Ar.cells))=some (av,H')∧yh (fun k=>H.next≤k) 1 H' 2 av (l.map Ar.cells)∧H.next≤H'.next∧(∀ k,k < H.next→H'.get k=H.get k):=by
 have hz:∀ x∈l.map Ar.cells,x.length=2:=fun x hx=>by obtain⟨a,_,rfl⟩:=List.mem_map.1 hx;exact a.clen
 have hx:=zq6 (H:=H) hz
 rw[List.length_map]at hx
 by_cases c:l=[]
 ·subst c
  refine⟨.nilS,H,?_,.inl ⟨rfl,rfl⟩,Nat.le_refl _,fun _ _=>rfl⟩
  simp only[zX,Try.underlying32,sz74,bt74,zr74,show jh Try.prog 32=true by kernel_rfl,List.length_nil,hx]
 ·obtain⟨m,hm⟩:∃ m,l.length=m+1:=⟨l.length - 1,by have:=List.length_pos_iff.2 c;omega⟩
  rw[hm]at hx
  refine⟨.sl H.next 0 (m+1) 2,H.alloc (.cells (l.map Ar.cells).flatten 0 true),append_nil Try.underlying32 sz74 bt74 zr74 (by kernel_rfl) hx (zn8 l) rfl (by rw[show zW=70368744177664 from rfl];omega) (by rw[show zW=70368744177664 from rfl];omega),.inr ⟨H.next,0,l.map Ar.cells,by rw[List.length_map,hm],Nat.le_refl _,Nat.lt_succ_self _,by rw[za,if_pos rfl],Nat.zero_le _,zjB l⟩,Nat.le_succ _,fun k hk=>by rw[za,if_neg (by omega)]⟩
theorem bsG1 (H:Hp) {cs:List AV} (h:cs.length=5) (h1:cs.all AV.one=true):zI Try.prog H 31 1 [(0,.agg cs)]=some (.sl H.next 0 1 5,H.alloc (.cells cs 0 true)):=by
 obtain⟨a,b,c,d,e,rfl⟩:=zcJ h
 kernel_rfl
theorem bBd (p:Pr) (rt rn:Nat):yj Try.prog 84 [(0,.agg p.cells),(1,.map 2),(2,.map 3),(4,.map rt),(5,.map rn)]=some (.agg [.lst (p.arrays.map Ar.cells),.lst (p.funcs.map Fu.cells),.map 2,.map 3,.nilS,.map rt,.map rn,.nilS,.int .i64 0,.int .i64 0]):=by kernel_rfl
theorem gr_row {S:Nat→Prop}{H:Hp}{lv:AV}{l:List Nd} (nm:List UInt8) (np v st:Int) (h:yh S 2 H 3 lv (l.map Nd.cells)):ym S 3 H [.str nm,.int .i64 np,lv,.int .i64 v,.int .i64 st] (Gr.mk nm np l v st).cells:=
 .cons (.str _) (.cons (.int _ _) (.cons h.rd (.cons (.int _ _) (.cons (.int _ _) .nil))))
structure Smr (n:Nat) (H H':Hp):Prop where
 get:∀ k,4≤k→k < n→H'.get k=H.get k
set_option maxRecDepth 100000 in
theorem zrv {tb:List En} (hG:LowT tb) (hC:∀ ar,yQ tb 22 ar=zro.sp ar) (hL:Plain (zK pls tb) 15) (p:Pr) {n:Nat} (hz:p.sz < 2 ^ 34) (hok:yE p=0→zru p n) {u:Un}{e:Int} (h:zlz p n=some (u,e)) :
 zr Try.prog (zK pls tb) 15 [.agg p.cells] H0 (fun v H'=>UnV H' u e v):=by
 have hw:=hL
 have hkeep:(zK pls tb).keep 15=false:=rfl
 have hchk:∀ H,zr Try.prog (zK pls tb) 22 [.agg p.cells] H fun v H'=>v=.int .i64 (yE p)∧H'=H:=fun H=>yr (enc:=prE) (ok:=fun p=>p.sz < 2 ^ 36) (out:=fun p=>.int .i64 (yE p)) zcx (x:=p) (hC _) (by omega)
 have hpz:p.sz=1+zak p.arrays+za2 p.funcs:=rfl
 have hla:=zaU p.arrays
 have hlf:=zbx p.funcs
 unfold zlz at h
 by_cases hc:yE p=0
 ·rw[if_pos hc]at h
  have hv:=zqR hc
  have hok:=hok hc
  obtain⟨av,Ha,aa,ra,na,qa⟩:=zvo ((((H0.alloc (.cells p.cells 0 true)).alloc (.cells [.nilS,.nilS] 0 true)).alloc (.map [])).alloc (.map [])) p.arrays (by omega)
  obtain⟨ha1,ha2⟩:=ra.one
  have bUn:yj Try.prog 34 [(0,av)]=some (.agg [av,.nilS]):=by
   rcases ra with ⟨rfl,_⟩|⟨q,im,rows,rfl,_⟩<;>kernel_rfl
  have bUn0:yj Try.prog 34 []=some (.agg [.nilS,.nilS]):=by kernel_rfl
  have na4:4≤Ha.next:=na
  have q0:Ha.get 0=some (.cells p.cells 0 true):=by rw[qa 0 (by simp only[zb,zH];omega)];simp[za,zb,zH]
  have q1:Ha.get 1=some (.cells [.nilS,.nilS] 0 true):=by rw[qa 1 (by simp only[zb,zH];omega)];simp[za,zb,zH]
  have q2:Ha.get 2=some (.map []):=by rw[qa 2 (by simp only[zb,zH];omega)];simp[za,zb,zH]
  have q3:Ha.get 3=some (.map []):=by rw[qa 3 (by simp only[zb,zH];omega)];simp[za,zb,zH]
  have ra':yh (fun k=>4≤k∧k < Ha.next) 1 Ha 2 av (p.arrays.map Ar.cells):=ra.keep (fun k h1 h2=>⟨h2,h1⟩) (Nat.le_refl _) fun _ _ _=>rfl
  have q0s:∀ b c,((Ha.alloc b).set Ha.next c).get 0=some (.cells p.cells 0 true):=fun b c=>by rw[Hp.get_set,if_neg (by omega),za,if_neg (by omega)];exact q0
  refine zj (M:=84) (rs:=[.cell 2 34,.tmp 3]) (hw.call _) hw.ice hw.froz Try.func15 rfl rfl zrp.2 rfl ?_;dsimp only[zrp,zO,Nat.reduceAdd]
  repeat' (first
   | (apply Rx.nl ?_;clear hK K)|apply Ry.o ?_|apply Ry.on ?_|(apply Ry.call ?_;first|refine zaF (hchk _) ?_)|(apply Ry.cd (fun hb hbp=>?_) (fun hb hbp=>?_)<;>try (cases hb;done))|apply Wp.seq ?_|(apply zd fun K hK=>?_)|apply Wp.block ?_|apply zh ?_|apply Rx.rt ?_|apply zk ?_)
  clear aa qa ra na q0s
  have gs:∀ k,k < Ha.next→((Ha.alloc (.cells [.nilS,.nilS] 0 true)).set Ha.next (.cells [av,.nilS] 0 true)).get k=Ha.get k:=fun k hk=>by rw[Hp.get_set,if_neg (by omega),za,if_neg (by omega)]
  refine yd [1,2,3,5,6,7,29,30] [] 31 p.arrays.length (fun i E Hi=>Hi.get 0=some (.cells p.cells 0 true)∧Hi.get 1=some (.cells [.nilS,.nilS] 0 true)∧Hi.get 2=some (.map (vEs (nmE ((p.arrays.map (·.name)).take i) 0 [])))∧Hi.get 3=some (.map [])∧Hi.get Ha.next=some (.cells [av,.nilS] 0 true)∧Smr Ha.next Ha Hi) eE ⟨by rw[gs _ (by omega)];exact q0,by rw[gs _ (by omega)];exact q1,by rw[gs _ (by omega)];exact q2,by rw[gs _ (by omega)];exact q3,by rw[Hp.get_set,if_pos rfl],⟨fun k _ hk=>gs k hk⟩⟩ ?_
  clear gs
  rintro i E Hi hi hcE hrH hnH hsI ⟨g0,g1,g2,g3,g7,hsm⟩
  (try simp only[zi,zl,and_true,sB,sO,Nat.reduceBEq,Nat.reduceAdd,Nat.reduceLeDiff,tyF, *]at hcE)
  (try simp only[zi,zl,and_true,sB,sO,Nat.reduceBEq,Nat.reduceAdd,Nat.reduceLeDiff,tyF, *]at hrH)
  (try simp only[zb,ze,zH,Nat.zero_add,Nat.reduceAdd]at hnH)
  have ni:Ha.next+1≤Hi.next:=hnH
  by_cases hlt:i < p.arrays.length
  ·have hlt':(i:Int) < p.arrays.length:=by omega
   have hgx:p.arrays[i]?=some p.arrays[i]:=List.getElem?_eq_getElem hlt
   have hne:nmE ((p.arrays.map (·.name)).take (i+1)) 0 []=setV (nmE ((p.arrays.map (·.name)).take i) 0 []) (p.arrays[i]).name (i:Int):=by
    rw[zrt (by rw[List.length_map];exact hlt),List.getElem_map]
   generalize p.arrays[i]=ar at *
   rw[hne]
   have gA:∀ b c k,k < Hi.next→((Hi.alloc b).set Hi.next c).get k=Hi.get k:=fun b c k hk=>by rw[Hp.get_set,if_neg (by omega),za,if_neg (by omega)]
   have g2a:∀ b c,((Hi.alloc b).set Hi.next c).get 2=some (.map (vEs (nmE ((p.arrays.map (·.name)).take i) 0 []))):=fun b c=>by rw[gA b c 2 (by omega)];exact g2
   have hup:=fun b c=>zfJ (P:=Try.prog) (t:=81) Try.underlying81 kS (g2a b c) ar.name (i:Int)
   repeat' (first
    | (apply Rx.nl ?_;clear hK K)|apply Ry.o ?_|apply Ry.on ?_|(apply Ry.cd (fun hb hbp=>?_) (fun hb hbp=>?_)<;>try (cases hb;done))|apply Wp.seq ?_|(apply zd fun K hK=>?_)|apply Wp.block ?_|apply zh ?_|apply Rx.rt ?_|apply zk ?_)
   refine⟨by omega,eL,eL,eN,(by simp only[sB,Nat.reduceBEq, *];exact zT (n:=p.arrays.length) (by omega) (by omega)),?_⟩
   have gB:∀ b c m k,k < Hi.next→k≠2→(((Hi.alloc b).set Hi.next c).set 2 m).get k=Hi.get k:=fun b c m k hk h2=>by rw[Hp.get_set,if_neg h2];exact gA b c k hk
   exact⟨by rw[gB _ _ _ _ (by omega) (by omega)];exact g0,by rw[gB _ _ _ _ (by omega) (by omega)];exact g1,by rw[Hp.get_set,if_pos rfl],by rw[gB _ _ _ _ (by omega) (by omega)];exact g3,by rw[gB _ _ _ _ (by omega) (by omega)];exact g7,⟨fun k h1 h2=>by rw[gB _ _ _ _ (by omega) (by omega)];exact hsm.get k h1 h2⟩⟩
  ·have hlt':¬ (i:Int) < p.arrays.length:=by omega
   have hti:(p.arrays.map (·.name)).take i=p.arrays.map (·.name):=List.take_of_length_le (by rw[List.length_map];omega)
   rw[hti]at g2
   repeat' (first
    | (apply Rx.nl ?_;clear hK K)|apply Ry.o ?_|apply Ry.on ?_|(apply Ry.cd (fun hb hbp=>?_) (fun hb hbp=>?_)<;>try (cases hb;done))|apply Wp.seq ?_|(apply zd fun K hK=>?_)|apply Wp.block ?_|apply zh ?_|apply Rx.rt ?_|apply zk ?_)
   refine yd [1,2,3,5,6,7,42,43] [] 44 p.funcs.length (fun j E Hj=>Hj.get 0=some (.cells p.cells 0 true)∧Hj.get 1=some (.cells [.nilS,.nilS] 0 true)∧Hj.get 2=some (.map (vEs (nmE (p.arrays.map (·.name)) 0 [])))∧Hj.get 3=some (.map (vEs (zdr (p.funcs.take j) 0 [])))∧Hj.get Ha.next=some (.cells [av,.nilS] 0 true)∧Smr Ha.next Ha Hj) eE ⟨g0,g1,g2,g3,g7,hsm⟩ ?_
   clear g0 g1 g2 g3 g7 hsm hti
   rintro j E3 Hj hj hcE hrH hnH hsI ⟨g0,g1,g2,g3,g7,hsm⟩
   (try simp only[zi,zl,and_true,sB,sO,Nat.reduceBEq,Nat.reduceAdd,Nat.reduceLeDiff,tyF, *]at hcE)
   (try simp only[zi,zl,and_true,sB,sO,Nat.reduceBEq,Nat.reduceAdd,Nat.reduceLeDiff,tyF, *]at hrH)
   (try simp only[zb,ze,zH,Nat.zero_add,Nat.reduceAdd]at hnH)
   have nj:Ha.next+1≤Hj.next:=by omega
   by_cases hlt:j < p.funcs.length
   ·have hlt':(j:Int) < p.funcs.length:=by omega
    have hgx:p.funcs[j]?=some p.funcs[j]:=List.getElem?_eq_getElem hlt
    have hne:=zpv hlt
    generalize p.funcs[j]=f at *
    rw[hne]
    have gA:∀ b c k,k < Hj.next→((Hj.alloc b).set Hj.next c).get k=Hj.get k:=fun b c k hk=>by rw[Hp.get_set,if_neg (by omega),za,if_neg (by omega)]
    have g3a:∀ b c,((Hj.alloc b).set Hj.next c).get 3=some (.map (vEs (zdr (p.funcs.take j) 0 []))):=fun b c=>by rw[gA b c 3 (by omega)];exact g3
    have hup:=fun b c=>zfJ (P:=Try.prog) (t:=81) Try.underlying81 kS (g3a b c) f.name (j:Int)
    repeat' (first
     | (apply Rx.nl ?_;clear hK K)|apply Ry.o ?_|apply Ry.on ?_|(apply Ry.cd (fun hb hbp=>?_) (fun hb hbp=>?_)<;>try (cases hb;done))|apply Wp.seq ?_|(apply zd fun K hK=>?_)|apply Wp.block ?_|apply zh ?_|apply Rx.rt ?_|apply zk ?_)
    refine⟨by omega,eL,eL,eN,(by simp only[sB,Nat.reduceBEq, *];exact zT (n:=p.funcs.length) (by omega) (by omega)),?_⟩
    have gB:∀ b c m k,k < Hj.next→k≠3→(((Hj.alloc b).set Hj.next c).set 3 m).get k=Hj.get k:=fun b c m k hk h2=>by rw[Hp.get_set,if_neg h2];exact gA b c k hk
    exact⟨by rw[gB _ _ _ _ (by omega) (by omega)];exact g0,by rw[gB _ _ _ _ (by omega) (by omega)];exact g1,by rw[gB _ _ _ _ (by omega) (by omega)];exact g2,by rw[Hp.get_set,if_pos rfl],by rw[gB _ _ _ _ (by omega) (by omega)];exact g7,⟨fun k h1 h2=>by rw[gB _ _ _ _ (by omega) (by omega)];exact hsm.get k h1 h2⟩⟩
   ·have hlt':¬ (j:Int) < p.funcs.length:=by omega
    have htj:p.funcs.take j=p.funcs:=List.take_of_length_le (by omega)
    rw[htj]at g3
    repeat' (first
     | (apply Rx.nl ?_;clear hK K)|apply Ry.o ?_|apply Ry.on ?_|(apply Ry.cd (fun hb hbp=>?_) (fun hb hbp=>?_)<;>try (cases hb;done))|apply Wp.seq ?_|(apply zd fun K hK=>?_)|apply Wp.block ?_|apply zh ?_|apply Rx.rt ?_|apply zk ?_)
    have hfl:zg8 p n (p.funcs.drop 0) []=some (u,e):=h
    refine yd [1,2,5,6,7,55,56] [] 57 p.funcs.length (fun i E Hk=>∃ gs fv,zg8 p n (p.funcs.drop i) gs=some (u,e)∧Hk.get 0=some (.cells p.cells 0 true)∧Hk.get 1=some (.cells [.nilS,.nilS] 0 true)∧Hk.get 2=some (.map (vEs (nmE (p.arrays.map (·.name)) 0 [])))∧Hk.get 3=some (.map (vEs (zdr p.funcs 0 [])))∧Hk.get Ha.next=some (.cells [av,fv] 0 true)∧yh (fun k=>Ha.next < k) 3 Hk 5 fv (gs.map Gr.cells)∧Smr Ha.next Ha Hk∧gs.length=i) eE ⟨[],.nilS,hfl,g0,g1,g2,g3,g7,.inl ⟨rfl,rfl⟩,hsm,rfl⟩ ?_
    clear g0 g1 g2 g3 g7 hsm htj hfl h
    rintro i5 E5 Hk hk5 hcE hrH hnH hsI ⟨gs,fv,hJ,g0,g1,g2,g3,g7,rf,hsm,hgl⟩
    (try simp only[zi,zl,and_true,sB,sO,Nat.reduceBEq,Nat.reduceAdd,Nat.reduceLeDiff,tyF, *]at hcE)
    (try simp only[zi,zl,and_true,sB,sO,Nat.reduceBEq,Nat.reduceAdd,Nat.reduceLeDiff,tyF, *]at hrH)
    (try simp only[zb,ze,zH,Nat.zero_add,Nat.reduceAdd]at hnH)
    have nk:Ha.next+1≤Hk.next:=by omega
    obtain⟨hf1,hf2⟩:=rf.one
    by_cases hlt:i5 < p.funcs.length
    ·have hlt':(i5:Int) < p.funcs.length:=by omega
     have hgx:p.funcs[i5]?=some p.funcs[i5]:=List.getElem?_eq_getElem hlt
     have hmem:=List.getElem_mem hlt
     have hfsz:=zby hmem
     rw[List.drop_eq_getElem_cons hlt]at hJ
     unfold zg8 at hJ
     obtain⟨s,v,e1,e2,hF⟩:=hok _ hmem
     generalize p.funcs[i5]=f at *
     have hfn:fnL p n f=some ⟨f.name,f.params.length,v.2.l,v.1,v.2.state⟩:=by unfold fnL;rw[e1];simp only[Option.bind_some];rw[e2];rfl
     rw[hfn]at hJ
     simp only[Option.bind_some]at hJ
     have nB:=bBd p (Hk.next+1) (Hk.next+2)
     have gAll:∀ b0 c0 m1 m2 bx k,k < Hk.next→(((((Hk.alloc b0).set Hk.next c0).alloc m1).alloc m2).alloc bx).get k=Hk.get k:=fun b0 c0 m1 m2 bx k hk=>by
      rw[za,if_neg (by simp only[zb,ze];omega),za,if_neg (by simp only[zb,ze];omega),za,if_neg (by simp only[zb,ze];omega),Hp.get_set,if_neg (by omega),za,if_neg (by omega)]
     have g0m:∀ b0 c0,((Hk.alloc b0).set Hk.next c0).get 0=some (.cells p.cells 0 true):=fun b0 c0=>by rw[Hp.get_set,if_neg (by omega),za,if_neg (by omega)];exact g0
     have hfx:∀ b0 m1 m2 bx,(((((Hk.alloc b0).set Hk.next (.cells f.cells 0 true)).alloc m1).alloc m2).alloc bx).get Hk.next=some (.cells f.cells 0 true):=fun b0 m1 m2 bx=>by
      rw[za,if_neg (by simp only[zb,ze];omega),za,if_neg (by simp only[zb,ze];omega),za,if_neg (by simp only[zb,ze];omega),Hp.get_set,if_pos rfl]
     repeat' (first
      | (apply Rx.nl ?_;clear hK K)|apply Ry.o ?_|apply Ry.on ?_|(apply Ry.cd (fun hb hbp=>?_) (fun hb hbp=>?_)<;>try (cases hb;done))|apply Wp.seq ?_|(apply zd fun K hK=>?_)|apply Wp.block ?_|apply zh ?_|apply Rx.rt ?_|apply zk ?_)
     refine WpL.call rfl eVk eAk ?_;simp only[List.cons_append,List.nil_append,List.append_nil]
     generalize hHb:Hp.alloc (Hp.alloc _ _) (.cells [.lst (p.arrays.map Ar.cells),.lst (p.funcs.map Fu.cells),.map 2,.map 3,.nilS,.map (Hk.next+1),.map (Hk.next+2),.nilS,.int .i64 0,.int .i64 0] 0 true)=Hb
     have nb:Hb.next=Hk.next+4:=by rw[← hHb];rfl
     have old:∀ k,k < Hk.next→Hb.get k=Hk.get k:=fun k hk=>by rw[← hHb];exact gAll _ _ _ _ _ k hk
     have gt:Hb.get (Hk.next+1)=some (.map []):=by
      rw[← hHb,za,if_neg (by simp only[zb,ze];omega),za,if_neg (by simp only[zb,ze];omega),za,if_pos (by rfl)]
     have gn:Hb.get (Hk.next+2)=some (.map []):=by
      rw[← hHb,za,if_neg (by simp only[zb,ze];omega),za,if_pos (by rfl)]
     have gb:Hb.get (Hk.next+3)=some (.cells [.lst (p.arrays.map Ar.cells),.lst (p.funcs.map Fu.cells),.map 2,.map 3,.nilS,.map (Hk.next+1),.map (Hk.next+2),.nilS,.int .i64 0,.int .i64 0] 0 true):=by
      rw[← hHb,za,if_pos (by rfl)]
     clear hHb gAll g0m hfx nB
     have hRb:RepL (Lx.mk p (Hk.next+3) 2 3 (Hk.next+1) (Hk.next+2) (nmE (p.arrays.map (·.name)) 0 []) (zdr p.funcs 0 []) []) Hb (fun _=>False) ⟨[],[],0,0⟩ .nilS .nilS:=
      ⟨gb,by show Hb.get 2=_;rw[old 2 (by omega)];exact g2,by show Hb.get 3=_;rw[old 3 (by omega)];exact g3,gt,gn,.inl ⟨rfl,rfl⟩,.inl ⟨rfl,rfl⟩,by show 2 < 3;omega,by show 3 < Hk.next+1;omega,by show Hk.next+1 < Hk.next+2;omega,by show Hk.next+2 < Hk.next+3;omega,by show Hk.next+3 < Hb.next;omega,fun _ h=>h.elim,fun _ h=>(zfQ h).elim⟩
     refine zr.mono ?_ (lfn_wp (X:=Lx.mk p (Hk.next+3) 2 3 (Hk.next+1) (Hk.next+2) (nmE (p.arrays.map (·.name)) 0 []) (zdr p.funcs 0 []) []) hG (cxOk hv hmem rfl rfl rfl) rfl e1 e2 hF (by omega) hRb)
     clear hRb gb gt gn
     rintro w H4 ⟨S4,lv4,rfl,nd4,n4,s4,q4⟩
     dsimp only at nd4 q4
     have old4:∀ k,k < Hk.next→H4.get k=Hk.get k:=fun k hk=>by rw[q4 k (by omega) (by omega) (by omega) (by omega)];exact old k hk
     have hlen4:∀ H',ye Try.prog H' 26 lv4=some (.int .i64 v.2.l.length):=fun H'=>by
      have:=nd4.len (P:=Try.prog) (t:=26) (H':=H') Try.underlying26
      rwa [List.length_map]at this
     obtain⟨hl1,hl2⟩:=nd4.one
     clear q4 old
     have n4':Hk.next+4≤H4.next:=by omega
     by_cases hbig:(2000:Int) < v.2.l.length
     ·rw[if_pos hbig]at hJ
      simp only[Option.some.injEq,Prod.mk.injEq]at hJ
      obtain⟨rfl,rfl⟩:=hJ
      have g1a:∀ b c,((H4.alloc b).set H4.next c).get 1=some (.cells [.nilS,.nilS] 0 true):=fun b c=>by rw[Hp.get_set,if_neg (by omega),za,if_neg (by omega),old4 1 (by omega)];exact g1
      have ag0:yL 2 [.nilS,.nilS]=some (.agg [.nilS,.nilS]):=rfl
      dsimp only[zA]
      repeat' (first
       | (apply Rx.nl ?_;clear hK K)|apply Ry.o ?_|apply Ry.on ?_|(apply Ry.cd (fun hb hbp=>?_) (fun hb hbp=>?_)<;>try (cases hb;done))|apply Wp.seq ?_|(apply zd fun K hK=>?_)|apply Wp.block ?_|apply zh ?_|apply Rx.rt ?_|apply zk ?_)
      refine⟨eI,_,(by(try simp only[sB,sO,Nat.reduceBEq,Nat.reduceAdd,Nat.reduceLeDiff,tyF,zQ,yb,ag0, *]);first|done|with_reducible rfl),?_⟩;try simp only[zp]
      exact⟨_,fun _=>True,rfl,.cons .nilS (.cons .nilS .nil)⟩
     ·rw[if_neg hbig]at hJ
      have hone:([.str f.name,.int .i64 f.params.length,lv4,.int .i64 v.1,.int .i64 v.2.state]:List AV).all AV.one=true:=by simp only[List.all_cons,List.all_nil,hl1];rfl
      have ag:yL 5 [.str f.name,.int .i64 f.params.length,lv4,.int .i64 v.1,.int .i64 v.2.state]=some (.agg [.str f.name,.int .i64 f.params.length,lv4,.int .i64 v.1,.int .i64 v.2.state]):=rfl
      have hbs:=fun H=>bsG1 H (cs:=[.str f.name,.int .i64 f.params.length,lv4,.int .i64 v.1,.int .i64 v.2.state]) rfl hone
      have g7a:∀ b c,((H4.alloc b).set H4.next c).get Ha.next=some (.cells [av,fv] 0 true):=fun b c=>by rw[Hp.get_set,if_neg (by omega),za,if_neg (by omega),old4 _ (by omega)];exact g7
      have keep6:∀ k,k < H4.next→(((H4.alloc (.cells [.str [],.int .i64 0,.nilS,.int .i64 0,.int .i64 0] 0 true)).set H4.next (.cells [.str f.name,.int .i64 f.params.length,lv4,.int .i64 v.1,.int .i64 v.2.state] 0 true)).alloc (.cells [.str f.name,.int .i64 f.params.length,lv4,.int .i64 v.1,.int .i64 v.2.state] 0 true)).get k=H4.get k:=fun k hk=>by
       rw[za,if_neg (by simp only[zb,ze];omega),Hp.get_set,if_neg (by omega),za,if_neg (by omega)]
      have hfq:∀ k o m z',fv=.sl k o m z'→k < Hk.next∧Ha.next < k:=fun k o m z' e=>by
       rcases rf with ⟨h1,_⟩|⟨q,im,rows,h1,h2,h3,_⟩
       ·rw[h1]at e;cases e
       ·rw[h1]at e
        simp only[AV.sl.injEq]at e
        rw[← e.1];exact⟨h3,h2⟩
      obtain⟨H7,a7,r7,n7,q7⟩:=zfO (P:=Try.prog) (t:=31) Try.underlying31 sz28 bt28 zr28 rfl (by kernel_rfl) (S':=fun k=>Ha.next < k)
       (rf.keep (S':=fun k=>Ha.next < k) (H':=((H4.alloc (.cells [.str [],.int .i64 0,.nilS,.int .i64 0,.int .i64 0] 0 true)).set H4.next (.cells [.str f.name,.int .i64 f.params.length,lv4,.int .i64 v.1,.int .i64 v.2.state] 0 true)).alloc (.cells [.str f.name,.int .i64 f.params.length,lv4,.int .i64 v.1,.int .i64 v.2.state] 0 true)) (fun _ _ h=>h) (by simp only[zb,ze];omega) fun k _ hk=>by rw[keep6 k (by omega),old4 k hk])
       (fun _ _ h=>h) (by simp only[zb,ze];omega) (r:=H4.next+1) (imm:=0) (row:=[.str f.name,.int .i64 f.params.length,lv4,.int .i64 v.1,.int .i64 v.2.state]) (w:=(Gr.mk f.name f.params.length v.2.l v.1 v.2.state).cells) (by rw[za,if_pos (by rfl)]) rfl hone
       (gr_row f.name f.params.length v.1 v.2.state (nd4.keep (S':=fun k=>Ha.next < k∧∀ o m z',fv≠.sl k o m z') (fun k h1 h2=>⟨by have:=s4 k h2;omega,fun o m z' e=>by have:=(hfq k o m z' e).1;have:=s4 k h2;omega⟩) (by simp only[zb,ze];omega) fun k hk h2=>keep6 k h2))
       (by rw[List.length_map,show zW=70368744177664 from rfl];omega) (by rw[List.length_map,show zW=70368744177664 from rfl];omega)
      rw[List.length_map]at a7 r7
      simp only[zb,ze]at a7 r7 n7 q7
      have old7:∀ k,k < Hk.next→(∀ o m z',fv≠.sl k o m z')→H7.get k=Hk.get k:=fun k h1 h2=>by rw[q7 k (by omega) h2,keep6 k (by omega),old4 k h1]
      have hlow:∀ k,k≤Ha.next→∀ o m z',fv≠.sl k o m z':=fun k hk o m z' e=>by have:=(hfq k o m z' e).2;omega
      have g77:H7.get Ha.next=some (.cells [av,fv] 0 true):=by rw[old7 _ (by omega) (hlow _ (Nat.le_refl _))];exact g7
      have hJ':zg8 p n (p.funcs.drop (i5+1)) (gs++[Gr.mk f.name f.params.length v.2.l v.1 v.2.state])=some (u,e):=hJ
      have hmapg:(gs++[Gr.mk f.name f.params.length v.2.l v.1 v.2.state]).map Gr.cells=gs.map Gr.cells++[(Gr.mk f.name f.params.length v.2.l v.1 v.2.state).cells]:=by simp
      have old7':∀ k,k < Ha.next→H7.get k=Hk.get k:=fun k hk=>old7 k (by omega) (hlow k (by omega))
      clear keep6 old7 hlow hfq old4 q7 hJ
      dsimp only[zA]
      repeat' (first
       | (apply Rx.nl ?_;clear hK K)|apply Ry.o ?_|apply Ry.on ?_|(apply Ry.cd (fun hb hbp=>?_) (fun hb hbp=>?_)<;>try (cases hb;done))|apply Wp.seq ?_|(apply zd fun K hK=>?_)|apply Wp.block ?_|apply zh ?_|apply Rx.rt ?_|apply zk ?_)
      refine⟨by omega,eL,eL,eN,(by simp only[sB,Nat.reduceBEq, *];exact zT (n:=p.funcs.length) (by omega) (by omega)),?_⟩
      have hs7:∀ m k,k≠Ha.next→(H7.set Ha.next m).get k=H7.get k:=fun m k hk=>by rw[Hp.get_set,if_neg hk]
      refine⟨gs++[Gr.mk f.name f.params.length v.2.l v.1 v.2.state],.sl (H4.next+2) 0 (gs.length+1) 5,hJ',by rw[hs7 _ _ (by omega),old7' _ (by omega)];exact g0,by rw[hs7 _ _ (by omega),old7' _ (by omega)];exact g1,by rw[hs7 _ _ (by omega),old7' _ (by omega)];exact g2,by rw[hs7 _ _ (by omega),old7' _ (by omega)];exact g3,by rw[Hp.get_set,if_pos rfl,hgl],?_,⟨fun k h1 h2=>by rw[hs7 _ _ (by omega),old7' _ (by omega)];exact hsm.get k h1 h2⟩,by rw[List.length_append,hgl];rfl⟩
      rw[hmapg]
      exact r7.keep (fun _ _ h=>h) (Nat.le_refl _) fun k hk _=>hs7 _ k (by omega)
    ·have hlt':¬ (i5:Int) < p.funcs.length:=by omega
     have hd:p.funcs.drop i5=[]:=List.drop_eq_nil_of_le (by omega)
     rw[hd]at hJ
     simp only[zg8,Option.some.injEq,Prod.mk.injEq]at hJ
     obtain⟨rfl,rfl⟩:=hJ
     have ag:yL 2 [av,fv]=some (.agg [av,fv]):=rfl
     have rd1:=ra'.keep (S':=fun _=>True) (H':=Hk.set 1 (.cells [av,fv] 0 true)) (fun _ _ _=>trivial) (by simp only[ze];omega) fun k hk _=>by rw[Hp.get_set,if_neg (by omega)];exact hsm.get k hk.1 hk.2
     have rd2:=rf.keep (S':=fun _=>True) (H':=Hk.set 1 (.cells [av,fv] 0 true)) (fun _ _ _=>trivial) (by simp only[ze];omega) fun k hk _=>by rw[Hp.get_set,if_neg (by omega)]
     have fin:UnV (Hk.set 1 (.cells [av,fv] 0 true)) ⟨p.arrays,gs⟩ 0 (.tup [.agg [av,fv],.int .i64 0]):=⟨_,fun _=>True,rfl,.cons (rd1.rd.up (by omega)) (.cons (rd2.rd.up (by omega)) .nil)⟩
     clear rd1 rd2
     repeat' (first
      | (apply Rx.nl ?_;clear hK K)|apply Ry.o ?_|apply Ry.on ?_|(apply Ry.cd (fun hb hbp=>?_) (fun hb hbp=>?_)<;>try (cases hb;done))|apply Wp.seq ?_|(apply zd fun K hK=>?_)|apply Wp.block ?_|apply zh ?_|apply Rx.rt ?_|apply zk ?_)
     refine⟨eI,_,(by(try simp only[sB,sO,Nat.reduceBEq,Nat.reduceAdd,Nat.reduceLeDiff,tyF,zQ,yb,ag, *]);first|done|with_reducible rfl),?_⟩;try simp only[zp]
     exact fin
 ·rw[if_neg hc,Option.some.injEq,Prod.mk.injEq]at h
  obtain⟨rfl,rfl⟩:=h
  have bUn0:yj Try.prog 34 []=some (.agg [.nilS,.nilS]):=by kernel_rfl
  refine zj (M:=84) (rs:=[.cell 2 34,.tmp 3]) (hw.call _) hw.ice hw.froz Try.func15 rfl rfl zrp.2 rfl ?_;dsimp only[zrp,zO,Nat.reduceAdd]
  repeat' (first
   | (apply Rx.nl ?_;clear hK K)|apply Ry.o ?_|apply Ry.on ?_|(apply Ry.call ?_;first|refine zaF (hchk _) ?_)|(apply Ry.cd (fun hb hbp=>?_) (fun hb hbp=>?_)<;>try (cases hb;done))|apply Wp.seq ?_|(apply zd fun K hK=>?_)|apply Wp.block ?_|apply zh ?_|apply Rx.rt ?_|apply zk ?_)
  have ag0:yL 2 [.nilS,.nilS]=some (.agg [.nilS,.nilS]):=rfl
  refine⟨eI,_,(by(try simp only[sB,sO,Nat.reduceBEq,Nat.reduceAdd,Nat.reduceLeDiff,tyF,zQ,yb,ag0, *]);first|done|with_reducible rfl),?_⟩;try simp only[zp]
  exact⟨_,fun _=>True,rfl,.cons .nilS (.cons .nilS .nil)⟩
theorem UnV.wk {H':Hp}{u:Un}{e:Int}{v:AV} (h:UnV H' u e v):∃ m w,iceV H' m v=some w∧wkN 60 w=.tup [.agg u.cells,.int .i64 e]:=by
 obtain⟨cs,S,rfl,us,h1,h2⟩:=h
 have h3:Ic S 100 H' (.agg cs) (.agg us):=Ic.up (n:=6) ⟨us,h1,rfl⟩ (by omega)
 obtain⟨m0,hm⟩:=zfE (S:=S) (n:=100) (H:=H') (fun k=>Ic.iceV k) (l:=[.agg cs,.int .i64 e]) (k:=[.agg us,.int .i64 e]) ⟨h3,Ic.flat ⟨.int _ _,trivial⟩,trivial⟩
 refine⟨m0+1,.tup [.agg us,.int .i64 e],?_,?_⟩
 ·have e1:iceV H' (m0+1) (.tup [.agg cs,.int .i64 e])=match iceL (iceV H' m0) [.agg cs,.int .i64 e]with
   | some vs=>some (.tup vs)
   | none=>none:=rfl
  rw[e1,hm m0 (Nat.le_refl _)]
 ·show AV.tup [.agg (us.map (wkN 58)),.int .i64 e]=_
  rw[h2 58 (by omega)]
noncomputable def levL:List En:=[zro]
theorem zvp (ρ:Nat→Int):zdC Try.prog ρ levL:=⟨zpu ρ,trivial⟩
theorem zrw:LowT levL:=LowT.of fun e he=>by
 rw[levL,List.mem_singleton]at he
 subst he;rfl
theorem zpw (ρ:Nat→Int) (p:Pr) {n:Nat} (hz:p.sz < 2 ^ 34) (hok:yE p=0→zru p n) {u:Un}{e:Int} (h:zlz p n=some (u,e)):Con Try.prog ρ 15 (prE p) (.tup [.agg u.cells,.int .i64 e]):=
 zm2 (n:=60) (cfg:=zK pls levL) fit (zhY ρ) (fun g ar r hg=>zdC.look (l:=levL) (zvp ρ) g ar r hg) (.cons (.agg p.pure) .nil) (zr.mono (fun v H' h=>h.wk) (zrv zrw (fun _=>rfl) (yJ (fun _=>rfl) rfl) p hz hok h))
end Go.Proofs.Ytpbcimfiofmoeaa
namespace Go.Proofs.Ytpbcimfiofmoeaa
set_option maxRecDepth 20000
open Go Go.Ab
structure NdP (c:Cx) (np:Nat) (x:Nd):Prop where
 op:0≤x.op∧x.op < 256
 imm:jH x.imm
 len:x.kids.length≤40
 pa:x.op=2→x.imm < np
 ar:x.op=23∨x.op=28→x.imm < c.arrays.length
 fn:x.op=30→0≤x.imm∧∃ f,c.funcs[x.imm.toNat]?=some f∧x.kids.length=1+f.params.length
structure CxOkU (c:Cx):Prop where
 a:∀ x∈c.arrays,1≤x.len∧x.len≤16
 al:c.arrays.length≤4
 fl:c.funcs.length≤8
 fp:∀ f∈c.funcs,f.params.length≤6
 nl:c.names.length≤14
structure LI (c:Cx) (np:Nat) (s:Bd):Prop where
 nd:s.l.Nodup
 wf:Wf s.l
 p:∀ x∈s.l,NdP c np x
 v:∀ x∈s.vars,IsT s.l 1 x
 vl:s.vars.length=c.names.length
 st:IsT s.l 2 s.state
theorem zg0 {l:List Nd}{n:Nd} (h:l.Nodup):(zaA l n).Nodup:=by
 unfold zaA
 split
 ·exact h
 ·rename_i c
  exact List.nodup_append.2 ⟨h,by simp,fun a ha b hb=>by
   simp only[List.mem_cons,List.not_mem_nil,or_false]at hb
   subst hb
   rintro rfl
   exact c (ixNd_lt.2 ha)⟩
theorem ziM (l:List Nd) (n:Nd):(zaA l n).length≤l.length+1:=by
 rw[zpa];split<;>omega
section
variable {c:Cx} {np:Nat} {s:Bd}
theorem LI.setS (h:LI c np s) {x:Int} (hx:IsT s.l 2 x):LI c np { s with state:=x }:=⟨h.nd,h.wf,h.p,h.v,h.vl,hx⟩
theorem LI.setV (h:LI c np s) {x:List Int} (hx:∀ y∈x,IsT s.l 1 y) (hl:x.length=c.names.length):LI c np { s with vars:=x }:=⟨h.nd,h.wf,h.p,hx,hl,h.st⟩
theorem LI.setN (h:LI c np s) (x:Nat):LI c np { s with loops:=x }:=⟨h.nd,h.wf,h.p,h.v,h.vl,h.st⟩
theorem jY (h:LI c np s) {n:Nd}{t:Int} (hs:srt s.l n=t) (ht:t≠0) (hp:NdP c np n):LI c np (zm n s).2∧IsT (zm n s).2.l t (zm n s).1∧(zm n s).2.l.length≤s.l.length+1:=by
 obtain⟨a,b⟩:=zlE h.wf hs ht
 refine⟨⟨zg0 h.nd,b,fun x hx=>?_,fun x hx=>(h.v x hx).le (za6 _ _),h.vl,h.st.le (za6 _ _)⟩,a,ziM _ _⟩
 rcases zpb.1 hx with hx|rfl
 ·exact h.p x hx
 ·exact hp
theorem zgu (c:Cx) (np:Nat) {op imm:Int}{kids:List Int} (ho:0≤op∧op < 256) (hi:jH imm) (hk:kids.length≤40) (h2:op≠2) (h23:op≠23) (h28:op≠28) (h30:op≠30):NdP c np ⟨op,imm,kids⟩:=
 ⟨ho,hi,hk,fun e=>absurd e h2,fun e=>e.elim (fun e=>absurd e h23) fun e=>absurd e h28,fun e=>absurd e h30⟩
theorem zbW (h:LI c np s) {t k a b:Int} (hk:IsT s.l 1 k) (ha:IsT s.l t a) (hb:IsT s.l t b) (ht:t=1∨t=2):LI c np (zt k a b s).2∧IsT (zt k a b s).2.l t (zt k a b s).1∧(zt k a b s).2.l.length≤s.l.length+1:=by
 unfold zt
 split
 ·exact⟨h,ha,Nat.le_succ _⟩
 ·exact jY h (zuJ hk ha hb ht) (by omega) (zgu _ _ (by decide) (by unfold jH;omega) (by simp) (by decide) (by decide) (by decide) (by decide))
theorem zgv (h:LI c np s) {t v:Int} (hv:IsT s.l 1 v) (h0:1≤t) (h1:t≤1000016):LI c np (zbA t v s)∧(zbA t v s).l.length≤s.l.length+1:=by
 have:=jY h (n:=⟨27,t,[s.state,v]⟩) (zph h.st hv h0 h1) (by decide) (zgu _ _ (by decide) (by unfold jH;omega) (by simp) (by decide) (by decide) (by decide) (by decide))
 exact⟨this.1.setS this.2.1,this.2.2⟩
theorem zeb (h:LI c np s) {n:Int} (hn:jH n):LI c np (zm ⟨1,n,[]⟩ s).2∧IsT (zm ⟨1,n,[]⟩ s).2.l 1 (zm ⟨1,n,[]⟩ s).1∧(zm ⟨1,n,[]⟩ s).2.l.length≤s.l.length+1:=
 jY h (zpe n) (by decide) (zgu _ _ (by decide) hn (by simp) (by decide) (by decide) (by decide) (by decide))
theorem zkp (h:LI c np s) {op a b:Int} (ha:IsT s.l 1 a) (hb:IsT s.l 1 b) (h0:4≤op) (h1:op≤19):LI c np (zm ⟨op,0,[a,b]⟩ s).2∧IsT (zm ⟨op,0,[a,b]⟩ s).2.l 1 (zm ⟨op,0,[a,b]⟩ s).1∧(zm ⟨op,0,[a,b]⟩ s).2.l.length≤s.l.length+1:=
 jY h (zuI ha hb h0 h1) (by decide) (zgu _ _ (by omega) (by unfold jH;omega) (by simp) (by omega) (by omega) (by omega) (by omega))
theorem zoi (h:LI c np s) {n i:Int} (hn:jH n) (hi:IsT s.l 1 i):LI c np (zaL n i s)∧(zaL n i s).l.length≤s.l.length+3:=by
 obtain⟨a1,a2,a3⟩:=zeb h hn
 have hi2:=hi.le (zV ⟨1,n,[]⟩ s).le.l
 obtain⟨b1,b2,b3⟩:=zkp a1 (op:=19) hi2 a2 (by decide) (by decide)
 obtain⟨c1,c2⟩:=zgv b1 (t:=2) b2 (by decide) (by decide)
 exact⟨c1,by have:(zaL n i s).l.length≤_:=c2;omega⟩
theorem zvq (h:LI c np s) {i:Int} (hi:IsT s.l 1 i):LI c np (zfb i s)∧(zfb i s).l.length≤s.l.length+3:=by
 obtain⟨a1,a2,a3⟩:=zeb h (n:=0) (by unfold jH;omega)
 have hi2:=hi.le (zV ⟨1,0,[]⟩ s).le.l
 obtain⟨b1,b2,b3⟩:=zkp a1 (op:=16) hi2 a2 (by decide) (by decide)
 obtain⟨c1,c2⟩:=zgv b1 (t:=1) b2 (by decide) (by decide)
 exact⟨c1,by have:(zfb i s).l.length≤_:=c2;omega⟩
theorem zvr (hc:CxOkU c) (h:LI c np s) {i:Int} (hi:IsT s.l 1 i) {k:Nat} (hk:k < c.arrays.length):LI c np (zm ⟨23,k,[s.state,i]⟩ s).2∧IsT (zm ⟨23,k,[s.state,i]⟩ s).2.l 1 (zm ⟨23,k,[s.state,i]⟩ s).1∧(zm ⟨23,k,[s.state,i]⟩ s).2.l.length≤s.l.length+1:=by
 have al:=hc.al
 exact jY h (zqW h.st hi (by omega) (by omega)) (by decide) ⟨by show 0≤(23:Int)∧(23:Int) < 256;decide,by show jH (k:Int);unfold jH;omega,by show 2≤40;decide,fun e=>absurd e (by show ¬ (23:Int)=2;decide),fun _=>by show(k:Int) < _;omega,fun e=>absurd e (by show ¬ (23:Int)=30;decide)⟩
theorem zrx (hc:CxOkU c) (h:LI c np s) {i v:Int} (hi:IsT s.l 1 i) (hv:IsT s.l 1 v) {k:Nat} (hk:k < c.arrays.length):LI c np (zm ⟨28,k,[s.state,i,v]⟩ s).2∧IsT (zm ⟨28,k,[s.state,i,v]⟩ s).2.l 2 (zm ⟨28,k,[s.state,i,v]⟩ s).1∧(zm ⟨28,k,[s.state,i,v]⟩ s).2.l.length≤s.l.length+1:=by
 have al:=hc.al
 exact jY h (zpi h.st hi hv (by omega) (by omega)) (by decide) ⟨by show 0≤(28:Int)∧(28:Int) < 256;decide,by show jH (k:Int);unfold jH;omega,by show 3≤40;decide,fun e=>absurd e (by show ¬ (28:Int)=2;decide),fun _=>by show(k:Int) < _;omega,fun e=>absurd e (by show ¬ (28:Int)=30;decide)⟩
theorem out_ok (h:LI c np s) {v:Int} (hv:IsT s.l 1 v):LI c np (zm ⟨29,0,[s.state,v]⟩ s).2∧IsT (zm ⟨29,0,[s.state,v]⟩ s).2.l 2 (zm ⟨29,0,[s.state,v]⟩ s).1∧(zm ⟨29,0,[s.state,v]⟩ s).2.l.length≤s.l.length+1:=
 jY h (zuK h.st hv) (by decide) (zgu _ _ (by decide) (by unfold jH;omega) (by simp) (by decide) (by decide) (by decide) (by decide))
theorem cr_ok (h:LI c np s) {v:Int} (hv:IsT s.l 2 v):LI c np (zm ⟨24,0,[v]⟩ s).2∧IsT (zm ⟨24,0,[v]⟩ s).2.l 1 (zm ⟨24,0,[v]⟩ s).1∧(zm ⟨24,0,[v]⟩ s).2.l.length≤s.l.length+1:=
 jY h (srt_cr hv) (by decide) (zgu _ _ (by decide) (by unfold jH;omega) (by simp) (by decide) (by decide) (by decide) (by decide))
theorem zvs (hc:CxOkU c) (h:LI c np s) {av:List Int} (ha:∀ a∈av,IsT s.l 1 a) {k:Nat}{f:Fu} (hf:c.funcs[k]?=some f) (hl:av.length=f.params.length):LI c np (zm ⟨30,k,s.state::av⟩ s).2∧IsT (zm ⟨30,k,s.state::av⟩ s).2.l 2 (zm ⟨30,k,s.state::av⟩ s).1∧(zm ⟨30,k,s.state::av⟩ s).2.l.length≤s.l.length+1:=by
 have fl:=hc.fl
 have fp:=hc.fp f (List.mem_of_getElem? hf)
 have hk:k < c.funcs.length:=by
  by_cases q:k < c.funcs.length
  ·exact q
  ·rw[List.getElem?_eq_none (by omega)]at hf;cases hf
 exact jY h (zqX h.st ha (by omega) (by omega) (by omega)) (by decide) ⟨by show 0≤(30:Int)∧(30:Int) < 256;decide,by show jH (k:Int);unfold jH;omega,by show av.length+1≤40;omega,fun e=>absurd e (by show ¬ (30:Int)=2;decide),fun e=>by rcases e with e|e<;>exact absurd e (by show ¬ (30:Int)=_;decide),fun _=>⟨by show 0≤(k:Int);omega,f,by show c.funcs[(k:Int).toNat]?=_;rw[Int.toNat_natCast];exact hf,by show av.length+1=_;omega⟩⟩
end
theorem zry {l:List Ex}{i:Nat}{k:Ex} (hw:zbm l) (h:l[i]?=some k):rgE k:=by
 induction l generalizing i with
 | nil=>simp at h
 | cons e es ih=>
   rw[zbm]at hw
   cases i with
   | zero=>simp at h;subst h;exact hw.1
   | succ i=>exact ih hw.2 (by simpa using h)
theorem zpx {vs an:List Nm}{l:List Ex}{i:Nat}{k:Ex} (hw:jR vs an l=true) (h:l[i]?=some k):zap vs an k=true:=by
 induction l generalizing i with
 | nil=>simp at h
 | cons e es ih=>
   rw[jR,Bool.and_eq_true]at hw
   cases i with
   | zero=>simp at h;subst h;exact hw.1
   | succ i=>exact ih hw.2 (by simpa using h)
theorem ziN {l:List Ex}{i:Nat}{k:Ex} (h:l[i]?=some k):1+k.sz≤yc l:=by
 have:=jQ (List.mem_of_getElem? h);omega
theorem zrz {l:List Ex}{a b:Ex} (h0:l[0]?=some a) (h1:l[1]?=some b):2+a.sz+b.sz≤yc l:=by
 cases l with
 | nil=>simp at h0
 | cons x l=>
   simp at h0 h1;subst h0
   have:=ziN h1
   rw[yc];omega
theorem szEs_3 {l:List Ex}{a b d:Ex} (h0:l[0]?=some a) (h1:l[1]?=some b) (h2:l[2]?=some d):3+a.sz+b.sz+d.sz≤yc l:=by
 cases l with
 | nil=>simp at h0
 | cons x l=>
   simp at h0 h1 h2;subst h0
   have:=zrz (l:=l) h1 h2
   rw[yc];omega
theorem zgw:∀ {l:List Nm}{s:Nm},yz l s=true→ixS l s < l.length
 | [],s,h=>by simp[yz]at h
 | a::l,s,h=>by
   rw[ixS]
   split
   ·simp
   ·rename_i c
    have hs:yz (a::l) s=(decide (a=s)||yz l s):=rfl
    rw[hs,decide_eq_false c,Bool.false_or]at h
    rw[if_pos h,List.length_cons]
    exact Nat.succ_lt_succ (zgw h)
structure XOk (c:Cx) (x:Ex):Prop where
 wf:wfE x=true
 df:zap c.names (c.arrays.map (·.name)) x=true
 rg:rgE x
theorem XOk.kid {c:Cx}{x k:Ex}{i:Nat} (h:XOk c x) (hk:x.kids[i]?=some k):XOk c k:=by
 obtain⟨h1,h2,h3⟩:=h
 rw[zmT,Bool.and_eq_true]at h1
 rw[znX,Bool.and_eq_true]at h2
 rw[zq1]at h3
 exact⟨zbK h1.1 hk,zpx h2.1 hk,zry h3.2 hk⟩
theorem zcK {c:Cx} (hc:CxOkU c) {np:Nat}:∀ (n:Nat) (x:Ex) (s:Bd),XOk c x→x.sz < n→LI c np s→∃ r,exL c n x s=some r∧LI c np r.2∧IsT r.2.l 1 r.1∧r.2.l.length≤s.l.length+6 * x.sz
 | 0,x,s,hx,hd,hs=>by omega
 | n+1,x,s,hx,hd,hs=>by
   have IH:=zcK hc (np:=np) n
   have hwf:=hx.wf
   have hdf:=hx.df
   have hrg:=(zq1 x).1 hx.rg
   rw[zmT,Bool.and_eq_true,wfX]at hwf
   rw[znX,Bool.and_eq_true,zck]at hdf
   have hw:=hwf.2
   have hsz:=x.sz_eq
   unfold exL
   by_cases e1:x.kind=1
   ·rw[if_pos e1]
    obtain⟨a,b,d⟩:=zeb hs hrg.1
    exact⟨_,rfl,a,b,by omega⟩
   rw[if_neg e1]at hw ⊢
   by_cases e2:x.kind=2
   ·rw[if_pos e2]
    have hn:yz c.names x.name=true:=by have:=hdf.2;simp[e2]at this;exact this
    have hlt:ixS c.names x.name < s.vars.length:=by rw[hs.vl];exact zgw hn
    rw[List.getElem?_eq_getElem hlt,Option.map_some]
    exact⟨_,rfl,hs,hs.v _ (List.getElem_mem hlt),by show s.l.length≤_;omega⟩
   rw[if_neg e2]at hw ⊢
   by_cases e3:x.kind=3
   ·rw[if_pos e3]at hw ⊢
    simp only[Bool.and_eq_true,decide_eq_true_eq]at hw
    have hn:yz (c.arrays.map (·.name)) x.name=true:=by have:=hdf.2;simp[e3]at this;exact this
    have hlt:=zgw hn
    rw[List.length_map]at hlt
    obtain⟨k,hk⟩:=zfa x.kids (i:=0) (by omega)
    have hks:=ziN hk
    obtain⟨r,hr,r1,r2,r3⟩:=IH k s (hx.kid hk) (by omega) hs
    rw[hk,Option.bind_some,hr,Option.bind_some,List.getElem?_eq_getElem hlt,Option.bind_some]
    have ha:=hc.a _ (List.getElem_mem hlt)
    generalize c.arrays[ixS (c.arrays.map (·.name)) x.name]=ar at ha ⊢
    obtain⟨a1,a2⟩:=zoi r1 (n:=ar.len) (by unfold jH;omega) r2
    obtain⟨b1,b2,b3⟩:=zvr hc a1 (r2.le (zdt ar.len r.1 r.2).le.l) hlt
    exact⟨_,rfl,b1,b2,by omega⟩
   rw[if_neg e3]at hw ⊢
   by_cases e5:x.kind=5
   ·have e4:¬ x.kind=4:=by omega
    rw[if_neg e4,if_pos e5]at hw
    rw[if_pos e5]
    simp only[Bool.and_eq_true,decide_eq_true_eq]at hw
    obtain⟨k,hk⟩:=zfa x.kids (i:=0) (by omega)
    obtain⟨k1,hk1⟩:=zfa x.kids (i:=1) (by omega)
    obtain⟨k2,hk2⟩:=zfa x.kids (i:=2) (by omega)
    have hks:=szEs_3 hk hk1 hk2
    obtain⟨r,hr,p1,p2,p3⟩:=IH k s (hx.kid hk) (by omega) hs
    obtain⟨r1,hr1,q1,q2,q3⟩:=IH k1 r.2 (hx.kid hk1) (by omega) p1
    have l1:=yg c n _ _ _ hr1
    obtain⟨r2,hr2,t1,t2,t3⟩:=IH k2 { r1.2 with state:=r.2.state } (hx.kid hk2) (by omega) (q1.setS (p1.st.le l1.le.l))
    have l2:=yg c n _ _ _ hr2
    rw[hk,Option.bind_some,hr,Option.bind_some,hk1,Option.bind_some,hr1,Option.bind_some,hk2,Option.bind_some,hr2,Option.bind_some]
    have pc:IsT r2.2.l 1 r.1:=(p2.le l1.le.l).le l2.le.l
    obtain⟨m1,m2,m3⟩:=zbW t1 pc (q2.le l2.le.l) t2 (.inl rfl)
    have lm:=yf r.1 r1.1 r2.1 r2.2
    obtain⟨n1,n2,n3⟩:=zbW m1 (pc.le lm.le.l) ((q1.st.le l2.le.l).le lm.le.l) m1.st (.inr rfl)
    have ln:=yf r.1 r1.2.state (zt r.1 r1.1 r2.1 r2.2).2.state (zt r.1 r1.1 r2.1 r2.2).2
    refine⟨_,rfl,n1.setS n2,m2.le ln.le.l,?_⟩
    simp only at t3 ⊢
    omega
   rw[if_neg e5]at hw ⊢
   by_cases e4:x.kind=4
   ·rw[if_pos e4]at hw
    simp only[Bool.and_eq_true,Bool.or_eq_true,decide_eq_true_eq]at hw
    have hl:x.kids.length=2∨x.kids.length=1:=by rcases hw.2 with h|h<;>omega
    obtain⟨k,hk⟩:=zfa x.kids (i:=0) (by omega)
    have hks:=ziN hk
    obtain⟨r,hr,p1,p2,p3⟩:=IH k s (hx.kid hk) (by omega) hs
    rw[hk,Option.bind_some,hr,Option.bind_some]
    by_cases e6:x.kids.length=1
    ·rw[if_pos e6]
     have ho:x.op=20∨x.op=21:=by
      rcases hw.2 with h|h
      ·omega
      ·exact h.2
     obtain⟨a,b,d⟩:=jY p1 (srt_un p2 ho) (by decide) (zgu _ _ (by omega) (by unfold jH;omega) (by simp) (by omega) (by omega) (by omega) (by omega))
     exact⟨_,rfl,a,b,by omega⟩
    ·rw[if_neg e6]
     obtain⟨k1,hk1⟩:=zfa x.kids (i:=1) (by omega)
     have hks2:=zrz hk hk1
     obtain⟨r1,hr1,q1,q2,q3⟩:=IH k1 r.2 (hx.kid hk1) (by omega) p1
     have l1:=yg c n _ _ _ hr1
     rw[hk1,Option.bind_some,hr1,Option.bind_some]
     have ho:4≤x.op∧x.op≤18:=by
      rcases hw.2 with h|h
      ·have:=h.2;simp[zdm]at this;exact this
      ·omega
     have p2':=p2.le l1.le.l
     by_cases e7:x.op=7∨x.op=8
     ·rw[if_pos e7]
      obtain⟨a1,a2⟩:=zvq q1 q2
      have ld:=zkc r1.1 r1.2
      obtain⟨b1,b2,b3⟩:=zkp a1 (p2'.le ld.le.l) (q2.le ld.le.l) (by omega:4≤x.op) (by omega)
      exact⟨_,rfl,b1,b2,by omega⟩
     ·rw[if_neg e7]
      obtain⟨b1,b2,b3⟩:=zkp q1 p2' q2 (by omega:4≤x.op) (by omega)
      exact⟨_,rfl,b1,b2,by omega⟩
   ·rw[if_neg e4]at hw;simp at hw
theorem zoj {c:Cx} (hc:CxOkU c) {np n:Nat}:∀ (l:List Ex) (s:Bd),(∀ x∈l,XOk c x)→yc l < n→LI c np s→∃ r,zg7 c n l s=some r∧LI c np r.2∧(∀ a∈r.1,IsT r.2.l 1 a)∧r.2.l.length≤s.l.length+6 * yc l
 | [],s,hx,hd,hs=>⟨_,rfl,hs,by simp,by show s.l.length≤_;omega⟩
 | x::l,s,hx,hd,hs=>by
   rw[yc]at hd ⊢
   obtain⟨r,hr,p1,p2,p3⟩:=zcK hc n x s (hx x List.mem_cons_self) (by omega) hs
   obtain⟨r2,hr2,q1,q2,q3⟩:=zoj (n:=n) hc l r.2 (fun y hy=>hx y (List.mem_cons_of_mem _ hy)) (by omega) p1
   have l2:=(zdu c n _ _ _ hr2).1
   refine⟨(r.1::r2.1,r2.2),by rw[zg7,hr,Option.bind_some,hr2,Option.bind_some],q1,fun a ha=>?_,by simp only;omega⟩
   rcases List.mem_cons.1 ha with rfl|ha
   ·exact p2.le l2.le.l
   ·exact q2 a ha
end Go.Proofs.Ytpbcimfiofmoeaa
