/- Parts: G6, GOk, GRg, GSz, SpecC, GF, SglA, FlA, PgX. -/
import Derived.Test.YtpbcimfiofmoeaaSDP
set_option linter.unusedSimpArgs false
set_option linter.unusedVariables false
set_option linter.unusedSectionVars false
set_option linter.defProp false
set_option maxHeartbeats 32000000
namespace Go.Proofs.Ytpbcimfiofmoeaa
set_option maxRecDepth 20000
set_option maxRecDepth 20000
open Go Go.Ab
namespace tyG6
def tyF:=And.intro @tq2 (And.intro @tq3 (And.intro @tq9 (And.intro @zcV (And.intro @zgb (And.intro @zgc (And.intro @zcj (And.intro @zcc (And.intro @za9 (And.intro @zba (And.intro @zau (And.intro @zfA (And.intro @zbw (And.intro @zld (And.intro @tq77 (And.intro @zhg (And.intro @nms2 (And.intro @Nat.zero_mul (@Nat.one_mul))))))))))))))))))
end tyG6
open tyG6
noncomputable def code14:{ c:SC // slim 61 (Try.f14.body.getD .skip)=c }:=by
 refine⟨?_,?_⟩
 rotate_left
 ·simp only[Try.f14,Option.getD_some,slim,zZ,zS,z6,z7,Nat.blt,Nat.ble]
  rfl
def StAll (lG:List En):Prop:=∀ (f:Int) (k deep:Nat),4≤deep+k→deep≤3→zag lG k f deep
theorem stAll {lG:List En} (hG:GenL lG):StAll lG:=zlX hG
def yD (L:List Int):List St×Sd:=zad 0 4 0 5 ((zF L).2,0)
def jV (L:List Int):Ex×List Int:=zD 0 4 1 (yD L).2.1
def jg (L:List Int):List St×Sd:=zad 1 3 1 3 ((jV L).2,(yD L).2.2)
def zcE (L:List Int):Ex×List Int:=zD 1 4 1 (jg L).2.1
def yH (L:List Int):Fu:=⟨[102],[[120],[121]],[[105],[106]],(yD L).1,(jV L).1⟩
def ya (L:List Int):Fu:=⟨[103],[[110]],[[105]],(jg L).1,(zcE L).1⟩
def zbk (L:List Int):List Ar:=[⟨[97],1+yn (zF L).1 4⟩,⟨[98],1+yn (w64 ((zF L).1.tdiv 4)) 4⟩]
def jA (l:List Int):Pr:=⟨zbk (l.take 60),[yH (l.take 60),ya (l.take 60)]⟩
structure ProgM (lo n:Nat) (H:Hp) (p:Pr) (ra rf:Nat) (x y:Int) (f g:Fu) (cf cg:List AV):Prop where
 ep:p=⟨[⟨[97],x⟩,⟨[98],y⟩],[f,g]⟩
 ga:H.get ra=some (.cells [.str [97],.int .i64 x,.str [98],.int .i64 y] 0 true)
 gf:H.get rf=some (.cells (cf++cg) 0 true)
 la:lo≤ra∧ra < H.next
 lf:lo≤rf∧rf < H.next
 ne:ra≠rf
 lcf:cf.length=9
 lcg:cg.length=9
 wf:ym (fun q=>lo≤q∧q≠ra∧q≠rf) n H cf f.cells
 wg:ym (fun q=>lo≤q∧q≠ra∧q≠rf) n H cg g.cells
theorem zhw {S:Nat→Prop}{n:Nat}{H:Hp} (nm:List UInt8) {p l b:AV}{v:List AV}{f:Fu} (hn:f.name=nm) (h1:RdW S (n+1) H p (je f.params)) (h2:RdW S (n+1) H l (je f.locals)) (h3:RdW S (n+1) H b (.lst (f.body.map St.cells))) (h4:ym S (n+1) H v f.value.cells):ym S (n+1) H ([.str nm,p,l,b]++v) f.cells:=by
 have e:f.cells=[.str f.name,je f.params,je f.locals,.lst (f.body.map St.cells)]++f.value.cells:=by rw[Ex.cells_eq];rfl
 rw[e,hn]
 exact(ym.cons (.str _) (.cons h1 (.cons h2 (.cons h3 .nil)))).append h4
theorem zhx {S:Nat→Prop}{n:Nat}{H:Hp}{r imm:Nat}{tip:Bool} (l:List (List UInt8)) (hS:S r) (hr:r < H.next) (hg:H.get r=some (.cells (l.map .str) imm tip)) (hi:imm≤l.length):RdW S (n+2) H (.sl r 0 l.length 1) (je l):=by
 have:=RdW.rows (n:=n+1) (a:=l.map fun s=>[AV.str s]) (z:=1) hS hr (by rw[zgh];exact hg) (by rw[zgh];simpa using hi) (zbS.strs l)
 rw[List.length_map]at this
 exact this
theorem bsI0 (H:Hp):zI Try.prog H 23 0 []=some (.sl H.next 0 0 1,H.alloc (.cells [] 0 true)):=by kernel_rfl
theorem bldRd (v:Nat) (n:Nat):yj Try.prog 77 [(0,.sl v 0 n 1)]=some (.agg [.sl v 0 n 1,.int .i64 0]):=by kernel_rfl
theorem bldAr (s:List UInt8) (n:Int):yj Try.prog 74 [(0,.str s),(1,.int .i64 n)]=some (.agg [.str s,.int .i64 n]):=by kernel_rfl
theorem bsA2 (H:Hp) (a b:List UInt8) (x y:Int):zI Try.prog H 32 2 [(0,.agg [.str a,.int .i64 x]),(1,.agg [.str b,.int .i64 y])]=some (.sl H.next 0 2 2,H.alloc (.cells [.str a,.int .i64 x,.str b,.int .i64 y] 0 true)):=by kernel_rfl
theorem bldP0 (r n:Nat):yj Try.prog 42 [(0,.sl r 0 n 2)]=some (.agg [.sl r 0 n 2,.nilS]):=by kernel_rfl
theorem bldFu (s:List UInt8) (r n q m:Nat):yj Try.prog 53 [(0,.str s),(1,.sl r 0 n 1),(2,.sl q 0 m 1)]=some (.agg [.str s,.sl r 0 n 1,.sl q 0 m 1,.nilS,.int .i64 0,.int .i64 0,.str [],.int .i64 0,.nilS]):=by kernel_rfl
theorem bsF2 (H:Hp) (a0 a1 a2 a3 a4 a5 a6 a7 a8 b0 b1 b2 b3 b4 b5 b6 b7 b8:AV):zI Try.prog H 40 2 [(0,.agg [a0,a1,a2,a3,a4,a5,a6,a7,a8]),(1,.agg [b0,b1,b2,b3,b4,b5,b6,b7,b8])]=some (.sl H.next 0 2 9,H.alloc (.cells [a0,a1,a2,a3,a4,a5,a6,a7,a8,b0,b1,b2,b3,b4,b5,b6,b7,b8] 0 true)):=by kernel_rfl
theorem bsS1' (H:Hp) (s:List UInt8):zI Try.prog H 47 1 [(0,.str s)]=some (.sl H.next 0 1 1,H.alloc (.cells [.str s] 0 true)):=by kernel_rfl
theorem zrH (a b:AV):yL 2 [a,b]=some (.agg [a,b]):=rfl
theorem zrI (l:List Int):(l.map fun n=>[AV.int .i64 n]).flatten=l.map fun n=>AV.int .i64 n:=by
 induction l with
 | nil=>rfl
 | cons a l ih=>simp only[List.map_cons,List.flatten_cons,ih];rfl
theorem zpA {H:Hp}{q:Nat} (l:List Int) (hg:H.get q=some (.cells [] 0 true)) (hq:q < H.next) (hl:l.length≤60) :
 ∃ v H',zX Try.prog false H 23 23 (.sl q 0 0 1) (.lst (l.map fun n=>[AV.int .i64 n]))=some (v,H')∧(∃ b imm,v=.sl b 0 l.length 1∧H'.get b=some (.cells (l.map fun n=>.int .i64 n) imm true)∧b < H'.next∧(b=q∨b=H.next))∧H.next≤H'.next∧∀ k,k < H.next→k≠q→H'.get k=H.get k:=by
 have hmr:zW=70368744177664:=rfl
 have hfl:(l.map fun n=>[AV.int .i64 n]).flatten=l.map fun n=>AV.int .i64 n:=zrI l
 have hx:yk H 1 (.lst (l.map fun n=>[AV.int .i64 n]))=some (l.length,l.map fun n=>AV.int .i64 n):=by
  have e:yk H 1 (.lst (l.map fun n=>[AV.int .i64 n]))=if ((l.map fun n=>[AV.int .i64 n]).all fun row=>row.length == 1)then some ((l.map fun n=>[AV.int .i64 n]).length,(l.map fun n=>[AV.int .i64 n]).flatten)else none:=rfl
  rw[e,if_pos (by simp),hfl,List.length_map]
 have hone:(l.map fun n=>AV.int .i64 n).all AV.one=true:=by simp[AV.one]
 cases l with
 | nil=> 
   refine⟨.sl q 0 0 1,H,?_,⟨q,0,rfl,hg,hq,.inl rfl⟩,Nat.le_refl _,fun _ _ _=>rfl⟩
   ·simp only[zX,Try.underlying23,sz3,bt3,zr3,show jh Try.prog 23=true by kernel_rfl,hx,List.length_nil]
 | cons a l=>
   simp only[List.length_cons]at hx hl
   have htr:zae false H 1 (.sl q 0 0 1)=H:=by
    unfold zae
    simp only[hg]
    rfl
   refine⟨.sl H.next 0 (0+(l.length+1)) 1,(H.kill q).alloc (.cells ([]++(a::l).map fun n=>.int .i64 n) (0 - 0) true),?_,⟨H.next,0,by simp,?_,Nat.lt_succ_self _,.inr rfl⟩,Nat.le_succ _,fun k hk hno=>?_⟩
   ·simp only[zX,Try.underlying23,sz3,bt3,zr3,show jh Try.prog 23=true by kernel_rfl,hx,hone,htr,and_self,if_true,List.length_cons,List.length_nil,yY,hg,Nat.zero_add,Nat.mul_one,List.drop_nil,Bool.false_eq_true,if_false]
    rw[if_pos ⟨by rw[hmr];omega,by rw[hmr];omega,by simp⟩]
   ·show((H.kill q).alloc _).get (H.kill q).next=_
    rw[za,if_pos rfl];simp
   ·rw[za,if_neg (by simp only[zY];omega),zR,if_neg hno]
theorem zlY (l:List Int):zaj Try.prog 23 (.lst (l.map fun n=>[AV.int .i64 n])) none (some (.int .i64 (min (l.length:Int) 60)))=some (.lst ((l.take 60).map fun n=>[AV.int .i64 n])):=by
 have e:min (l.length:Int) 60=((min l.length 60:Nat):Int):=by omega
 rw[e]
 simp only[zaj,Try.underlying23,sz3]
 show(if 0≤min l.length 60∧min l.length 60≤(l.map fun n=>[AV.int .i64 n]).length then _ else none)=_
 rw[if_pos ⟨Nat.zero_le _,by simp;omega⟩]
 have e2:((l.map fun n=>[AV.int .i64 n]).drop 0).take (min l.length 60 - 0)=(l.take 60).map fun n=>[AV.int .i64 n]:=by
  rw[List.drop_zero,Nat.sub_zero,← List.map_take,List.take_eq_take_iff.2]
  omega
 rw[e2]
 cases l.take 60 with
 | nil=>rfl
 | cons a l=>rfl
structure AtP (n0 M:Nat) (x y:Int) (H:Hp):Prop where
 lt:n0 < M∧M+8≤H.next
 rs:H.get n0=some (.cells [.nilS,.nilS] 0 true)
 ra:H.get (M+1)=some (.cells [.str [97],.int .i64 x,.str [98],.int .i64 y] 0 true)
 t5:H.get (M+2)=some (.cells [.sl (M+1) 0 2 2,.sl (M+7) 0 2 9] 0 true)
 p1:H.get (M+3)=some (.cells [.str [120],.str [121]] 0 true)
 l1:H.get (M+4)=some (.cells [.str [105],.str [106]] 0 true)
 p2:H.get (M+5)=some (.cells [.str [110]] 0 true)
 l2:H.get (M+6)=some (.cells [.str [105]] 0 true)
theorem AtP.keep {n0 M:Nat}{x y:Int}{H H':Hp} (h:AtP n0 M x y H) (hn:H.next≤H'.next) (hg:∀ q,(q=n0∨M+1≤q∧q < M+7)→H'.get q=H.get q):AtP n0 M x y H':=by
 obtain⟨⟨lt1,lt2⟩,rs,ra,t5,p1,l1,p2,l2⟩:=h
 exact⟨⟨lt1,by omega⟩,by rw[hg _ (.inl rfl)];exact rs,by rw[hg _ (by omega)];exact ra,by rw[hg _ (by omega)];exact t5,by rw[hg _ (by omega)];exact p1,by rw[hg _ (by omega)];exact l1,by rw[hg _ (by omega)];exact p2,by rw[hg _ (by omega)];exact l2⟩
set_option maxRecDepth 100000 in
theorem znl {lG:List En} (hG:GenL lG) (hst:StAll lG) (l:List Int) (hl:l.length < 2 ^ 63) (H:Hp) :
 zr Try.prog (zK pls lG) 14 [.lst (l.map fun n=>[AV.int .i64 n])] H fun v H'=>∃ ra rf x y cf cg,v=.agg [.sl ra 0 2 2,.sl rf 0 2 9]∧ProgM H.next 14 H' (jA l) ra rf x y (yH (l.take 60)) (ya (l.take 60)) cf cg∧H.next≤H'.next∧(∀ q,q < H.next→H'.get q=H.get q)∧H.next < ra∧∃ pt pf lf bf vf pg lg bg vg,cf=fnC [102] pf lf bf vf∧cg=fnC [103] pg lg bg vg∧ProgL pt 14 H' ra rf x y (yH (l.take 60)) (ya (l.take 60)) pf lf bf vf pg lg bg vg∧zbk (l.take 60)=[⟨[97],x⟩,⟨[98],y⟩]∧∀ q,q < H.next→pt q=0:=by
 have hw:Plain (zK pls lG) 14:=hG.plain (by rfl)
 have hkeep:(zK pls lG).keep 14=false:=rfl
 have hnx:Plain (zK pls lG) 27:=hG.plain (by rfl)
 have hs:=zlY l
 have hL60:(l.take 60).length≤60:=by rw[List.length_take];omega
 have hq4:(4:Int)≠0:=by decide
 have hgP:jA l=⟨zbk (l.take 60),[yH (l.take 60),ya (l.take 60)]⟩:=rfl
 generalize jA l=P0 at *
 refine zj (M:=61) (rs:=[.cell 2 42]) (hw.call _) hw.ice hw.froz Try.func14 rfl rfl code14.2 rfl ?_;dsimp only[code14,zO,Nat.reduceAdd]
 have gh0:=@bsI0
 repeat' (first
  | (apply Rx.nl ?_;clear hK K)|apply Rx.o ?_|apply Rx.on ?_|apply Wp.seq ?_|(apply zd fun K hK=>?_)|(apply zf 5 [(1,3),(1,6)] fun K hK=>?_)|(apply zf 6 [(1,3),(1,6)] fun K hK=>?_)|(apply zf 7 [(1,3),(1,6)] fun K hK=>?_)|(apply zf 8 [(1,3),(1,6)] fun K hK=>?_)|(apply zw ?_;try intro _)|(apply zx ?_ ?_<;>clear hK K)|apply WpT.step ?_|apply zo rfl ?_|apply Rx.rt ?_)
 generalize l.take 60=L at *
 have gq:((H.alloc (.cells [.nilS,.nilS] 0 true)).alloc (.cells [] 0 true)).get (H.next+1)=some (.cells [] 0 true):=by rw[za,if_pos (by rfl)]
 obtain⟨v,H2,a2,⟨b,imm,rfl,gb,hb,hb2⟩,n2,o2⟩:=zpA L gq (Nat.lt_succ_self _) hL60
 simp only[zb]at n2 o2 hb2
 refine WpL.append eV eV (by rw[hkeep];exact a2) ?_
 have gh0:=@bldRd
 repeat' (first
  | (apply Rx.nl ?_;clear hK K)|apply Rx.o ?_|apply Rx.on ?_|apply Wp.seq ?_|(apply zd fun K hK=>?_)|(apply zf 5 [(1,3),(1,6)] fun K hK=>?_)|(apply zf 6 [(1,3),(1,6)] fun K hK=>?_)|(apply zf 7 [(1,3),(1,6)] fun K hK=>?_)|(apply zf 8 [(1,3),(1,6)] fun K hK=>?_)|(apply zw ?_;try intro _)|(apply zx ?_ ?_<;>clear hK K)|apply WpT.step ?_|apply zo rfl ?_|apply Rx.rt ?_)
 have hrd3:zcl (H2.next+1) (H2.alloc (.cells [.sl b 0 L.length 1,.int .i64 0] 0 true)) H2.next L 0:=⟨Nat.lt_succ_self _,Nat.le_refl _,_,by rw[za,if_pos rfl],.inr ⟨b,0,_,imm,rfl,by rw[za,if_neg (by omega)];exact gb,rfl,by omega,by omega⟩⟩
 have g3:(H2.alloc (.cells [.sl b 0 L.length 1,.int .i64 0] 0 true)).get H.next=some (.cells [.nilS,.nilS] 0 true):=by rw[za,if_neg (by omega),o2 _ (by omega) (by omega),za,if_neg (by simp only[zb];omega),za,if_pos rfl]
 have o3:∀ q,q < H.next→(H2.alloc (.cells [.sl b 0 L.length 1,.int .i64 0] 0 true)).get q=H.get q:=fun q hq=>by rw[za,if_neg (by omega),o2 _ (by omega) (by omega),za,if_neg (by simp only[zb];omega),za,if_neg (by omega)]
 generalize hH3:H2.alloc (.cells [.sl b 0 L.length 1,.int .i64 0] 0 true)=H3 at *
 have n3:H3.next=H2.next+1:=by rw[← hH3];rfl
 clear hH3 gb hb hb2 a2 gq o2
 refine WpL.call rfl eVk eAk ?_;simp only[List.cons_append,List.nil_append,List.append_nil]
 refine zr.mono ?_ (zhr hnx hrd3 (by omega))
 rintro v H4 ⟨rfl,hr4,n4,o4⟩
 have g4:H4.get H.next=some (.cells [.nilS,.nilS] 0 true):=by rw[o4 _ (by omega)];exact g3
 have o4':∀ q,q < H.next→H4.get q=H.get q:=fun q hq=>by rw[o4 _ (by omega)];exact o3 q hq
 clear o4 o3 g3 hrd3
 have hL1:=yM L
 have hA:zbk L=[⟨[97],1+yn (zF L).1 4⟩,⟨[98],1+yn (w64 ((zF L).1.tdiv 4)) 4⟩]:=rfl
 have hp1:=yy (n:=(zF L).1) (m:=4) (by omega) (by omega)
 have hp2:=yy (n:=w64 ((zF L).1.tdiv 4)) (m:=4) (by omega) (by omega)
 have hB1:yD L=zad 0 4 0 5 ((zF L).2,0):=rfl
 have hV1:jV L=zD 0 4 1 (yD L).2.1:=rfl
 have hB2:jg L=zad 1 3 1 3 ((jV L).2,(yD L).2.2):=rfl
 have hV2:zcE L=zD 1 4 1 (jg L).2.1:=rfl
 have hF1:yH L=⟨[102],[[120],[121]],[[105],[106]],(yD L).1,(jV L).1⟩:=rfl
 have hF2:ya L=⟨[103],[[110]],[[105]],(jg L).1,(zcE L).1⟩:=rfl
 have hl1:(yD L).2.1.length≤(zF L).2.length:=by rw[hB1];exact Nat.le_trans (zd9 (zc3 0 4 0) _ _) (yM _)
 have hl2:(jV L).2.length≤(yD L).2.1.length:=zJ 0 4 1 _
 have hl3:(jg L).2.1.length≤(jV L).2.length:=by rw[hB2];exact Nat.le_trans (zd9 (zc3 1 3 1) _ _) (yM _)
 generalize yD L=B1 at *
 generalize jV L=V1 at *
 generalize jg L=B2 at *
 generalize zcE L=V2 at *
 generalize yH L=Ff at *
 generalize ya L=Fg at *
 generalize zbk L=Aa at *
 generalize (zF L).1=n at *
 generalize (zF L).2=L1 at *
 have hw1:IntKind.wrap .i64 (1+yn n 4)=1+yn n 4:=zaV (by omega) (by omega)
 have hw2:IntKind.wrap .i64 (1+yn (w64 (n.tdiv 4)) 4)=1+yn (w64 (n.tdiv 4)) 4:=zaV (by omega) (by omega)
 have hw3:IntKind.wrap .i64 (n.tdiv 4)=w64 (n.tdiv 4):=rfl
 dsimp only[zA]
 have gh0:=@bldAr
 have gh1:=@bsA2
 have gh2:=@bldP0
 have gh3:=@bsS1'
 have gh4:=@bldFu
 have gh5:=@bsF2
 repeat' (first
  | (apply Rx.nl ?_;clear hK K)|apply Rx.o ?_|apply Rx.on ?_|(apply Rx.call ?_;first|refine zaF (zeq hG.pick _ _ (by decide) _) ?_)|apply Wp.seq ?_|(apply zd fun K hK=>?_)|(apply zf 5 [(1,3),(1,6)] fun K hK=>?_)|(apply zf 6 [(1,3),(1,6)] fun K hK=>?_)|(apply zf 7 [(1,3),(1,6)] fun K hK=>?_)|(apply zf 8 [(1,3),(1,6)] fun K hK=>?_)|(apply zw ?_;try intro _)|(apply zx ?_ ?_<;>clear hK K)|apply WpT.step ?_|apply zo rfl ?_|apply Rx.rt ?_)
 generalize hx:1+yn n 4=x at *
 generalize hy:1+yn (w64 (n.tdiv 4)) 4=y at *
 rename_i H4
 have hne:∀ i,(H.next == H2.next+i)=false:=fun i=>zP (by omega)
 have hmn:H.next < H2.next:=by omega
 generalize hHs:Hp.set (Hp.alloc _ _) _ _=Hs
 have hat:AtP H.next H2.next x y Hs:=by
  rw[← hHs]
  refine⟨⟨hmn,by simp only[ze,zb];omega⟩,?_,?_,?_,?_,?_,?_,?_⟩
  ·repeat (first|rw[Hp.get_set,if_neg (by(try simp only[zb,ze]);omega)]|rw[za,if_neg (by(try simp only[zb,ze]);omega)])
   exact g4
  ·(repeat (first|rw[Hp.get_set,if_neg (by(try simp only[zb,ze]);omega)]|rw[za,if_neg (by(try simp only[zb,ze]);omega)]));(first|rw[Hp.get_set,if_pos (by first|rfl|((try simp only[zb,ze]);omega))]|rw[za,if_pos (by first|rfl|((try simp only[zb,ze]);omega))])
  ·(repeat (first|rw[Hp.get_set,if_neg (by(try simp only[zb,ze]);omega)]|rw[za,if_neg (by(try simp only[zb,ze]);omega)]));(first|rw[Hp.get_set,if_pos (by first|rfl|((try simp only[zb,ze]);omega))]|rw[za,if_pos (by first|rfl|((try simp only[zb,ze]);omega))])
  ·(repeat (first|rw[Hp.get_set,if_neg (by(try simp only[zb,ze]);omega)]|rw[za,if_neg (by(try simp only[zb,ze]);omega)]));(first|rw[Hp.get_set,if_pos (by first|rfl|((try simp only[zb,ze]);omega))]|rw[za,if_pos (by first|rfl|((try simp only[zb,ze]);omega))])
  ·(repeat (first|rw[Hp.get_set,if_neg (by(try simp only[zb,ze]);omega)]|rw[za,if_neg (by(try simp only[zb,ze]);omega)]));(first|rw[Hp.get_set,if_pos (by first|rfl|((try simp only[zb,ze]);omega))]|rw[za,if_pos (by first|rfl|((try simp only[zb,ze]);omega))])
  ·(repeat (first|rw[Hp.get_set,if_neg (by(try simp only[zb,ze]);omega)]|rw[za,if_neg (by(try simp only[zb,ze]);omega)]));(first|rw[Hp.get_set,if_pos (by first|rfl|((try simp only[zb,ze]);omega))]|rw[za,if_pos (by first|rfl|((try simp only[zb,ze]);omega))])
  ·(repeat (first|rw[Hp.get_set,if_neg (by(try simp only[zb,ze]);omega)]|rw[za,if_neg (by(try simp only[zb,ze]);omega)]));(first|rw[Hp.get_set,if_pos (by first|rfl|((try simp only[zb,ze]);omega))]|rw[za,if_pos (by first|rfl|((try simp only[zb,ze]);omega))])
 have gf:Hs.get (H2.next+7)=some (.cells [.str [102],.sl (H2.next+3) 0 2 1,.sl (H2.next+4) 0 2 1,.nilS,.int .i64 0,.int .i64 0,.str [],.int .i64 0,.nilS,.str [103],.sl (H2.next+5) 0 1 1,.sl (H2.next+6) 0 1 1,.nilS,.int .i64 0,.int .i64 0,.str [],.int .i64 0,.nilS] 0 true):=by
  rw[← hHs];(repeat (first|rw[Hp.get_set,if_neg (by(try simp only[zb,ze]);omega)]|rw[za,if_neg (by(try simp only[zb,ze]);omega)]));(first|rw[Hp.get_set,if_pos (by first|rfl|((try simp only[zb,ze]);omega))]|rw[za,if_pos (by first|rfl|((try simp only[zb,ze]);omega))])
 have olds:∀ q,q < H2.next+1→Hs.get q=H4.get q:=fun q hq=>by
  rw[← hHs]
  repeat (first|rw[Hp.get_set,if_neg (by omega)]|rw[za,if_neg (by(try simp only[zb,ze]);omega)])
 have hns:Hs.next=H2.next+8:=by rw[← hHs];simp only[ze,zb];omega
 have hrs:zcl (H2.next+1) Hs H2.next L1 0:=hr4.keep (by omega) olds
 have os:∀ q,q < H.next→Hs.get q=H.get q:=fun q hq=>by rw[olds q (by omega)];exact o4' q hq
 clear olds hHs hr4 g4 o4'
 have h02:(0:Nat) < 2:=by decide
 have h12:(1:Nat) < 2:=by decide
 refine WpL.call rfl eVk eAk ?_;simp only[List.cons_append,List.nil_append,List.append_nil]
 refine zr.mono ?_ (zea hG (hst 0 4 0 (by omega) (by omega)) 5 (by omega) (by omega) (H2.next+1) Hs H2.next (L1,0) hrs (by simp only[];omega))
 rintro v1 H5 ⟨hrow1,hr5,n5,o5⟩
 rw[← hB1]at hrow1 hr5
 obtain⟨t1,t2⟩:=hrow1.one
 have hat5:=hat.keep n5 fun q hq=>o5 q (by omega) (by omega)
 have g5t:=hat5.t5
 have g5f:H5.get (H2.next+7)=some (.cells [.str [102],.sl (H2.next+3) 0 2 1,.sl (H2.next+4) 0 2 1,.nilS,.int .i64 0,.int .i64 0,.str [],.int .i64 0,.nilS,.str [103],.sl (H2.next+5) 0 1 1,.sl (H2.next+6) 0 1 1,.nilS,.int .i64 0,.int .i64 0,.str [],.int .i64 0,.nilS] 0 true):=by rw[o5 _ (by omega) (by omega)];exact gf
 have gst:=hat.t5
 dsimp only[zA]
 repeat' (first
  | (apply Rx.nl ?_;clear hK K)|apply Ry.o ?_|apply Ry.on ?_|apply Wp.seq ?_|(apply zd fun K hK=>?_)|(apply zf 5 [(1,3),(1,6)] fun K hK=>?_)|(apply zf 6 [(1,3),(1,6)] fun K hK=>?_)|(apply zf 7 [(1,3),(1,6)] fun K hK=>?_)|(apply zf 8 [(1,3),(1,6)] fun K hK=>?_)|(apply zw ?_;try intro _)|(apply zx ?_ ?_<;>clear hK K)|apply WpT.step ?_|apply zo rfl ?_|apply Rx.rt ?_)
 ·exact eK
 have n5':=n5
 generalize hHa:Hp.set H5 (H2.next+7) _=Ha
 have nHa:Ha.next=H5.next:=by rw[← hHa];rfl
 have oHa:∀ q,q≠H2.next+7→Ha.get q=H5.get q:=fun q hq=>by rw[← hHa,Hp.get_set,if_neg hq]
 have gfHa:Ha.get (H2.next+7)=some (.cells [.str [102],.sl (H2.next+3) 0 2 1,.sl (H2.next+4) 0 2 1,v1,.int .i64 0,.int .i64 0,.str [],.int .i64 0,.nilS,.str [103],.sl (H2.next+5) 0 1 1,.sl (H2.next+6) 0 1 1,.nilS,.int .i64 0,.int .i64 0,.str [],.int .i64 0,.nilS] 0 true):=by rw[← hHa,Hp.get_set,if_pos rfl]
 clear hHa
 have hatHa:=hat5.keep (Nat.le_of_eq nHa.symm) fun q hq=>oHa q (by omega)
 have gtHa:=hatHa.t5
 have hrHa:=hr5.keep (Nat.le_of_eq nHa.symm) fun q hq=>oHa q (by omega)
 have hMl:=hat.lt
 repeat' (first
  | (apply Rx.nl ?_;clear hK K)|apply Ry.o ?_|apply Ry.on ?_|apply Wp.seq ?_|(apply zd fun K hK=>?_)|(apply zf 5 [(1,3),(1,6)] fun K hK=>?_)|(apply zf 6 [(1,3),(1,6)] fun K hK=>?_)|(apply zf 7 [(1,3),(1,6)] fun K hK=>?_)|(apply zf 8 [(1,3),(1,6)] fun K hK=>?_)|(apply zw ?_;try intro _)|(apply zx ?_ ?_<;>clear hK K)|apply WpT.step ?_|apply zo rfl ?_|apply Rx.rt ?_)
 refine WpL.call rfl eVk eAk ?_;simp only[List.cons_append,List.nil_append,List.append_nil]
 refine zr.mono ?_ (js hG 4 0 1 (by omega) (by omega) (H2.next+1) Ha H2.next _ _ hrHa (by omega))
 rintro _ H6 ⟨⟨cs,rfl,hc1,hc2,hc3⟩,hrH6,nH6,oH6⟩
 rw[← hV1]at hc3 hrH6
 obtain⟨p0,p1,p2,p3,p4,rfl⟩:=zcJ hc1
 obtain⟨u0,u1,u2,u3,u4⟩:=zi9 hc2
 have hatH6:=hatHa.keep nH6 fun q hq=>oH6 q (by omega) (by omega)
 have gtH6:=hatH6.t5
 have gfH6:H6.get (H2.next+7)=some (.cells [.str [102],.sl (H2.next+3) 0 2 1,.sl (H2.next+4) 0 2 1,v1,.int .i64 0,.int .i64 0,.str [],.int .i64 0,.nilS,.str [103],.sl (H2.next+5) 0 1 1,.sl (H2.next+6) 0 1 1,.nilS,.int .i64 0,.int .i64 0,.str [],.int .i64 0,.nilS] 0 true):=by rw[oH6 _ (by omega) (by omega)];exact gfHa
 dsimp only[zA]
 repeat' (first
  | (apply Rx.nl ?_;clear hK K)|apply Ry.o ?_|apply Ry.on ?_|apply Wp.seq ?_|(apply zd fun K hK=>?_)|(apply zf 5 [(1,3),(1,6)] fun K hK=>?_)|(apply zf 6 [(1,3),(1,6)] fun K hK=>?_)|(apply zf 7 [(1,3),(1,6)] fun K hK=>?_)|(apply zf 8 [(1,3),(1,6)] fun K hK=>?_)|(apply zw ?_;try intro _)|(apply zx ?_ ?_<;>clear hK K)|apply WpT.step ?_|apply zo rfl ?_|apply Rx.rt ?_)
 ·exact eK
 generalize hHa:Hp.set H6 (H2.next+7) _=Hb
 have nHb:Hb.next=H6.next:=by rw[← hHa];rfl
 have oHb:∀ q,q≠H2.next+7→Hb.get q=H6.get q:=fun q hq=>by rw[← hHa,Hp.get_set,if_neg hq]
 have gfHb:Hb.get (H2.next+7)=some (.cells [.str [102],.sl (H2.next+3) 0 2 1,.sl (H2.next+4) 0 2 1,v1,p0,p1,p2,p3,p4,.str [103],.sl (H2.next+5) 0 1 1,.sl (H2.next+6) 0 1 1,.nilS,.int .i64 0,.int .i64 0,.str [],.int .i64 0,.nilS] 0 true):=by rw[← hHa,Hp.get_set,if_pos rfl]
 clear hHa
 have hatHb:=hatH6.keep (Nat.le_of_eq nHb.symm) fun q hq=>oHb q (by omega)
 have gtHb:=hatHb.t5
 have hrHb:=hrH6.keep (Nat.le_of_eq nHb.symm) fun q hq=>oHb q (by omega)
 repeat' (first
  | (apply Rx.nl ?_;clear hK K)|apply Ry.o ?_|apply Ry.on ?_|apply Wp.seq ?_|(apply zd fun K hK=>?_)|(apply zf 5 [(1,3),(1,6)] fun K hK=>?_)|(apply zf 6 [(1,3),(1,6)] fun K hK=>?_)|(apply zf 7 [(1,3),(1,6)] fun K hK=>?_)|(apply zf 8 [(1,3),(1,6)] fun K hK=>?_)|(apply zw ?_;try intro _)|(apply zx ?_ ?_<;>clear hK K)|apply WpT.step ?_|apply zo rfl ?_|apply Rx.rt ?_)
 refine WpL.call rfl eVk eAk ?_;simp only[List.cons_append,List.nil_append,List.append_nil]
 refine zr.mono ?_ (zea hG (hst 1 3 1 (by omega) (by omega)) 3 (by omega) (by omega) (H2.next+1) Hb H2.next (V1.2,B1.2.2) hrHb (by simp only[];omega))
 rintro v2 H7 ⟨hrow2,hrH7,nH7,oH7⟩
 rw[← hB2]at hrow2 hrH7
 obtain⟨s1,s2⟩:=hrow2.one
 have hatH7:=hatHb.keep nH7 fun q hq=>oH7 q (by omega) (by omega)
 have gtH7:=hatH7.t5
 have gfH7:H7.get (H2.next+7)=some (.cells [.str [102],.sl (H2.next+3) 0 2 1,.sl (H2.next+4) 0 2 1,v1,p0,p1,p2,p3,p4,.str [103],.sl (H2.next+5) 0 1 1,.sl (H2.next+6) 0 1 1,.nilS,.int .i64 0,.int .i64 0,.str [],.int .i64 0,.nilS] 0 true):=by rw[oH7 _ (by omega) (by omega)];exact gfHb
 dsimp only[zA]
 repeat' (first
  | (apply Rx.nl ?_;clear hK K)|apply Ry.o ?_|apply Ry.on ?_|apply Wp.seq ?_|(apply zd fun K hK=>?_)|(apply zf 5 [(1,3),(1,6)] fun K hK=>?_)|(apply zf 6 [(1,3),(1,6)] fun K hK=>?_)|(apply zf 7 [(1,3),(1,6)] fun K hK=>?_)|(apply zf 8 [(1,3),(1,6)] fun K hK=>?_)|(apply zw ?_;try intro _)|(apply zx ?_ ?_<;>clear hK K)|apply WpT.step ?_|apply zo rfl ?_|apply Rx.rt ?_)
 ·exact eK
 generalize hHa:Hp.set H7 (H2.next+7) _=Hc
 have nHc:Hc.next=H7.next:=by rw[← hHa];rfl
 have oHc:∀ q,q≠H2.next+7→Hc.get q=H7.get q:=fun q hq=>by rw[← hHa,Hp.get_set,if_neg hq]
 have gfHc:Hc.get (H2.next+7)=some (.cells [.str [102],.sl (H2.next+3) 0 2 1,.sl (H2.next+4) 0 2 1,v1,p0,p1,p2,p3,p4,.str [103],.sl (H2.next+5) 0 1 1,.sl (H2.next+6) 0 1 1,v2,.int .i64 0,.int .i64 0,.str [],.int .i64 0,.nilS] 0 true):=by rw[← hHa,Hp.get_set,if_pos rfl]
 clear hHa
 have hatHc:=hatH7.keep (Nat.le_of_eq nHc.symm) fun q hq=>oHc q (by omega)
 have gtHc:=hatHc.t5
 have hrHc:=hrH7.keep (Nat.le_of_eq nHc.symm) fun q hq=>oHc q (by omega)
 repeat' (first
  | (apply Rx.nl ?_;clear hK K)|apply Ry.o ?_|apply Ry.on ?_|apply Wp.seq ?_|(apply zd fun K hK=>?_)|(apply zf 5 [(1,3),(1,6)] fun K hK=>?_)|(apply zf 6 [(1,3),(1,6)] fun K hK=>?_)|(apply zf 7 [(1,3),(1,6)] fun K hK=>?_)|(apply zf 8 [(1,3),(1,6)] fun K hK=>?_)|(apply zw ?_;try intro _)|(apply zx ?_ ?_<;>clear hK K)|apply WpT.step ?_|apply zo rfl ?_|apply Rx.rt ?_)
 refine WpL.call rfl eVk eAk ?_;simp only[List.cons_append,List.nil_append,List.append_nil]
 refine zr.mono ?_ (js hG 4 1 1 (by omega) (by omega) (H2.next+1) Hc H2.next _ _ hrHc (by omega))
 rintro _ H8 ⟨⟨ds,rfl,hd1,hd2,hd3⟩,hrH8,nH8,oH8⟩
 rw[← hV2]at hd3 hrH8
 obtain⟨w0,w1,w2,w3,w4,rfl⟩:=zcJ hd1
 obtain⟨z0,z1,z2,z3,z4⟩:=zi9 hd2
 have hatH8:=hatHc.keep nH8 fun q hq=>oH8 q (by omega) (by omega)
 have gtH8:=hatH8.t5
 have gfH8:H8.get (H2.next+7)=some (.cells [.str [102],.sl (H2.next+3) 0 2 1,.sl (H2.next+4) 0 2 1,v1,p0,p1,p2,p3,p4,.str [103],.sl (H2.next+5) 0 1 1,.sl (H2.next+6) 0 1 1,v2,.int .i64 0,.int .i64 0,.str [],.int .i64 0,.nilS] 0 true):=by rw[oH8 _ (by omega) (by omega)];exact gfHc
 dsimp only[zA]
 repeat' (first
  | (apply Rx.nl ?_;clear hK K)|apply Ry.o ?_|apply Ry.on ?_|apply Wp.seq ?_|(apply zd fun K hK=>?_)|(apply zf 5 [(1,3),(1,6)] fun K hK=>?_)|(apply zf 6 [(1,3),(1,6)] fun K hK=>?_)|(apply zf 7 [(1,3),(1,6)] fun K hK=>?_)|(apply zf 8 [(1,3),(1,6)] fun K hK=>?_)|(apply zw ?_;try intro _)|(apply zx ?_ ?_<;>clear hK K)|apply WpT.step ?_|apply zo rfl ?_|apply Rx.rt ?_)
 ·exact eK
 generalize hHa:Hp.set H8 (H2.next+7) _=Hd
 have nHd:Hd.next=H8.next:=by rw[← hHa];rfl
 have oHd:∀ q,q≠H2.next+7→Hd.get q=H8.get q:=fun q hq=>by rw[← hHa,Hp.get_set,if_neg hq]
 have gfHd:Hd.get (H2.next+7)=some (.cells [.str [102],.sl (H2.next+3) 0 2 1,.sl (H2.next+4) 0 2 1,v1,p0,p1,p2,p3,p4,.str [103],.sl (H2.next+5) 0 1 1,.sl (H2.next+6) 0 1 1,v2,w0,w1,w2,w3,w4] 0 true):=by rw[← hHa,Hp.get_set,if_pos rfl]
 clear hHa
 have hatHd:=hatH8.keep (Nat.le_of_eq nHd.symm) fun q hq=>oHd q (by omega)
 have gtHd:=hatHd.t5
 have hrHd:=hrH8.keep (Nat.le_of_eq nHd.symm) fun q hq=>oHd q (by omega)
 have gr:=hatHd.rs
 have e1:(H2.next+2 == H.next)=false:=zP (by omega)
 have gh0:=@zrH
 repeat' (first
  | (apply Rx.nl ?_;clear hK K)|apply Rx.o ?_|apply Rx.on ?_|apply Wp.seq ?_|(apply zd fun K hK=>?_)|(apply zf 5 [(1,3),(1,6)] fun K hK=>?_)|(apply zf 6 [(1,3),(1,6)] fun K hK=>?_)|(apply zf 7 [(1,3),(1,6)] fun K hK=>?_)|(apply zf 8 [(1,3),(1,6)] fun K hK=>?_)|(apply zw ?_;try intro _)|(apply zx ?_ ?_<;>clear hK K)|apply WpT.step ?_|apply zo rfl ?_|apply Rx.rt ?_)
 refine⟨eI,_,(by(try simp only[sB,sO,Nat.reduceBEq,Nat.reduceAdd,Nat.reduceLeDiff,tyF,zQ,yb,zrH, *]);first|done|with_reducible rfl),?_⟩;try simp only[zp]
 have old:∀ q,q < H.next→((Hd.set H.next (.cells [.sl (H2.next+1) 0 2 2,.sl (H2.next+7) 0 2 9] 0 true)).get q=H.get q):=fun q hq=>by
  rw[Hp.get_set,if_neg (by omega),oHd _ (by omega),oH8 _ (by omega) (by omega),oHc _ (by omega),oH7 _ (by omega) (by omega),oHb _ (by omega),oH6 _ (by omega) (by omega),oHa _ (by omega),o5 _ (by omega) (by omega)]
  exact os q hq
 have hz:=hatHd.keep (H':=Hd.set H.next (.cells [.sl (H2.next+1) 0 2 2,.sl (H2.next+7) 0 2 9] 0 true)) (Nat.le_refl _)
 refine⟨H2.next+1,H2.next+7,x,y,[.str [102],.sl (H2.next+3) 0 2 1,.sl (H2.next+4) 0 2 1,v1,p0,p1,p2,p3,p4],[.str [103],.sl (H2.next+5) 0 1 1,.sl (H2.next+6) 0 1 1,v2,w0,w1,w2,w3,w4],rfl,?_,by simp only[ze];omega,old,by omega,zeA H2.next H5.next H6.next H7.next,.sl (H2.next+3) 0 2 1,.sl (H2.next+4) 0 2 1,v1,[p0,p1,p2,p3,p4],.sl (H2.next+5) 0 1 1,.sl (H2.next+6) 0 1 1,v2,[w0,w1,w2,w3,w4],rfl,rfl,?_,hA,fun q hq=>by unfold zeA;rw[if_pos (by omega)]⟩
 all_goals
  have gz:∀ q,q≠H.next→(Hd.set H.next (.cells [.sl (H2.next+1) 0 2 2,.sl (H2.next+7) 0 2 9] 0 true)).get q=Hd.get q:=fun q hq=>by rw[Hp.get_set,if_neg hq]
  have nz:(Hd.set H.next (.cells [.sl (H2.next+1) 0 2 2,.sl (H2.next+7) 0 2 9] 0 true)).next=Hd.next:=rfl
  generalize (Hd.set H.next (.cells [.sl (H2.next+1) 0 2 2,.sl (H2.next+7) 0 2 9] 0 true))=Hz at *
  have hl:=hatHd.lt
 ·refine⟨by rw[hgP,hA],by rw[gz _ (by omega)];exact hatHd.ra,by rw[gz _ (by omega)];exact gfHd,⟨by omega,by omega⟩,⟨by omega,by omega⟩,by omega,rfl,rfl,?_,?_⟩
  ·rw[hF1]
   refine zhw (n:=13) [102] rfl (zhx (n:=12) (imm:=0) (tip:=true) [[120],[121]] ⟨by omega,by omega,by omega⟩ (by omega) (by rw[gz _ (by omega)];exact hatHd.p1) (by simp)) (zhx (n:=12) (imm:=0) (tip:=true) [[105],[106]] ⟨by omega,by omega,by omega⟩ (by omega) (by rw[gz _ (by omega)];exact hatHd.l1) (by simp)) ?_ ?_
   ·exact(hrow1.keep (fun q _ hq=>⟨by omega,by omega,by omega⟩) (by omega) fun q h1 h2=>by rw[gz _ (by omega),oHd _ (by omega),oH8 _ (by omega) (by omega),oHc _ (by omega),oH7 _ (by omega) (by omega),oHb _ (by omega),oH6 _ (by omega) (by omega),oHa _ (by omega)]).rd.up (by omega)
   ·exact(hc3.up (by omega)).keep2 (fun q _ hq=>⟨by omega,by omega,by omega⟩) (by omega) fun q h1 h2=>by rw[gz _ (by omega),oHd _ (by omega),oH8 _ (by omega) (by omega),oHc _ (by omega),oH7 _ (by omega) (by omega),oHb _ (by omega)]
  ·rw[hF2]
   refine zhw (n:=13) [103] rfl (zhx (n:=12) (imm:=0) (tip:=true) [[110]] ⟨by omega,by omega,by omega⟩ (by omega) (by rw[gz _ (by omega)];exact hatHd.p2) (by simp)) (zhx (n:=12) (imm:=0) (tip:=true) [[105]] ⟨by omega,by omega,by omega⟩ (by omega) (by rw[gz _ (by omega)];exact hatHd.l2) (by simp)) ?_ ?_
   ·exact(hrow2.keep (fun q _ hq=>⟨by omega,by omega,by omega⟩) (by omega) fun q h1 h2=>by rw[gz _ (by omega),oHd _ (by omega),oH8 _ (by omega) (by omega),oHc _ (by omega)]).rd.up (by omega)
   ·exact(hd3.up (by omega)).keep2 (fun q _ hq=>⟨by omega,by omega,by omega⟩) (by omega) fun q h1 h2=>by rw[gz _ (by omega),oHd _ (by omega)]
 ·have ls:=hat.lt
  refine⟨by rw[gz _ (by omega)];exact hatHd.ra,by rw[gz _ (by omega),gfHd,hF1,hF2];rfl,by omega,by omega,by simp[zeA],by simp[zeA],⟨hc1,hc2,?_,?_,?_,?_⟩,⟨hd1,hd2,?_,?_,?_,?_⟩⟩
  ·rw[hF1];exact zfN (n:=13) [[120],[121]] (by simp[zeA]) (by omega) (by rw[gz _ (by omega)];exact hatHd.p1)
  ·rw[hF1];exact zfN (n:=13) [[105],[106]] (by simp[zeA]) (by omega) (by rw[gz _ (by omega)];exact hatHd.l1)
  ·rw[hF1];exact(hrow1.keep (fun q h1 h2=>labP5 (by omega) h1) (by omega) fun q h1 h2=>by rw[gz _ (by omega),oHd _ (by omega),oH8 _ (by omega) (by omega),oHc _ (by omega),oH7 _ (by omega) (by omega),oHb _ (by omega),oH6 _ (by omega) (by omega),oHa _ (by omega)]).up (by omega)
  ·rw[hF1];exact(hc3.up (by omega)).keep2 (fun q h1 h2=>labP6 (by omega) (by omega) h1) (by omega) fun q h1 h2=>by rw[gz _ (by omega),oHd _ (by omega),oH8 _ (by omega) (by omega),oHc _ (by omega),oH7 _ (by omega) (by omega),oHb _ (by omega)]
  ·rw[hF2];exact zfN (n:=13) [[110]] (by simp[zeA]) (by omega) (by rw[gz _ (by omega)];exact hatHd.p2)
  ·rw[hF2];exact zfN (n:=13) [[105]] (by simp[zeA]) (by omega) (by rw[gz _ (by omega)];exact hatHd.l2)
  ·rw[hF2];exact(hrow2.keep (fun q h1 h2=>labP9 (by omega) (by omega) (by omega) h1) (by omega) fun q h1 h2=>by rw[gz _ (by omega),oHd _ (by omega),oH8 _ (by omega) (by omega),oHc _ (by omega)]).up (by omega)
  ·rw[hF2];exact(hd3.up (by omega)).keep2 (fun q h1 h2=>labP10 (by omega) (by omega) (by omega) (by omega)) (by omega) fun q h1 h2=>by rw[gz _ (by omega),oHd _ (by omega)]
end Go.Proofs.Ytpbcimfiofmoeaa
namespace Go.Proofs.Ytpbcimfiofmoeaa
set_option maxRecDepth 20000
open Go Go.Ab
def anG:List (List UInt8):=[[97],[98]]
theorem zrJ (f:Int) {m:Int} (h:0≤m):(yB f).getD (m.tmod (yB f).length).toNat []∈yB f:=by
 have hl:((yB f).length:Int)≠0:=by unfold yB;split<;>simp
 have:=(zah (yB f) hl h []).2
 exact List.mem_of_getElem? this
theorem zrK (f:Int) {s:List UInt8} (h:s∈yB f):yx s=true∧yz (yB f) s=true:=by
 unfold yB at h ⊢
 split at h<;>simp only[List.mem_cons,List.not_mem_nil,or_false]at h
 ·rename_i e
  rw[if_pos e]
  rcases h with rfl|rfl|rfl|rfl<;>exact⟨by kernel_rfl,by kernel_rfl⟩
 ·rename_i e
  rw[if_neg e]
  rcases h with rfl|rfl<;>exact⟨by kernel_rfl,by kernel_rfl⟩
theorem zrL (m:Int):yx (zkn m)=true∧yz anG (zkn m)=true:=by
 unfold zkn
 split<;>exact⟨by kernel_rfl,by kernel_rfl⟩
theorem fg_ok (m:Int):yx (fgG m)=true:=by
 unfold fgG
 split<;>kernel_rfl
structure ExOk (f:Int) (k:Nat) (x:Ex):Prop where
 wf:wfE x=true
 df:zap (yB f) anG x=true
 dp:yN x≤k
theorem zaN (f:Int):∀ (k deep:Nat) (L:List Int),5≤deep+k→deep≤4→ExOk f k (zD f k deep L).1
 | 0,deep,L,h1,h2=>by omega
 | k+1,deep,L,h1,h2=>by
   have ih:deep≤3→∀ L,ExOk f k (zD f k (deep+1) L).1:=fun hd L=>zaN f k (deep+1) L (by omega) (by omega)
   have hq:=yy (n:=(zF L).1) (m:=16) (by omega) (by omega)
   have hm:=yy (n:=w64 ((zF L).1.tdiv 16)) (m:=1000) (by omega) (by omega)
   simp only[zD]
   generalize yn (zF L).1 16=q at hq ⊢
   generalize yn (w64 ((zF L).1.tdiv 16)) 1000=m at hm ⊢
   split
   ·split
    ·obtain⟨n1,n2⟩:=zrK f (zrJ f hm.1)
     generalize (yB f).getD (m.tmod (yB f).length).toNat []=nm at n1 n2 ⊢
     refine⟨?_,?_,by simp[yN,za5]⟩
     ·simp[wfE,zaJ,wfX,Ex.kind,Ex.kids,Ex.n,Ex.op,Ex.name,n1]
     ·simp[zap,jR,zck,Ex.kind,Ex.name,n2]
    ·exact⟨by simp[wfE,zaJ,wfX,Ex.kind,Ex.kids,Ex.n,Ex.op,Ex.name],by simp[zap,jR,zck,Ex.kind,Ex.name],by simp[yN,za5]⟩
   ·rename_i hn
    have hd:deep≤3:=by omega
    have ih:=ih hd
    obtain⟨a1,a2⟩:=zrL m
    split
    ·have i1:=ih (zF L).2
     refine⟨?_,?_,?_⟩
     ·simp[wfE,zaJ,wfX,Ex.kind,Ex.kids,Ex.n,Ex.op,Ex.name,a1,i1.wf]
     ·simp[zap,jR,zck,Ex.kind,Ex.name,a2,i1.df]
     ·have:=i1.dp;simp only[yN,za5];omega
    ·split
     ·have i1:=ih (zF L).2
      have i2:=ih (zD f k (deep+1) (zF L).2).2
      have i3:=ih (zD f k (deep+1) (zD f k (deep+1) (zF L).2).2).2
      refine⟨?_,?_,?_⟩
      ·simp[wfE,zaJ,wfX,Ex.kind,Ex.kids,Ex.n,Ex.op,Ex.name,i1.wf,i2.wf,i3.wf]
      ·simp[zap,jR,zck,Ex.kind,Ex.name,i1.df,i2.df,i3.df]
      ·have:=i1.dp;have:=i2.dp;have:=i3.dp;simp only[yN,za5];omega
     ·split
      ·have i1:=ih (zF L).2
       have ho:op2G m=20∨op2G m=21:=by unfold op2G;split<;>simp
       refine⟨?_,?_,?_⟩
       ·rcases ho with ho|ho<;>simp[wfE,zaJ,wfX,Ex.kind,Ex.kids,Ex.n,Ex.op,Ex.name,i1.wf,ho]
       ·simp[zap,jR,zck,Ex.kind,Ex.name,i1.df]
       ·have:=i1.dp;simp only[yN,za5];omega
      ·have i1:=ih (zF L).2
       have i2:=ih (zD f k (deep+1) (zF L).2).2
       have t1:=Int.tmod_nonneg 15 hm.1
       have t2:=Int.tmod_lt_of_pos m (show(0:Int) < 15 by omega)
       have ho:zdm (w64 (4+m.tmod 15))=true:=by
        unfold w64;rw[zaV (by omega) (by omega)]
        simp only[zdm,Bool.and_eq_true,decide_eq_true_eq];omega
       refine⟨?_,?_,?_⟩
       ·simp[wfE,zaJ,wfX,Ex.kind,Ex.kids,Ex.n,Ex.op,Ex.name,i1.wf,i2.wf,ho]
       ·simp[zap,jR,zck,Ex.kind,Ex.name,i1.df,i2.df]
       ·have:=i1.dp;have:=i2.dp;simp only[yN,za5];omega
theorem zlZ (f:Int):∀ (n:Nat) (L:List Int),zaJ (jI f n L).1=true∧jR (yB f) anG (jI f n L).1=true∧((jI f n L).1.any fun e=>decide ((20:Int) < yN e))=false∧(jI f n L).1.length=n
 | 0,_=>⟨rfl,rfl,rfl,rfl⟩
 | n+1,L=>by
   obtain⟨h1,h2,h3,h4⟩:=zlZ f n (zD f 3 2 L).2
   have h:=zaN f 3 2 L (by omega) (by omega)
   have hd:¬ (20:Int) < yN (zD f 3 2 L).1:=by have:=h.dp;omega
   refine⟨?_,?_,?_,?_⟩
   ·rw[jI,zaJ,h.wf,h1];rfl
   ·rw[jI,jR,h.df,h2];rfl
   ·rw[jI,List.any_cons,h3,decide_eq_false hd];rfl
   ·rw[jI,List.length_cons,h4]
structure ScG (f:Int) (c:Sc):Prop where
 vars:c.vars=yB f
 an:c.an=anG
 to:∀ m:Int,0≤m→0≤yw c.p.funcs (fgG m) 0∧((2 - m.tmod 2).toNat=zi6 c.p (fgG m))
structure StOk (c:Sc) (k:Nat) (s:Sd) (x:St) (t:Sd):Prop where
 wf:zey x=true
 df:zbz c false x=true
 ar:zbz c true x=true
 dp:zbP x=false
 n:n1 x+t.1.length≤s.1.length
 w:(w1 x:Int)+s.2=t.2
 wb:t.2≤10
 m:∀ d,m1 x d≤d+k
structure StsOk (c:Sc) (k:Nat) (s:Sd) (l:List St) (t:Sd):Prop where
 wf:zaW l=true
 df:jr c false l=true
 ar:jr c true l=true
 dp:yX l=false
 n:nS l+t.1.length≤s.1.length
 w:(wS l:Int)+s.2=t.2
 wb:t.2≤10
 m:∀ d,mS l d≤d+k
theorem zkt {c:Sc}{k:Nat}{step:Sd→St×Sd} (h:∀ s:Sd,s.1≠[]→0≤s.2→s.2≤10→StOk c k s (step s).1 (step s).2):∀ (n:Nat) (s:Sd),0≤s.2→s.2≤10→StsOk c k s (zaY step n s).1 (zaY step n s).2
 | 0,s,h0,h1=>⟨rfl,rfl,rfl,rfl,by simp[zaY,nS],by simp[zaY,wS],h1,fun d=>by simp[zaY,mS]⟩
 | n+1,s,h0,h1=>by
   rw[zaY]
   by_cases hs:s.1=[]
   ·rw[if_pos hs]
    exact⟨rfl,rfl,rfl,rfl,by simp[nS],by simp[wS],h1,fun d=>by simp[mS]⟩
   ·rw[if_neg hs]
    have a:=h s hs h0 h1
    have aw:=a.w
    have b:=zkt h n (step s).2 (by omega) a.wb
    have bw:=b.w
    have an:=a.n
    have bn:=b.n
    refine⟨?_,?_,?_,?_,?_,?_,b.wb,fun d=>?_⟩
    ·simp only[zaW,a.wf,b.wf];rfl
    ·simp only[jr,a.df,b.df];rfl
    ·simp only[jr,a.ar,b.ar];rfl
    ·simp only[yX,a.dp,b.dp];rfl
    ·simp only[nS];omega
    ·simp only[wS];omega
    ·have:=a.m d;have:=b.m d
     simp only[mS];omega
theorem zE_ok (f:Int):zeroE zE=true∧zap (yB f) anG zE=true∧yN zE=0:=⟨by simp[zeroE,zE,Ex.kind,Ex.n,Ex.op,Ex.name,Ex.kids],by simp[zE,zap,jR,zck,Ex.kind],by simp[zE,yN,za5]⟩
theorem zrM {f:Int}{c:Sc} (hc:ScG f c) {k:Nat}{sub:Int→Sd→List St×Sd}{s:Sd}{L1:List Int}{q m:Int} (hL:L1.length < s.1.length) (hm:0≤m) (hm1:m < 1000) (h0:0≤s.2) (h1:s.2≤10) (hq:10≤q→s.2 < 10) (hq0:0≤q)
 (hs:8≤q→q < 12→1≤k∧∀ (most:Int) (s:Sd),0≤s.2→s.2≤10→StsOk c (k - 1) s (sub most s).1 (sub most s).2):StOk c k s (jF sub f L1 s.2 q m).1 (jF sub f L1 s.2 q m).2:=by
 obtain⟨z1,z2,z3⟩:=zE_ok f
 obtain⟨n1',n2'⟩:=zrK f (zrJ f hm)
 obtain⟨a1,a2⟩:=zrL m
 have g1:=fg_ok m
 obtain⟨g2,g3⟩:=hc.to m hm
 have e50:=zaN f 5 0 L1 (by omega) (by omega)
 have e32:=zaN f 3 2 L1 (by omega) (by omega)
 have e41:=zaN f 4 1 L1 (by omega) (by omega)
 have e43:=zaN f 4 1 (zD f 3 2 L1).2 (by omega) (by omega)
 have l50:=zJ f 5 0 L1
 have l32:=zJ f 3 2 L1
 have l41:=zJ f 4 1 L1
 have l43:=zJ f 4 1 (zD f 3 2 L1).2
 obtain⟨r1,r2,r3,r4⟩:=zlZ f (2 - m.tmod 2).toNat L1
 have lar:=zgt f (2 - m.tmod 2).toNat L1
 have d50:¬ (20:Int) < yN (zD f 5 0 L1).1:=by have:=e50.dp;omega
 have d32:¬ (20:Int) < yN (zD f 3 2 L1).1:=by have:=e32.dp;omega
 have d41:¬ (20:Int) < yN (zD f 4 1 L1).1:=by have:=e41.dp;omega
 have d43:¬ (20:Int) < yN (zD f 4 1 (zD f 3 2 L1).2).1:=by have:=e43.dp;omega
 rw[jF]
 generalize (yB f).getD (m.tmod (yB f).length).toNat []=nm at n1' n2' ⊢
 have hv:=hc.vars
 have ha:=hc.an
 by_cases c1:q < 6
 ·rw[if_pos c1]
  refine⟨?_,?_,?_,?_,?_,?_,h1,fun d=>?_⟩
  ·simp[zey,zaW,zbg,zaJ,zbQ,zd3,St.kind,St.thn,St.els,St.name,St.to,St.n,St.at_,St.value,St.args,n1',z1,e50.wf]
  ·simp[zbz,jr,zcf,jR,zal,St.kind,St.name,St.at_,St.value,St.args,hv,ha,n2',z2,e50.df]
  ·simp[zbz,jr,arK,St.kind]
  ·simp[zbP,yX,z3,d50]
  ·simp only[n1,nS];omega
  ·simp[w1,wS]
  ·simp[m1,mS]
 rw[if_neg c1]
 by_cases c2:q < 8
 ·rw[if_pos c2]
  refine⟨?_,?_,?_,?_,?_,?_,h1,fun d=>?_⟩
  ·simp[zey,zaW,zbg,zaJ,zbQ,zd3,St.kind,St.thn,St.els,St.name,St.to,St.n,St.at_,St.value,St.args,a1,e32.wf,e43.wf]
  ·simp[zbz,jr,zcf,jR,zal,St.kind,St.name,St.at_,St.value,St.args,hv,ha,a2,e32.df,e43.df]
  ·simp[zbz,jr,arK,St.kind]
  ·simp[zbP,yX,d32,d43]
  ·simp only[n1,nS];omega
  ·simp[w1,wS]
  ·simp[m1,mS]
 rw[if_neg c2]
 by_cases c3:q < 10
 ·rw[if_pos c3]
  obtain⟨hk,hsub⟩:=hs (by omega) (by omega)
  have sa:=hsub 3 ((zD f 4 1 L1).2,s.2) h0 h1
  have saw:=sa.w
  have san:=sa.n
  have sb:=hsub 2 (sub 3 ((zD f 4 1 L1).2,s.2)).2 (by simp only at saw;omega) sa.wb
  have sbw:=sb.w
  have sbn:=sb.n
  refine⟨?_,?_,?_,?_,?_,?_,sb.wb,fun d=>?_⟩
  ·simp[zey,zbg,zaJ,zbQ,zik,St.kind,St.thn,St.els,St.name,St.to,St.n,St.at_,St.value,St.args,z1,e41.wf,sa.wf,sb.wf]
  ·simp[zbz,zcf,jR,zal,St.kind,St.name,St.at_,St.value,St.args,hv,ha,z2,e41.df,sa.df,sb.df]
  ·simp[zbz,arK,St.kind,sa.ar,sb.ar]
  ·simp[zbP,z3,d41,sa.dp,sb.dp]
  ·simp only[n1];simp only at san;omega
  ·simp only[w1];simp only at saw;rw[if_neg (by omega)];omega
  ·have:=sa.m (d+1);have:=sb.m (d+1)
   simp only[m1];omega
 rw[if_neg c3]
 by_cases c4:q < 12
 ·rw[if_pos c4]
  obtain⟨hk,hsub⟩:=hs (by omega) (by omega)
  have hlt:=hq (by omega)
  have hw:w64 (s.2+1)=s.2+1:=by unfold w64;rw[zaV (by omega) (by omega)]
  rw[hw]
  have sa:=hsub 3 ((zD f 4 1 L1).2,s.2+1) (by simp only;omega) (by simp only;omega)
  have saw:=sa.w
  have san:=sa.n
  refine⟨?_,?_,?_,?_,?_,?_,sa.wb,fun d=>?_⟩
  ·simp[zey,zaW,zbg,zaJ,zbQ,zik,St.kind,St.thn,St.els,St.name,St.to,St.n,St.at_,St.value,St.args,z1,e41.wf,sa.wf]
  ·simp[zbz,jr,zcf,jR,zal,St.kind,St.name,St.at_,St.value,St.args,hv,ha,z2,e41.df,sa.df]
  ·simp[zbz,jr,arK,St.kind,sa.ar]
  ·simp[zbP,yX,z3,d41,sa.dp]
  ·simp only[n1,nS];simp only at san;omega
  ·simp only[w1,wS];simp only at saw;simp only[if_true];omega
  ·have:=sa.m (d+1)
   simp only[m1,mS];omega
 rw[if_neg c4]
 by_cases c5:q < 14
 ·rw[if_pos c5]
  refine⟨?_,?_,?_,?_,?_,?_,h1,fun d=>?_⟩
  ·simp[zey,zaW,zbg,zaJ,zbQ,zd3,zik,St.kind,St.thn,St.els,St.name,St.to,St.n,St.at_,St.value,St.args,z1,e41.wf]
  ·simp[zbz,jr,zcf,jR,zal,St.kind,St.name,St.at_,St.value,St.args,hv,ha,z2,e41.df]
  ·simp[zbz,jr,arK,St.kind]
  ·simp[zbP,yX,z3,d41]
  ·simp only[n1,nS];omega
  ·simp[w1,wS]
  ·simp[m1,mS]
 rw[if_neg c5]
 by_cases c6:q < 15
 ·rw[if_pos c6]
  refine⟨?_,?_,?_,?_,?_,?_,h1,fun d=>?_⟩
  ·simp[zey,zaW,zbg,zbQ,zd3,St.kind,St.thn,St.els,St.name,St.to,St.n,St.at_,St.value,St.args,n1',z1,g1,r1]
  ·simp[zbz,jr,zcf,zal,St.kind,St.name,St.to,St.at_,St.value,St.args,hv,ha,z2,n2',g2,r2]
  ·have:(((jI f (2 - m.tmod 2).toNat L1).1.length:Nat):Int)=zi6 c.p (fgG m):=by rw[r4,g3]
   simp[zbz,jr,arK,St.kind,St.args,St.to,this]
  ·simp only[zbP,yX,z3,r3];decide
  ·simp only[n1,nS];omega
  ·simp[w1,wS]
  ·simp[m1,mS]
 rw[if_neg c6]
 refine⟨?_,?_,?_,?_,?_,?_,h1,fun d=>?_⟩
 ·have e:m≤1000000:=by omega
  simp[zey,zaW,zbg,zaJ,zbQ,zd3,St.kind,St.thn,St.els,St.name,St.to,St.n,St.at_,St.value,St.args,z1,hm,e]
 ·simp[zbz,jr,zcf,jR,zal,St.kind,St.name,St.at_,St.value,St.args,hv,ha,z2]
 ·simp[zbz,jr,arK,St.kind]
 ·simp[zbP,yX,z3]
 ·simp only[n1,nS];omega
 ·simp[w1,wS]
 ·simp[m1,mS]
theorem zrN {L:List Int} (h:L≠[]):(zF L).2.length < L.length:=by
 cases L with
 | nil=>exact absurd rfl h
 | cons a l=>simp[zF]
theorem StsOk.more {c:Sc}{k:Nat}{s s':Sd}{l:List St}{t:Sd} (h:StsOk c k s' l t) (h1:s'.1.length≤s.1.length) (h2:s'.2=s.2):StsOk c k s l t:=⟨h.wf,h.df,h.ar,h.dp,Nat.le_trans h.n h1,h2 ▸ h.w,h.wb,h.m⟩
theorem zl0 {f:Int}{c:Sc} (hc:ScG f c):∀ (k deep:Nat),4≤deep+k→deep≤3→∀ s:Sd,s.1≠[]→0≤s.2→s.2≤10→StOk c (k - 1) s (jx f k deep s).1 (jx f k deep s).2
 | 0,deep,h1,h2=>by omega
 | k+1,deep,h1,h2=>fun s hs h0 h10=>by
   have hm:=yy (n:=w64 ((zF s.1).1.tdiv 16)) (m:=1000) (by omega) (by omega)
   have hq:=yy (n:=(zF s.1).1) (m:=16) (by omega) (by omega)
   rw[jx,zgY]
   refine zrM hc (zrN hs) hm.1 hm.2 h0 h10 ?_ ?_ ?_
   ·unfold ziK;split<;>omega
   ·unfold ziK;split<;>omega
   ·intro a b
    have hd:deep≤2:=by
     unfold ziK at a b
     split at a<;>omega
    have e:k+1 - 1 - 1=k - 1:=by omega
    rw[e]
    refine⟨by omega,fun most s g0 g1=>StsOk.more (zkt (fun s hs h0 h1=>?_) _ ((zF s.1).2,s.2) g0 g1) (yM _) rfl⟩
    exact zl0 hc k (deep+1) (by omega) (by omega) s hs h0 h1
theorem zes {f:Int}{c:Sc} (hc:ScG f c) {k deep:Nat} (h1:4≤deep+k) (h2:deep≤3) (most:Int) {s:Sd} (h3:0≤s.2) (h4:s.2≤10):StsOk c (k - 1) s (zad f k deep most s).1 (zad f k deep most s).2:=
 StsOk.more (zkt (fun s hs h0 h1'=>zl0 hc k deep h1 h2 s hs h0 h1') _ ((zF s.1).2,s.2) h3 h4) (yM _) rfl
theorem findG (L:List Int):yw [yH L,ya L] [102] 0=0∧yw [yH L,ya L] [103] 0=1:=⟨rfl,rfl⟩
theorem scG (f:Int) (l:List Int) {F:Fu} (h:F.params++F.locals=yB f):ScG f (zas (jA l) F):=by
 refine⟨h,rfl,fun m hm=>?_⟩
 have h1:=Int.tmod_nonneg 2 hm
 have h2:=Int.tmod_lt_of_pos m (show(0:Int) < 2 by omega)
 show 0≤yw [yH (l.take 60),ya (l.take 60)] (fgG m) 0∧_
 unfold fgG
 by_cases e:m.tmod 2=0
 ·rw[if_pos e,e];exact⟨by rw[(findG _).1];omega,rfl⟩
 ·rw[if_neg e,show m.tmod 2=1 by omega];exact⟨by rw[(findG _).2];omega,rfl⟩
theorem zvA (l:List Int):yE (jA l)=0:=by
 have hl:(l.take 60).length≤60:=by simp;omega
 have c0:ScG 0 (zas (jA l) (yH (l.take 60))):=scG 0 l rfl
 have c1:ScG 1 (zas (jA l) (ya (l.take 60))):=scG 1 l rfl
 obtain⟨L,hL⟩:∃ L,l.take 60=L:=⟨_,rfl⟩
 rw[hL]at hl c0 c1
 have b1:StsOk (zas (jA l) (yH L)) 3 ((zF L).2,0) (yD L).1 (yD L).2:=zes c0 (k:=4) (deep:=0) (by omega) (by omega) 5 (s:=((zF L).2,0)) (by simp) (by simp)
 have v1:ExOk 0 4 (jV L).1:=zaN 0 4 1 _ (by omega) (by omega)
 have b1w:=b1.w
 have b2:StsOk (zas (jA l) (ya L)) 2 ((jV L).2,(yD L).2.2) (jg L).1 (jg L).2:=zes c1 (k:=3) (deep:=1) (by omega) (by omega) 3 (s:=((jV L).2,(yD L).2.2)) (by simp only at b1w ⊢;omega) b1.wb
 have v2:ExOk 1 4 (zcE L).1:=zaN 1 4 1 _ (by omega) (by omega)
 have b1n:=b1.n
 have b2n:=b2.n
 have b2w:=b2.w
 have b1b:=b1.wb
 have b2b:=b2.wb
 simp only at b1n b2n b1w b2w
 have n0:=yM L
 have n1:(jV L).2.length≤(yD L).2.1.length:=zJ 0 4 1 _
 have p1:=yy (n:=(zF L).1) (m:=4) (by omega) (by omega)
 have p2:=yy (n:=w64 ((zF L).1.tdiv 4)) (m:=4) (by omega) (by omega)
 have hp:jA l=⟨zbk L,[yH L,ya L]⟩:=by rw[jA,hL]
 have m1:=b1.m 0
 have m2:=b2.m 0
 have d1:=v1.dp
 have d2:=v2.dp
 have hex:exB (jA l)=false:=by
  rw[hp]
  simp only[exB,zbk,List.any_cons,List.any_nil,exAr,zgk,yH,ya,List.length_cons,List.length_nil,b1.dp,b2.dp,Bool.or_false,Bool.or_eq_false_iff,decide_eq_false_iff_not]
  refine⟨⟨⟨decide_eq_false (by omega),?_⟩,?_⟩,?_⟩<;>omega
 have hwf:wfP (jA l)=true:=by
  rw[hp]
  have q:∀ s∈([[102],[103],[120],[121],[105],[106],[110],[97],[98]]:List (List UInt8)),yx s=true:=by
   intro s hs
   simp only[List.mem_cons,List.not_mem_nil,or_false]at hs
   rcases hs with rfl|rfl|rfl|rfl|rfl|rfl|rfl|rfl|rfl<;>kernel_rfl
  simp only[wfP,zbk,List.all_cons,List.all_nil,zez,fnNames,yH,ya,List.cons_append,List.nil_append,b1.wf,b2.wf,v1.wf,v2.wf,Bool.and_true,Bool.and_eq_true]
  simp[q]
 have hdu:zgl (jA l)=false:=by rw[hp];kernel_rfl
 have hun:(jA l).funcs.any (zcg (jA l))=false:=by
  have e:(jA l).funcs=[yH L,ya L]:=by rw[hp]
  rw[e]
  have w1:zap (zas (jA l) (yH L)).vars (zas (jA l) (yH L)).an (yH L).value=true:=by rw[c0.vars,c0.an];exact v1.df
  have w2:zap (zas (jA l) (ya L)).vars (zas (jA l) (ya L)).an (ya L).value=true:=by rw[c1.vars,c1.an];exact v2.df
  have x1:jr (zas (jA l) (yH L)) false (yH L).body=true:=b1.df
  have x2:jr (zas (jA l) (ya L)) false (ya L).body=true:=b2.df
  simp only[List.any_cons,List.any_nil,zcg,w1,w2,x1,x2];rfl
 have hba:(jA l).funcs.any (zcy (jA l))=false:=by
  have e:(jA l).funcs=[yH L,ya L]:=by rw[hp]
  rw[e]
  have x1:jr (zas (jA l) (yH L)) true (yH L).body=true:=b1.ar
  have x2:jr (zas (jA l) (ya L)) true (ya L).body=true:=b2.ar
  simp only[List.any_cons,List.any_nil,zcy,x1,x2];rfl
 rw[yE,hex,hwf,hdu,hun,hba];rfl
def RgL (L:List Int):Prop:=∀ n∈L,jH n
theorem zec {L:List Int} (h:RgL L):jH (zF L).1∧RgL (zF L).2:=by
 cases L with
 | nil=>exact⟨by show jH 0;unfold jH;omega,h⟩
 | cons a l=>exact⟨h a List.mem_cons_self,fun n hn=>h n (List.mem_cons_of_mem _ hn)⟩
theorem w64_rg (n:Int):jH (w64 n):=by
 unfold w64 jH
 rw[IntKind.wrap_i64];omega
theorem zrO {n raw:Int} (h:jH raw):jH (zeL n raw):=by
 unfold zeL
 split
 ·have e:∀ k,jH (zm0.getD k 0):=fun k=>by
   by_cases c:k < 10
   ·have:∀ k:_root_.Fin 10,jH (zm0.getD k.1 0):=by unfold jH;decide
    exact this ⟨k,c⟩
   ·rw[List.getD_eq_getElem?_getD,List.getElem?_eq_none (by simp[zm0];omega)]
    show jH 0;unfold jH;omega
  exact e _
 split
 ·exact w64_rg _
 ·exact h
theorem in0:jH 0:=by unfold jH;omega
theorem zaO (f:Int):∀ (k deep:Nat) (L:List Int),RgL L→rgE (zD f k deep L).1∧RgL (zD f k deep L).2
 | 0,deep,L,h=>⟨by simp[zD,rgE,zbm,in0],h⟩
 | k+1,deep,L,h=>by
   have ih:=zaO f k (deep+1)
   obtain⟨h1,h2⟩:=zec h
   simp only[zD]
   generalize yn (zF L).1 16=q
   generalize yn (w64 ((zF L).1.tdiv 16)) 1000=m
   split
   ·split
    ·exact⟨by simp[rgE,zbm,in0],h2⟩
    ·exact⟨by simp only[rgE,zbm,and_true];exact zrO h1,h2⟩
   ·have a:=ih _ h2
    have b:=ih _ a.2
    have c:=ih _ b.2
    split
    ·exact⟨by simp only[rgE,zbm,and_true];exact⟨in0,a.1⟩,a.2⟩
    ·split
     ·exact⟨by simp only[rgE,zbm,and_true];exact⟨in0,a.1,b.1,c.1⟩,c.2⟩
     ·split
      ·exact⟨by simp only[rgE,zbm,and_true];exact⟨in0,a.1⟩,a.2⟩
      ·exact⟨by simp only[rgE,zbm,and_true];exact⟨in0,a.1,b.1⟩,b.2⟩
theorem zl1 (f:Int):∀ (n:Nat) (L:List Int),RgL L→zbm (jI f n L).1∧RgL (jI f n L).2
 | 0,L,h=>⟨by simp[jI,zbm],h⟩
 | n+1,L,h=>by
   have a:=zaO f 3 2 L h
   have b:=zl1 f n _ a.2
   rw[jI]
   exact⟨by rw[zbm];exact⟨a.1,b.1⟩,b.2⟩
theorem zeN:rgE zE:=by simp[zE,rgE,zbm,in0]
theorem zrP {sub:Int→Sd→List St×Sd} (hs:∀ most s,RgL s.1→rgS (sub most s).1∧RgL (sub most s).2.1) (f:Int) (L1:List Int) (c q m:Int) (h:RgL L1):rg1 (jF sub f L1 c q m).1∧RgL (jF sub f L1 c q m).2.1:=by
 unfold jF
 split
 ·have a:=zaO f 5 0 L1 h
  exact⟨by simp only[rg1,zbm,rgS,and_true,true_and];exact⟨zeN,a.1⟩,a.2⟩
 split
 ·have a:=zaO f 3 2 L1 h
  have b:=zaO f 4 1 _ a.2
  exact⟨by simp only[rg1,zbm,rgS,and_true,true_and];exact⟨a.1,b.1⟩,b.2⟩
 split
 ·have a:=zaO f 4 1 L1 h
  have b:=hs 3 ((zD f 4 1 L1).2,c) a.2
  have d:=hs 2 (sub 3 ((zD f 4 1 L1).2,c)).2 b.2
  exact⟨by simp only[rg1,zbm,rgS,and_true,true_and];exact⟨zeN,a.1,b.1,d.1⟩,d.2⟩
 split
 ·have a:=zaO f 4 1 L1 h
  have b:=hs 3 ((zD f 4 1 L1).2,w64 (c+1)) a.2
  exact⟨by simp only[rg1,zbm,rgS,and_true,true_and];exact⟨zeN,a.1,b.1⟩,b.2⟩
 split
 ·have a:=zaO f 4 1 L1 h
  exact⟨by simp only[rg1,zbm,rgS,and_true,true_and];exact⟨zeN,a.1⟩,a.2⟩
 split
 ·have a:=zl1 f (2 - m.tmod 2).toNat L1 h
  exact⟨by simp only[rg1,zbm,rgS,and_true,true_and];exact⟨zeN,zeN,a.1⟩,a.2⟩
 ·exact⟨by simp only[rg1,zbm,rgS,and_true,true_and];exact⟨zeN,zeN⟩,h⟩
theorem zku {step:Sd→St×Sd} (hs:∀ s,RgL s.1→rg1 (step s).1∧RgL (step s).2.1):∀ (n:Nat) (s:Sd),RgL s.1→rgS (zaY step n s).1∧RgL (zaY step n s).2.1
 | 0,s,h=>⟨by simp[zaY,rgS],h⟩
 | n+1,s,h=>by
   have a:=hs s h
   have b:=zku hs n _ a.2
   rw[zaY]
   split
   ·exact⟨by simp[rgS],h⟩
   ·exact⟨by rw[rgS];exact⟨a.1,b.1⟩,b.2⟩
theorem zl2 (f:Int):∀ (k deep:Nat) (s:Sd),RgL s.1→rg1 (jx f k deep s).1∧RgL (jx f k deep s).2.1
 | 0,deep,s,h=>⟨by simp only[jx,rg1,zbm,rgS,and_true,true_and];exact⟨zeN,zeN⟩,h⟩
 | k+1,deep,s,h=>by
   have ih:=zl2 f k (deep+1)
   rw[jx,zgY]
   exact zrP (fun most s hs=>zku ih _ ((zF s.1).2,s.2) (zec hs).2) f _ _ _ _ (zec h).2
theorem zjH (f:Int) (k deep:Nat) (most:Int) (s:Sd) (h:RgL s.1):rgS (zad f k deep most s).1∧RgL (zad f k deep most s).2.1:=
 zku (zl2 f k deep) _ ((zF s.1).2,s.2) (zec h).2
theorem zvB {l:List Int} (h:RgL l):∀ f∈(jA l).funcs,rgS f.body∧rgE f.value:=by
 have h60:RgL (l.take 60):=fun n hn=>h n (List.mem_of_mem_take hn)
 have b1:=zjH 0 4 0 5 ((zF (l.take 60)).2,0) (zec h60).2
 have v1:=zaO 0 4 1 (yD (l.take 60)).2.1 b1.2
 have b2:=zjH 1 3 1 3 ((jV (l.take 60)).2,(yD (l.take 60)).2.2) v1.2
 have v2:=zaO 1 4 1 (jg (l.take 60)).2.1 b2.2
 intro f hf
 simp only[jA,List.mem_cons,List.not_mem_nil,or_false]at hf
 rcases hf with rfl|rfl
 ·exact⟨b1.1,v1.1⟩
 ·exact⟨b2.1,v2.1⟩
theorem zrQ (f:Int) (i:Nat):((yB f).getD i []).length≤1:=by
 have h:∀ s∈yB f,s.length≤1:=by
  intro s hs
  unfold yB at hs
  split at hs<;>simp only[List.mem_cons,List.not_mem_nil,or_false]at hs
  ·rcases hs with rfl|rfl|rfl|rfl<;>simp
  ·rcases hs with rfl|rfl<;>simp
 rw[List.getD_eq_getElem?_getD]
 cases e:(yB f)[i]? with
 | none=>simp
 | some s=>exact h s (List.mem_of_getElem? e)
theorem zoq (m:Int):(zkn m).length=1:=by unfold zkn;split<;>rfl
theorem fg_len (m:Int):(fgG m).length=1:=by unfold fgG;split<;>rfl
def bE:Nat→Nat
 | 0=>2
 | k+1=>5+3 * bE k
theorem zbL (f:Int):∀ (k deep:Nat) (L:List Int),(zD f k deep L).1.sz≤bE k
 | 0,deep,L=>by simp[zD,Ex.sz,yc,bE]
 | k+1,deep,L=>by
   have ih:=zbL f k (deep+1)
   simp only[zD,bE]
   generalize yn (zF L).1 16=q
   generalize yn (w64 ((zF L).1.tdiv 16)) 1000=m
   split
   ·split
    ·have:=zrQ f (m.tmod (yB f).length).toNat
     simp only[Ex.sz,yc];omega
    ·simp only[Ex.sz,yc,List.length_nil];omega
   ·split
    ·have:=zoq m
     have:=ih (zF L).2
     simp only[Ex.sz,yc];omega
    ·split
     ·have:=ih (zF L).2
      have:=ih (zD f k (deep+1) (zF L).2).2
      have:=ih (zD f k (deep+1) (zD f k (deep+1) (zF L).2).2).2
      simp only[Ex.sz,yc,List.length_nil];omega
     ·split
      ·have:=ih (zF L).2
       simp only[Ex.sz,yc,List.length_nil];omega
      ·have:=ih (zF L).2
       have:=ih (zD f k (deep+1) (zF L).2).2
       simp only[Ex.sz,yc,List.length_nil];omega
theorem zl3 (f:Int):∀ (n:Nat) (L:List Int),yc (jI f n L).1≤200 * n
 | 0,_=>by simp[jI,yc]
 | n+1,L=>by
   have:=zl3 f n (zD f 3 2 L).2
   have:=zbL f 3 2 L
   have:bE 3≤150:=by decide
   rw[jI,yc];omega
theorem zrR {sub:Int→Sd→List St×Sd} (hs:∀ most s,zu (sub most s).1≤10000 * nS (sub most s).1) (f:Int) (L1:List Int) (c q m:Int):(jF sub f L1 c q m).1.sz+1≤10000 * n1 (jF sub f L1 c q m).1:=by
 have e5:bE 5≤1200:=by decide
 have e4:bE 4≤1200:=by decide
 have e3:bE 3≤1200:=by decide
 have e50:=zbL f 5 0 L1
 have e32:=zbL f 3 2 L1
 have e41:=zbL f 4 1 L1
 have e43:=zbL f 4 1 (zD f 3 2 L1).2
 have z:zE.sz=1:=rfl
 have n1':=zrQ f (m.tmod (yB f).length).toNat
 have a1:=zoq m
 have g1:=fg_len m
 have r:=zl3 f (2 - m.tmod 2).toNat L1
 have r2:(2 - m.tmod 2).toNat≤4:=by
  have:-2 < m.tmod 2:=by
   have:=Int.tmod_lt_of_pos (-m) (show(0:Int) < 2 by omega)
   rw[Int.neg_tmod]at this
   omega
  omega
 rw[jF]
 split
 ·simp only[St.sz,n1,nS,yc,zu,List.length_nil];omega
 split
 ·simp only[St.sz,n1,nS,yc,zu,List.length_nil];omega
 split
 ·have s1:=hs 3 ((zD f 4 1 L1).2,c)
  have s2:=hs 2 (sub 3 ((zD f 4 1 L1).2,c)).2
  simp only[St.sz,n1,nS,yc,zu,List.length_nil];omega
 split
 ·have s1:=hs 3 ((zD f 4 1 L1).2,w64 (c+1))
  simp only[St.sz,n1,nS,yc,zu,List.length_nil];omega
 split
 ·simp only[St.sz,n1,nS,yc,zu,List.length_nil];omega
 split
 ·simp only[St.sz,n1,nS,yc,zu,List.length_nil];omega
 ·simp only[St.sz,n1,nS,yc,zu,List.length_nil];omega
theorem zkv {step:Sd→St×Sd} (h:∀ s,(step s).1.sz+1≤10000 * n1 (step s).1):∀ (n:Nat) (s:Sd),zu (zaY step n s).1≤10000 * nS (zaY step n s).1
 | 0,s=>by simp[zaY,zu,nS]
 | n+1,s=>by
   rw[zaY]
   split
   ·simp[zu,nS]
   ·have:=h s
    have:=zkv h n (step s).2
    simp only[zu,nS];omega
theorem zl4 (f:Int):∀ (k deep:Nat) (s:Sd),(jx f k deep s).1.sz+1≤10000 * n1 (jx f k deep s).1
 | 0,deep,s=>by
   have z:zE.sz=1:=rfl
   simp only[jx,St.sz,n1,nS,yc,zu,List.length_nil];omega
 | k+1,deep,s=>by
   rw[jx,zgY]
   exact zrR (fun most s=>zkv (zl4 f k (deep+1)) _ _) f _ _ _ _
theorem zjI (f:Int) (k deep:Nat) (most:Int) (s:Sd):zu (zad f k deep most s).1≤10000 * nS (zad f k deep most s).1:=zkv (zl4 f k deep) _ _
theorem zl5 (l:List Int):(jA l).sz < 2 ^ 24:=by
 have hex:exB (jA l)=false:=by
  have h:=zvA l
  rw[yE]at h
  cases e:exB (jA l)with
  | false=>rfl
  | true=>rw[if_pos e]at h;omega
 have b1:=zjI 0 4 0 5 ((zF (l.take 60)).2,0)
 have b2:=zjI 1 3 1 3 ((jV (l.take 60)).2,(yD (l.take 60)).2.2)
 have v1:(jV (l.take 60)).1.sz≤bE 4:=zbL 0 4 1 _
 have v2:(zcE (l.take 60)).1.sz≤bE 4:=zbL 1 4 1 _
 have e4:bE 4≤1200:=by decide
 rw[jA]at hex ⊢
 generalize l.take 60=L at *
 change zu (yD L).1≤10000 * nS (yD L).1 at b1
 change zu (jg L).1≤10000 * nS (jg L).1 at b2
 simp only[exB,List.any_cons,List.any_nil,Bool.or_false,Bool.or_eq_false_iff,zgk,yH,ya,decide_eq_false_iff_not]at hex
 obtain⟨_,h1,h2⟩:=hex
 have n1:¬ (200:Int) < nS (yD L).1:=h1.1.1.1.1.2
 have n2:¬ (200:Int) < nS (jg L).1:=h2.1.1.1.1.2
 simp only[Pr.sz,zak,za2,zbk,yH,ya,Fu.sz,jd,List.length_cons,List.length_nil]
 omega
mutual
def cE:Ex→Nat
 | .mk k _ _ _ ks=>if k=1 then 1 else if k=2 then 0 else 4+cEs ks
def cEs:List Ex→Nat
 | []=>0
 | e::es=>cE e+cEs es
end
theorem cE_eq (x:Ex):cE x=if x.kind=1 then 1 else if x.kind=2 then 0 else 4+cEs x.kids:=by cases x;rw[cE];rfl
mutual
def c1:St→Nat
 | .mk k _ _ _ a v args th el=>if k=1 then cE v else if k=2 then cE a+cE v+4 else if k=3 then cE v+cSs th+cSs el+5 else if k=4 then 2 * cE v+cSs th+16 else if k=5 then cE v+1 else if k=6 then cEs args+2 else if k=7 then 2 else 0
def cSs:List St→Nat
 | []=>0
 | x::l=>c1 x+cSs l
end
theorem c1_eq (x:St):c1 x=if x.kind=1 then cE x.value else if x.kind=2 then cE x.at_+cE x.value+4 else if x.kind=3 then cE x.value+cSs x.thn+cSs x.els+5 else if x.kind=4 then 2 * cE x.value+cSs x.thn+16 else if x.kind=5 then cE x.value+1 else if x.kind=6 then cEs x.args+2 else if x.kind=7 then 2 else 0:=by cases x;rw[c1];rfl
theorem zrS {ks:List Ex}{a:Ex} (h:ks[0]?=some a):cE a≤cEs ks:=by
 match ks,h with
 | x::l,h=>
   simp only[List.getElem?_cons_zero,Option.some.injEq]at h
   subst h;rw[cEs];omega
theorem cEs_2 {ks:List Ex}{a b:Ex} (h:ks[0]?=some a) (k:ks[1]?=some b):cE a+cE b≤cEs ks:=by
 match ks,h,k with
 | x::l,h,k=>
   simp only[List.getElem?_cons_zero,List.getElem?_cons_succ,Option.some.injEq]at h k
   subst h;rw[cEs];have:=zrS k;omega
theorem cEs_3 {ks:List Ex}{a b c:Ex} (h:ks[0]?=some a) (k:ks[1]?=some b) (m:ks[2]?=some c):cE a+cE b+cE c≤cEs ks:=by
 match ks,h,k,m with
 | x::l,h,k,m=>
   simp only[List.getElem?_cons_zero,List.getElem?_cons_succ,Option.some.injEq]at h k m
   subst h;rw[cEs];have:=cEs_2 k m;omega
theorem jG (n:Nd) (s:Bd):(zm n s).2.l.length≤s.l.length+1:=ziM _ _
theorem zc4 (c a b:Int) (s:Bd):(zt c a b s).2.l.length≤s.l.length+1:=by
 unfold zt
 split
 ·exact Nat.le_succ _
 ·exact jG _ _
theorem ziS (t v:Int) (s:Bd):(zbA t v s).l.length≤s.l.length+1:=jG _ _
theorem zrT (n i:Int) (s:Bd):(zaL n i s).l.length≤s.l.length+3:=by
 have a:=jG ⟨1,n,[]⟩ s
 have b:=jG ⟨19,0,[i,(zm ⟨1,n,[]⟩ s).1]⟩ (zm ⟨1,n,[]⟩ s).2
 have c:=ziS 2 (zm ⟨19,0,[i,(zm ⟨1,n,[]⟩ s).1]⟩ (zm ⟨1,n,[]⟩ s).2).1 (zm ⟨19,0,[i,(zm ⟨1,n,[]⟩ s).1]⟩ (zm ⟨1,n,[]⟩ s).2).2
 have e:(zaL n i s).l.length≤_:=c
 omega
theorem divB_n (v:Int) (s:Bd):(zfb v s).l.length≤s.l.length+3:=by
 have a:=jG ⟨1,0,[]⟩ s
 have b:=jG ⟨16,0,[v,(zm ⟨1,0,[]⟩ s).1]⟩ (zm ⟨1,0,[]⟩ s).2
 have c:=ziS 1 (zm ⟨16,0,[v,(zm ⟨1,0,[]⟩ s).1]⟩ (zm ⟨1,0,[]⟩ s).2).1 (zm ⟨16,0,[v,(zm ⟨1,0,[]⟩ s).1]⟩ (zm ⟨1,0,[]⟩ s).2).2
 have e:(zfb v s).l.length≤_:=c
 omega
theorem zeO (c:Cx):∀ (n:Nat) (x:Ex) (s:Bd) (r:Int×Bd),exL c n x s=some r→r.2.l.length≤s.l.length+cE x
 | 0,_,_,_,h=>by simp[exL]at h
 | n+1,x,s,r,h=>by
   have IH:=zeO c n
   rw[cE_eq]
   unfold exL at h
   by_cases h1:x.kind=1
   ·rw[if_pos h1]at h ⊢
    cases h;exact jG _ s
   rw[if_neg h1]at h ⊢
   by_cases h2:x.kind=2
   ·rw[if_pos h2]at h ⊢
    obtain⟨v,_,rfl⟩:=Option.map_eq_some_iff.1 h;exact Nat.le_refl _
   rw[if_neg h2]at h ⊢
   split at h
   ·simp only[Option.bind_eq_some_iff,Option.some.injEq]at h
    obtain⟨k,hk,r1,h1,a,_,rfl⟩:=h
    have e1:=IH _ _ _ h1
    have e2:=zrT a.len r1.1 r1.2
    have e3:=jG ⟨23,ixS (c.arrays.map (·.name)) x.name,[(zaL a.len r1.1 r1.2).state,r1.1]⟩ (zaL a.len r1.1 r1.2)
    have e4:=zrS hk
    show(zm _ _).2.l.length≤_
    omega
   split at h
   ·simp only[Option.bind_eq_some_iff,Option.some.injEq]at h
    obtain⟨k0,q0,r0,h0,k1,q1,r1,h1,k2,q2,r2,h2,rfl⟩:=h
    have e0:=IH _ _ _ h0
    have e1:=IH _ _ _ h1
    have e2':=IH _ _ _ h2
    have e2:r2.2.l.length≤r1.2.l.length+cE k2:=e2'
    have e3:=zc4 r0.1 r1.1 r2.1 r2.2
    have e4:=zc4 r0.1 r1.2.state (zt r0.1 r1.1 r2.1 r2.2).2.state (zt r0.1 r1.1 r2.1 r2.2).2
    have e5:=cEs_3 q0 q1 q2
    show(zt _ _ _ _).2.l.length≤_
    omega
   ·simp only[Option.bind_eq_some_iff]at h
    obtain⟨k0,q0,r0,h0,h⟩:=h
    have a:=IH _ _ _ h0
    split at h
    ·cases h
     have e1:=jG ⟨x.op,0,[r0.1]⟩ r0.2
     have e4:=zrS q0
     show(zm _ _).2.l.length≤_
     omega
    ·simp only[Option.bind_eq_some_iff,Option.some.injEq]at h
     obtain⟨k1,q1,r1,h1,rfl⟩:=h
     have b:=IH _ _ _ h1
     have e4:=cEs_2 q0 q1
     have e5:(if x.op=7∨x.op=8 then zfb r1.1 r1.2 else r1.2).l.length≤r1.2.l.length+3:=by
      split
      ·exact divB_n _ _
      ·omega
     have e6:=jG ⟨x.op,0,[r0.1,r1.1]⟩ (if x.op=7∨x.op=8 then zfb r1.1 r1.2 else r1.2)
     show(zm _ _).2.l.length≤_
     omega
theorem zrU (c:Cx) (n:Nat):∀ (l:List Ex) (s:Bd) (r:List Int×Bd),zg7 c n l s=some r→r.2.l.length≤s.l.length+cEs l
 | [],s,r,h=>by cases h;exact Nat.le_refl _
 | x::l,s,r,h=>by
   unfold zg7 at h
   simp only[Option.bind_eq_some_iff,Option.some.injEq]at h
   obtain⟨r1,h1,r2,h2,rfl⟩:=h
   have a:=zeO c n _ _ _ h1
   have b:=zrU c n l _ _ h2
   rw[cEs]
   show r2.2.l.length≤_
   omega
theorem mvL_n (c:Int) (a:List Int):∀ (k i:Nat) (s r:Bd),mvL c a k i s=some r→r.l.length≤s.l.length+k
 | 0,i,s,r,h=>by cases h;exact Nat.le_refl _
 | k+1,i,s,r,h=>by
   unfold mvL at h
   simp only[Option.bind_eq_some_iff]at h
   obtain⟨x,_,y,_,h⟩:=h
   have e':=mvL_n c a k (i+1) _ r h
   have e:r.l.length≤(zt c x y s).2.l.length+k:=e'
   have:=zc4 c x y s
   omega
theorem lvL_n (base:Int):∀ (ws:List Nat) (j:Nat) (s:Bd),(lvL base ws j s).l.length≤s.l.length+ws.length
 | [],j,s=>Nat.le_refl _
 | w::ws,j,s=>by
   rw[zlG]
   have a:=lvL_n base ws (j+1) { (zm ⟨3,base+j,[]⟩ s).2 with vars:=(zm ⟨3,base+j,[]⟩ s).2.vars.set w (zm ⟨3,base+j,[]⟩ s).1 }
   have b:=jG ⟨3,base+j,[]⟩ s
   rw[List.length_cons]
   have e:({ (zm ⟨3,base+j,[]⟩ s).2 with vars:=(zm ⟨3,base+j,[]⟩ s).2.vars.set w (zm ⟨3,base+j,[]⟩ s).1 }:Bd).l.length=(zm ⟨3,base+j,[]⟩ s).2.l.length:=rfl
   omega
theorem lrL_n (lp c:Int) (old:List Int):∀ (ws:List Nat) (j:Nat) (s:Bd),(lrL lp c old ws j s).l.length≤s.l.length+2 * ws.length
 | [],j,s=>Nat.le_refl _
 | w::ws,j,s=>by
   rw[zfT]
   have a:=lrL_n lp c old ws (j+1) { (zt c (zm ⟨25,j,[lp]⟩ s).1 (old.getD w 0) (zm ⟨25,j,[lp]⟩ s).2).2 with vars:=(zt c (zm ⟨25,j,[lp]⟩ s).1 (old.getD w 0) (zm ⟨25,j,[lp]⟩ s).2).2.vars.set w (zt c (zm ⟨25,j,[lp]⟩ s).1 (old.getD w 0) (zm ⟨25,j,[lp]⟩ s).2).1 }
   have b:=jG ⟨25,j,[lp]⟩ s
   have d:=zc4 c (zm ⟨25,j,[lp]⟩ s).1 (old.getD w 0) (zm ⟨25,j,[lp]⟩ s).2
   rw[List.length_cons]
   have e:({ (zt c (zm ⟨25,j,[lp]⟩ s).1 (old.getD w 0) (zm ⟨25,j,[lp]⟩ s).2).2 with vars:=(zt c (zm ⟨25,j,[lp]⟩ s).1 (old.getD w 0) (zm ⟨25,j,[lp]⟩ s).2).2.vars.set w (zt c (zm ⟨25,j,[lp]⟩ s).1 (old.getD w 0) (zm ⟨25,j,[lp]⟩ s).2).1 }:Bd).l.length=(zt c (zm ⟨25,j,[lp]⟩ s).1 (old.getD w 0) (zm ⟨25,j,[lp]⟩ s).2).2.l.length:=rfl
   omega
theorem stL_n (c:Cx):∀ n:Nat,(∀ x s r,stL c n x s=some r→s.vars.length≤4→r.l.length≤s.l.length+c1 x)∧(∀ l s r,zav c n l s=some r→s.vars.length≤4→r.l.length≤s.l.length+cSs l)∧(∀ x s r,whL c n x s=some r→s.vars.length≤4→r.l.length≤s.l.length+(2 * cE x.value+cSs x.thn+16))
 | 0=>⟨fun _ _ _ h=>by simp[stL]at h,fun _ _ _ h=>by simp[zav]at h,fun _ _ _ h=>by simp[whL]at h⟩
 | n+1=>by
   obtain⟨I1,I2,I3⟩:=stL_n c n
   refine⟨fun x s r h hv=>?_,fun l s r h hv=>?_,fun x s r h hv=>?_⟩
   ·rw[c1_eq]
    unfold stL at h
    by_cases k1:x.kind=1
    ·rw[if_pos k1]at h ⊢
     simp only[Option.bind_eq_some_iff]at h
     obtain⟨r1,h1,h⟩:=h
     split at h
     ·cases h
      exact zeO c n _ _ _ h1
     ·cases h
    rw[if_neg k1]at h ⊢
    by_cases k2:x.kind=2
    ·rw[if_pos k2]at h ⊢
     simp only[Option.bind_eq_some_iff,Option.some.injEq]at h
     obtain⟨i,h1,v,h2,a,_,rfl⟩:=h
     have e1:=zeO c n _ _ _ h1
     have e2:=zeO c n _ _ _ h2
     have e3:=zrT a.len i.1 v.2
     have e4:=jG ⟨28,ixS (c.arrays.map (·.name)) x.name,[(zaL a.len i.1 v.2).state,i.1,v.1]⟩ (zaL a.len i.1 v.2)
     show(zm _ _).2.l.length≤_
     omega
    rw[if_neg k2]at h ⊢
    by_cases k3:x.kind=3
    ·rw[if_pos k3]at h ⊢
     simp only[Option.bind_eq_some_iff,Option.some.injEq]at h
     obtain⟨v,h1,a,h2,b,h3,m,h4,rfl⟩:=h
     have e1:=zeO c n _ _ _ h1
     have v1:=(yg c n _ _ _ h1).v
     have e2:=I2 _ _ _ h2 (by rw[v1];exact hv)
     have e3':=I2 _ _ _ h3 (by show v.2.vars.length≤4;rw[v1];exact hv)
     have e3:b.l.length≤a.l.length+cSs x.els:=e3'
     have v3':=((zaD c n).2.1 _ _ _ h3).2
     have v3:b.vars.length=v.2.vars.length:=v3'
     have e4:=mvL_n _ _ _ _ _ _ h4
     have e5:=zc4 v.1 a.state m.state m
     rw[v1]at v3
     show(zt _ _ _ _).2.l.length≤_
     omega
    rw[if_neg k3]at h ⊢
    by_cases k4:x.kind=4
    ·rw[if_pos k4]at h ⊢
     exact I3 _ _ _ h hv
    rw[if_neg k4]at h ⊢
    by_cases k5:x.kind=5
    ·rw[if_pos k5]at h ⊢
     simp only[Option.bind_eq_some_iff,Option.some.injEq]at h
     obtain⟨v,h1,rfl⟩:=h
     have e1:=zeO c n _ _ _ h1
     have e2:=jG ⟨29,0,[v.2.state,v.1]⟩ v.2
     show(zm _ _).2.l.length≤_
     omega
    rw[if_neg k5]at h ⊢
    by_cases k6:x.kind=6
    ·rw[if_pos k6]at h ⊢
     simp only[Option.bind_eq_some_iff]at h
     obtain⟨av,h1,h⟩:=h
     split at h
     ·cases h
      have e1:=zrU c n _ _ _ h1
      have e2:=jG ⟨30,yw c.funcs x.to 0,av.2.state::av.1⟩ av.2
      generalize zm ⟨30,yw c.funcs x.to 0,av.2.state::av.1⟩ av.2=q at *
      have e3:=jG ⟨24,0,[q.1]⟩ ⟨q.2.l,q.2.vars,q.1,q.2.loops⟩
      simp only at e3 ⊢
      omega
     ·cases h
    rw[if_neg k6]at h ⊢
    by_cases k7:x.kind=7
    ·rw[if_pos k7]at h ⊢
     cases h
     have e2:=jG ⟨1,0,[]⟩ s
     have e3:=ziS (w64 (16+x.n)) (zm ⟨1,0,[]⟩ s).1 (zm ⟨1,0,[]⟩ s).2
     show(zbA _ _ _).l.length≤_
     omega
    rw[if_neg k7]at h ⊢
    cases h;exact Nat.le_refl _
   ·unfold zav at h
    cases l with
    | nil=>cases h;exact Nat.le_refl _
    | cons x l=>
      simp only[Option.bind_eq_some_iff]at h
      obtain⟨a,h1,h2⟩:=h
      have e1:=I1 _ _ _ h1 hv
      have v1:=((zaD c n).1 _ _ _ h1).2
      have e2:=I2 _ _ _ h2 (by rw[v1];exact hv)
      rw[cSs]
      omega
   ·unfold whL at h
    simp only[Option.bind_eq_some_iff,Option.some.injEq]at h
    obtain⟨v,h1,b,h2,t,h3,d,h4,rfl⟩:=h
    have e1':=zeO c n _ _ _ h1
    have e1:v.2.l.length≤s.l.length+cE x.value:=e1'
    clear e1'
    have v1':=(yg c n _ _ _ h1).v
    have v1:v.2.vars=s.vars:=v1'
    have hb:b.length=v.2.vars.length:=by rw[zch _ _ _ _ _ h2,List.length_replicate]
    have hw:=zjG b
    rw[hb,v1]at hw
    have e2:=jG ⟨3,16 * (s.loops:Int),[]⟩ v.2
    have v2:(zm ⟨3,16 * (s.loops:Int),[]⟩ v.2).2.vars=v.2.vars:=rfl
    generalize zm ⟨3,16 * (s.loops:Int),[]⟩ v.2=q0 at *
    have e3:=lvL_n (16 * (s.loops:Int)+1) (yA b) 0 ⟨q0.2.l,q0.2.vars,q0.1,q0.2.loops⟩
    have v3:=(zdv (16 * (s.loops:Int)+1) (yA b) 0 ⟨q0.2.l,q0.2.vars,q0.1,q0.2.loops⟩).2.2.1
    simp only at e3 v3
    have e4:=I2 _ _ _ h3 (by rw[v3,v2,v1];exact hv)
    have e5:=zeO c n _ _ _ h4
    generalize hk:zm ⟨31,s.loops,v.2.state::((yA b).map fun i=>v.2.vars.getD i 0)++[d.1,d.2.state]++((yA b).map fun i=>d.2.vars.getD i 0)⟩ d.2=k
    have e6:k.2.l.length≤d.2.l.length+1:=by rw[← hk];exact jG _ _
    have e7:=jG ⟨25,0,[k.1]⟩ ⟨k.2.l,v.2.vars,k.2.state,k.2.loops⟩
    simp only at e7
    generalize zm ⟨25,0,[k.1]⟩ ⟨k.2.l,v.2.vars,k.2.state,k.2.loops⟩=q at *
    have e8:=zc4 v.1 q.1 v.2.state q.2
    generalize zt v.1 q.1 v.2.state q.2=m at *
    have e9:=lrL_n k.1 v.1 v.2.vars (yA b) 1 ⟨m.2.l,m.2.vars,m.1,m.2.loops⟩
    simp only at e9
    omega
theorem ziT {L:List Int} (h:L≠[]):(zF L).2.length+1=L.length:=by
 cases L with
 | nil=>exact absurd rfl h
 | cons a l=>simp[zF]
theorem zbD (f:Int):∀ (k deep:Nat) (L:List Int),k+deep=5→deep≤4→cE (zD f k deep L).1+4 * (zD f k deep L).2.length≤4 * L.length
 | 0,deep,L,h,hd=>by omega
 | k+1,deep,L,h,hd=>by
   have IH:=fun L (hd:¬ (3:Int) < deep)=>zbD f k (deep+1) L (by omega) (by omega)
   by_cases hL:L=[]
   ·subst hL
    have e:yn (zF []).1 16=0:=by decide
    simp only[zD]
    rw[e,if_pos (.inl (by decide)),if_pos (.inl (by decide))]
    simp[cE,zF]
   ·have hn:=ziT hL
    simp only[zD]
    generalize yn (zF L).1 16=q
    generalize yn (w64 ((zF L).1.tdiv 16)) 1000=m
    generalize (zF L).2=L1 at *
    by_cases hc:q < 4∨(3:Int) < deep
    ·rw[if_pos hc]
     split
     ·simp only[cE,Int.reduceEq,reduceIte];omega
     ·simp only[cE,Int.reduceEq,reduceIte];omega
    have hd3:¬ (3:Int) < deep:=fun e=>hc (.inr e)
    rw[if_neg hc]
    split
    ·have a:=IH L1 hd3
     simp only[cE,cEs,Int.reduceEq,reduceIte]
     omega
    split
    ·have a:=IH L1 hd3
     have b:=IH (zD f k (deep+1) L1).2 hd3
     have c:=IH (zD f k (deep+1) (zD f k (deep+1) L1).2).2 hd3
     simp only[cE,cEs,Int.reduceEq,reduceIte]
     omega
    split
    ·have a:=IH L1 hd3
     simp only[cE,cEs,Int.reduceEq,reduceIte]
     omega
    ·have a:=IH L1 hd3
     have b:=IH (zD f k (deep+1) L1).2 hd3
     simp only[cE,cEs,Int.reduceEq,reduceIte]
     omega
theorem zor (f:Int):∀ (n:Nat) (L:List Int),cEs (jI f n L).1+4 * (jI f n L).2.length≤4 * L.length
 | 0,L=>by simp[jI,cEs]
 | n+1,L=>by
   have a:=zbD f 3 2 L (by omega) (by omega)
   have b:=zor f n (zD f 3 2 L).2
   simp only[jI,cEs]
   omega
theorem zvC {sub:Int→Sd→List St×Sd} (hs:∀ most s,cSs (sub most s).1+16 * (sub most s).2.1.length≤16 * s.1.length) (f:Int) (L1:List Int) (c q m:Int):c1 (jF sub f L1 c q m).1+16 * (jF sub f L1 c q m).2.1.length≤16 * (L1.length+1):=by
 unfold jF
 split
 ·have a:=zbD f 5 0 L1 (by omega) (by omega)
  simp only[c1,Int.reduceEq,reduceIte];omega
 split
 ·have a:=zbD f 3 2 L1 (by omega) (by omega)
  have b:=zbD f 4 1 (zD f 3 2 L1).2 (by omega) (by omega)
  simp only[c1,Int.reduceEq,reduceIte];omega
 split
 ·have a:=zbD f 4 1 L1 (by omega) (by omega)
  have b:=hs 3 ((zD f 4 1 L1).2,c)
  have d:=hs 2 (sub 3 ((zD f 4 1 L1).2,c)).2
  simp only at b
  simp only[c1,Int.reduceEq,reduceIte];omega
 split
 ·have a:=zbD f 4 1 L1 (by omega) (by omega)
  have b:=hs 3 ((zD f 4 1 L1).2,w64 (c+1))
  simp only at b
  simp only[c1,Int.reduceEq,reduceIte];omega
 split
 ·have a:=zbD f 4 1 L1 (by omega) (by omega)
  simp only[c1,Int.reduceEq,reduceIte];omega
 split
 ·have a:=zor f (2 - m.tmod 2).toNat L1
  simp only[c1,Int.reduceEq,reduceIte];omega
 ·simp only[c1,Int.reduceEq,reduceIte];omega
theorem znm {step:Sd→St×Sd} (hs:∀ s,s.1≠[]→c1 (step s).1+16 * (step s).2.1.length≤16 * s.1.length):∀ (n:Nat) (s:Sd),cSs (zaY step n s).1+16 * (zaY step n s).2.1.length≤16 * s.1.length
 | 0,s=>by simp[zaY,cSs]
 | n+1,s=>by
   rw[zaY]
   split
   ·simp[cSs]
   ·rename_i h
    have a:=hs s h
    have b:=znm hs n (step s).2
    simp only[cSs]
    omega
theorem zos (f:Int):∀ (k deep:Nat) (s:Sd),s.1≠[]→c1 (jx f k deep s).1+16 * (jx f k deep s).2.1.length≤16 * s.1.length
 | 0,deep,s,h=>by simp[jx,c1]
 | k+1,deep,s,h=>by
   rw[jx,zgY]
   have e:=ziT h
   rw[← e]
   exact zvC (fun most s=>by
    have a:=znm (zos f k (deep+1)) (yn (zF s.1).1 (most+1)).toNat ((zF s.1).2,s.2)
    have b:=yM s.1
    simp only at a
    omega) _ _ _ _ _
theorem zl6 (f:Int) (k deep:Nat) (most:Int) (s:Sd):cSs (zad f k deep most s).1+16 * (zad f k deep most s).2.1.length≤16 * s.1.length:=by
 have a:=znm (zos f k deep) (yn (zF s.1).1 (most+1)).toNat ((zF s.1).2,s.2)
 have b:=yM s.1
 simp only at a
 unfold zad
 omega
theorem genP_c (l:List Int):∀ f∈(jA l).funcs,cSs f.body+cE f.value≤960∧f.params.length+f.locals.length≤4:=by
 have h0:(l.take 60).length≤60:=by rw[List.length_take];omega
 have h1:=yM (l.take 60)
 have b1:cSs (yD (l.take 60)).1+16 * (yD (l.take 60)).2.1.length≤16 * (zF (l.take 60)).2.length:=zl6 0 4 0 5 ((zF (l.take 60)).2,0)
 have v1:cE (jV (l.take 60)).1+4 * (jV (l.take 60)).2.length≤4 * (yD (l.take 60)).2.1.length:=zbD 0 4 1 _ (by omega) (by omega)
 have b2:cSs (jg (l.take 60)).1+16 * (jg (l.take 60)).2.1.length≤16 * (jV (l.take 60)).2.length:=zl6 1 3 1 3 ((jV (l.take 60)).2,(yD (l.take 60)).2.2)
 have v2:cE (zcE (l.take 60)).1+4 * (zcE (l.take 60)).2.length≤4 * (jg (l.take 60)).2.1.length:=zbD 1 4 1 _ (by omega) (by omega)
 intro f hf
 simp only[jA,List.mem_cons,List.not_mem_nil,or_false]at hf
 rcases hf with rfl|rfl
 ·exact⟨by show cSs (yD (l.take 60)).1+cE (jV (l.take 60)).1≤960;omega,by show 2+2≤4;omega⟩
 ·exact⟨by show cSs (jg (l.take 60)).1+cE (zcE (l.take 60)).1≤960;omega,by show 1+1≤4;omega⟩
theorem prL_n:∀ (m k:Nat) (s:Bd),(prL m k s).l.length≤s.l.length+m
 | 0,k,s=>Nat.le_refl _
 | m+1,k,s=>by
   have a:(prL (m+1) k s).l.length≤(zm ⟨2,k,[]⟩ s).2.l.length+m:=prL_n m (k+1) _
   have b:=jG ⟨2,k,[]⟩ s
   omega
theorem loL_n:∀ (m:Nat) (s:Bd),(loL m s).l.length≤s.l.length+m
 | 0,s=>Nat.le_refl _
 | m+1,s=>by
   have a:(loL (m+1) s).l.length≤(zm ⟨1,0,[]⟩ s).2.l.length+m:=loL_n m _
   have b:=jG ⟨1,0,[]⟩ s
   omega
theorem zrV (f:Fu):(j6 f).l.length≤1+f.params.length+f.locals.length∧(j6 f).vars.length=f.params.length+f.locals.length:=by
 have e0:(zm ⟨26,0,[]⟩ ⟨[],[],0,0⟩).2.l.length≤1:=jG _ _
 have e1:(prL f.params.length 0 { (zm ⟨26,0,[]⟩ ⟨[],[],0,0⟩).2 with state:=(zm ⟨26,0,[]⟩ ⟨[],[],0,0⟩).1 }).l.length≤(zm ⟨26,0,[]⟩ ⟨[],[],0,0⟩).2.l.length+f.params.length:=prL_n _ _ _
 have e2:(j6 f).l.length≤_:=loL_n f.locals.length _
 have v1:=(ziE f.params.length 0 { (zm ⟨26,0,[]⟩ ⟨[],[],0,0⟩).2 with state:=(zm ⟨26,0,[]⟩ ⟨[],[],0,0⟩).1 }).2
 have v2:(j6 f).vars.length=_:=(ziF f.locals.length _).2
 have v0:({ (zm ⟨26,0,[]⟩ ⟨[],[],0,0⟩).2 with state:=(zm ⟨26,0,[]⟩ ⟨[],[],0,0⟩).1 }:Bd).vars.length=0:=rfl
 exact⟨by omega,by omega⟩
theorem fnL_n {p:Pr}{n:Nat}{f:Fu}{g:Gr} (h:fnL p n f=some g) (hv:f.params.length+f.locals.length≤4):g.nodes.length≤5+cSs f.body+cE f.value:=by
 unfold fnL at h
 simp only[Option.bind_eq_some_iff,Option.some.injEq]at h
 obtain⟨s,h1,v,h2,rfl⟩:=h
 obtain⟨a,b⟩:=zrV f
 have e1:=(stL_n _ n).2.1 _ _ _ h1 (by omega)
 have e2:=zeO _ n _ _ _ h2
 show v.2.l.length≤_
 omega
theorem zot {p:Pr}{n:Nat}:∀ (l:List Fu) (gs:List Gr),(∀ f∈l,∃ g,fnL p n f=some g∧g.nodes.length≤2000)→∃ hs,zg8 p n l gs=some (⟨p.arrays,gs++hs⟩,0)∧zbf (fun f g=>fnL p n f=some g∧g.nodes.length≤2000) l hs
 | [],gs,_=>⟨[],by rw[zg8,List.append_nil],trivial⟩
 | f::l,gs,h=>by
   obtain⟨g,h1,h2⟩:=h f List.mem_cons_self
   obtain⟨hs,h3,h4⟩:=zot l (gs++[g]) fun x hx=>h x (List.mem_cons_of_mem _ hx)
   refine⟨g::hs,?_,⟨h1,h2⟩,h4⟩
   rw[zg8,h1,Option.bind_some,if_neg (by omega),h3,List.append_assoc];rfl
structure GenF (L:List Int):Prop where
 len:L.length≤60
 b1:∀ c,ScG 0 c→zaW (yD L).1=true∧jr c false (yD L).1=true∧jr c true (yD L).1=true∧yX (yD L).1=false∧nS (yD L).1≤60∧wS (yD L).1≤10∧mS (yD L).1 0≤3
 v1:ExOk 0 4 (jV L).1
 b2:∀ c,ScG 1 c→zaW (jg L).1=true∧jr c false (jg L).1=true∧jr c true (jg L).1=true∧yX (jg L).1=false∧nS (jg L).1≤60∧wS (jg L).1≤10∧mS (jg L).1 0≤3
 v2:ExOk 1 4 (zcE L).1
 x1:1≤1+yn (zF L).1 4∧1+yn (zF L).1 4≤4
 x2:1≤1+yn (w64 ((zF L).1.tdiv 4)) 4∧1+yn (w64 ((zF L).1.tdiv 4)) 4≤4
theorem zrW (l:List Int):GenF (l.take 60):=by
 have hl:(l.take 60).length≤60:=by simp;omega
 have c0:ScG 0 (zas (jA l) (yH (l.take 60))):=scG 0 l rfl
 have c1:ScG 1 (zas (jA l) (ya (l.take 60))):=scG 1 l rfl
 generalize l.take 60=L at hl c0 c1 ⊢
 have n0:=yM L
 have f1:∀ c,ScG 0 c→StsOk c 3 ((zF L).2,0) (yD L).1 (yD L).2:=fun c hc=>zes hc (k:=4) (deep:=0) (by omega) (by omega) 5 (s:=((zF L).2,0)) (by simp) (by simp)
 have b1w:=(f1 _ c0).w
 have b1b:=(f1 _ c0).wb
 have b1n:=(f1 _ c0).n
 simp only at b1w b1n
 have f2:∀ c,ScG 1 c→StsOk c 2 ((jV L).2,(yD L).2.2) (jg L).1 (jg L).2:=fun c hc=>zes hc (k:=3) (deep:=1) (by omega) (by omega) 3 (s:=((jV L).2,(yD L).2.2)) (by simp only at b1w ⊢;omega) b1b
 have b2w:=(f2 _ c1).w
 have b2b:=(f2 _ c1).wb
 have b2n:=(f2 _ c1).n
 simp only at b2w b2n
 have n1:(jV L).2.length≤(yD L).2.1.length:=zJ 0 4 1 _
 have p1:=yy (n:=(zF L).1) (m:=4) (by omega) (by omega)
 have p2:=yy (n:=w64 ((zF L).1.tdiv 4)) (m:=4) (by omega) (by omega)
 refine⟨hl,fun c hc=>?_,zaN 0 4 1 _ (by omega) (by omega),fun c hc=>?_,zaN 1 4 1 _ (by omega) (by omega),⟨by omega,by omega⟩,⟨by omega,by omega⟩⟩
 ·have f:=f1 c hc
  have m:=f.m 0
  exact⟨f.wf,f.df,f.ar,f.dp,by omega,by omega,by omega⟩
 ·have f:=f2 c hc
  have m:=f.m 0
  exact⟨f.wf,f.df,f.ar,f.dp,by omega,by omega,by omega⟩
def arG2 (x y:Int):List Ar:=[⟨[97],x⟩,⟨[98],y⟩]
def pr2 (x y:Int) (F G:Fu):Pr:=⟨arG2 x y,[F,G]⟩
theorem zou {f:Fu} (h1:f.params.length≤6) (h2:f.locals.length≤8) (h3:nS f.body≤200) (h4:wS f.body≤16) (h5:mS f.body 0≤20) (h6:yX f.body=false) (h7:yN f.value≤20):zgk f=false:=by
 simp only[zgk,h6,Bool.or_false,Bool.or_eq_false_iff,decide_eq_false_iff_not]
 omega
theorem exB_of {x y:Int}{F G:Fu} (hx:1≤x∧x≤4) (hy:1≤y∧y≤4) (hF:zgk F=false) (hG:zgk G=false):exB (pr2 x y F G)=false:=by
 simp[exB,pr2,arG2,exAr,hF,hG]
 omega
theorem zet:∀ s∈([[102],[103],[120],[121],[105],[106],[110],[97],[98]]:List (List UInt8)),yx s=true:=by
 intro s hs
 simp only[List.mem_cons,List.not_mem_nil,or_false]at hs
 rcases hs with rfl|rfl|rfl|rfl|rfl|rfl|rfl|rfl|rfl<;>kernel_rfl
theorem wfP_of {x y:Int}{F G:Fu} (hF:zez F=true) (hG:zez G=true):wfP (pr2 x y F G)=true:=by
 simp only[wfP,pr2,arG2,List.all_cons,List.all_nil,hF,hG,zet [97] (by simp),zet [98] (by simp)];rfl
theorem zvD (x y:Int) (F G:Fu):zgl (pr2 x y F G)=(yz [] F.name||zM anG (F.params++F.locals)||(yz [F.name] G.name||zM anG (G.params++G.locals))):=by
 have e:zM [] (zB (pr2 x y F G))=false:=by kernel_rfl
 simp only[zgl,e,Bool.false_or,pr2,zim,Bool.or_false,List.nil_append]
 rfl
theorem scPr {f:Int}{x y:Int}{F G H:Fu} (n1:F.name=[102]) (n2:G.name=[103]) (p1:F.params.length=2) (p2:G.params.length=1) (hv:H.params++H.locals=yB f):ScG f (zas (pr2 x y F G) H):=by
 refine⟨hv,rfl,fun m hm=>?_⟩
 have h1:=Int.tmod_nonneg 2 hm
 have h2:=Int.tmod_lt_of_pos m (show(0:Int) < 2 by omega)
 have f0:yw [F,G] [102] 0=0:=by rw[yw,if_pos n1]
 have f1:yw [F,G] [103] 0=1:=by rw[yw,if_neg (by rw[n1];decide),yw,if_pos n2];rfl
 show 0≤yw [F,G] (fgG m) 0∧(2 - m.tmod 2).toNat=(([F,G][(yw [F,G] (fgG m) 0).toNat]?).map fun f=>f.params.length).getD 0
 unfold fgG
 by_cases e:m.tmod 2=0
 ·rw[if_pos e,e,f0];exact⟨by omega,by simp[p1]⟩
 ·rw[if_neg e,show m.tmod 2=1 by omega,f1];exact⟨by omega,by simp[p2]⟩
section
variable {L:List Int} (h:GenF L)
include h
end
section
variable {L:List Int} (h:GenF L) {x y:Int} (hx:1 ≤ x ∧ x ≤ 4) (hy:1 ≤ y ∧ y ≤ 4)
include h hx hy
end
def yF (f:Fu):Fu:=⟨f.name,f.params,f.locals,f.body.filter yC,f.value⟩
def zcm (l:List Int):Pr:=⟨zbk (l.take 60),[yF (yH (l.take 60)),yF (ya (l.take 60))]⟩
theorem zhy {g:St→Nat}{G:List St→Nat} (h0:G []=0) (hc:∀ x l,G (x::l)=g x+G l) (q:St→Bool):∀ l,G (l.filter q)≤G l
 | []=>Nat.le_refl _
 | x::l=>by
   have:=zhy h0 hc q l
   rw[List.filter_cons]
   split
   ·rw[hc,hc];omega
   ·rw[hc];omega
theorem zhz {g:St→Bool}{G:List St→Bool} (h0:G []=true) (hc:∀ x l,G (x::l)=(g x&&G l)) (q:St→Bool):∀ l,G l=true→G (l.filter q)=true
 | [],h=>h0
 | x::l,h=>by
   rw[hc,Bool.and_eq_true]at h
   have:=zhz h0 hc q l h.2
   rw[List.filter_cons]
   split
   ·rw[hc,h.1,this];rfl
   ·exact this
theorem znn (q:St→Bool) (d:Nat):∀ l,mS (l.filter q) d≤mS l d
 | []=>Nat.le_refl _
 | x::l=>by
   have:=znn q d l
   rw[List.filter_cons]
   split
   ·rw[mS,mS];omega
   ·rw[mS];omega
theorem zl7 (q:St→Bool) (l:List St) (h:yX l=false):yX (l.filter q)=false:=by
 have:=zhz (g:=fun x=>!zbP x) (G:=fun l=>!yX l) rfl (fun x l=>by simp only[yX,Bool.not_or]) q l (by simp only[h];rfl)
 simpa using this
theorem zno (q:St→Bool):∀ l,rgS l→rgS (l.filter q)
 | [],h=>h
 | x::l,h=>by
   rw[rgS]at h
   have:=zno q l h.2
   rw[List.filter_cons]
   split
   ·rw[rgS];exact⟨h.1,this⟩
   ·exact this
theorem zrX (l:List Int):yE (zcm l)=0:=by
 have h:=zrW l
 have hp:zcm l=pr2 (1+yn (zF (l.take 60)).1 4) (1+yn (w64 ((zF (l.take 60)).1.tdiv 4)) 4) (yF (yH (l.take 60))) (yF (ya (l.take 60))):=rfl
 rw[hp]
 have hx:=h.x1
 have hy:=h.x2
 generalize 1+yn (zF (l.take 60)).1 4=x at *
 generalize 1+yn (w64 ((zF (l.take 60)).1.tdiv 4)) 4=y at *
 generalize l.take 60=L at *
 have d1:=h.v1.dp
 have d2:=h.v2.dp
 have c0:ScG 0 (zas (pr2 x y (yF (yH L)) (yF (ya L))) (yF (yH L))):=scPr rfl rfl rfl rfl rfl
 have c1:ScG 1 (zas (pr2 x y (yF (yH L)) (yF (ya L))) (yF (ya L))):=scPr rfl rfl rfl rfl rfl
 obtain⟨a1,a2,a3,a4,a5,a6,a7⟩:=h.b1 _ c0
 obtain⟨b1,b2,b3,b4,b5,b6,b7⟩:=h.b2 _ c1
 have ch:∀ c t l,jr c t l=true→jr c t (l.filter yC)=true:=fun c t l=>zhz rfl (fun x l=>by rw[jr]) yC l
 have wf:∀ l,zaW l=true→zaW (l.filter yC)=true:=fun l=>zhz rfl (fun x l=>by rw[zaW]) yC l
 have nn:∀ l,nS (l.filter yC)≤nS l:=fun l=>zhy rfl (fun x l=>by rw[nS]) yC l
 have ww:∀ l,wS (l.filter yC)≤wS l:=fun l=>zhy rfl (fun x l=>by rw[wS]) yC l
 have n1:=nn (yD L).1
 have n2:=nn (jg L).1
 have w1:=ww (yD L).1
 have w2:=ww (jg L).1
 have m1:=znn yC 0 (yD L).1
 have m2:=znn yC 0 (jg L).1
 have e1:zgk (yF (yH L))=false:=zou (by show 2≤6;omega) (by show 2≤8;omega) (by show nS ((yD L).1.filter yC)≤200;omega) (by show wS ((yD L).1.filter yC)≤16;omega) (by show mS ((yD L).1.filter yC) 0≤20;omega) (zl7 _ _ a4) (by show yN (jV L).1≤20;omega)
 have e2:zgk (yF (ya L))=false:=zou (by show 1≤6;omega) (by show 1≤8;omega) (by show nS ((jg L).1.filter yC)≤200;omega) (by show wS ((jg L).1.filter yC)≤16;omega) (by show mS ((jg L).1.filter yC) 0≤20;omega) (zl7 _ _ b4) (by show yN (zcE L).1≤20;omega)
 have f1:zez (yF (yH L))=true:=by
  show((fnNames (yF (yH L))).all yx&&zaW ((yD L).1.filter yC)&&wfE (jV L).1)=true
  rw[wf _ a1,h.v1.wf]
  have:(fnNames (yF (yH L))).all yx=true:=by
   show([[102],[120],[121],[105],[106]]:List (List UInt8)).all yx=true
   simp[zet]
  rw[this];rfl
 have f2:zez (yF (ya L))=true:=by
  show((fnNames (yF (ya L))).all yx&&zaW ((jg L).1.filter yC)&&wfE (zcE L).1)=true
  rw[wf _ b1,h.v2.wf]
  have:(fnNames (yF (ya L))).all yx=true:=by
   show([[103],[110],[105]]:List (List UInt8)).all yx=true
   simp[zet]
  rw[this];rfl
 have g1:zcg (pr2 x y (yF (yH L)) (yF (ya L))) (yF (yH L))=false:=by
  have e:zap (zas (pr2 x y (yF (yH L)) (yF (ya L))) (yF (yH L))).vars (zas (pr2 x y (yF (yH L)) (yF (ya L))) (yF (yH L))).an (jV L).1=true:=h.v1.df
  show(!(jr _ false ((yD L).1.filter yC)&&zap _ _ (jV L).1))=false
  rw[ch _ _ _ a2,e];rfl
 have g2:zcg (pr2 x y (yF (yH L)) (yF (ya L))) (yF (ya L))=false:=by
  have e:zap (zas (pr2 x y (yF (yH L)) (yF (ya L))) (yF (ya L))).vars (zas (pr2 x y (yF (yH L)) (yF (ya L))) (yF (ya L))).an (zcE L).1=true:=h.v2.df
  show(!(jr _ false ((jg L).1.filter yC)&&zap _ _ (zcE L).1))=false
  rw[ch _ _ _ b2,e];rfl
 have k1:zcy (pr2 x y (yF (yH L)) (yF (ya L))) (yF (yH L))=false:=by
  show(!jr _ true ((yD L).1.filter yC))=false
  rw[ch _ _ _ a3];rfl
 have k2:zcy (pr2 x y (yF (yH L)) (yF (ya L))) (yF (ya L))=false:=by
  show(!jr _ true ((jg L).1.filter yC))=false
  rw[ch _ _ _ b3];rfl
 have q3:zgl (pr2 x y (yF (yH L)) (yF (ya L)))=false:=by rw[zvD];kernel_rfl
 have q4:(pr2 x y (yF (yH L)) (yF (ya L))).funcs.any (zcg (pr2 x y (yF (yH L)) (yF (ya L))))=false:=by
  show(zcg _ _||(zcg _ _||false))=false
  rw[g1,g2];rfl
 have q5:(pr2 x y (yF (yH L)) (yF (ya L))).funcs.any (zcy (pr2 x y (yF (yH L)) (yF (ya L))))=false:=by
  show(zcy _ _||(zcy _ _||false))=false
  rw[k1,k2];rfl
 rw[yE,exB_of hx hy e1 e2,wfP_of f1 f2,q3,q4,q5];rfl
theorem zrY {l:List Int} (hr:RgL l):∀ f∈(zcm l).funcs,rgS f.body∧rgE f.value:=by
 have h:=zvB hr
 intro f hf
 simp only[zcm,List.mem_cons,List.not_mem_nil,or_false]at hf
 rcases hf with rfl|rfl
 ·have:=h (yH (l.take 60)) (by simp[jA])
  exact⟨zno _ _ this.1,this.2⟩
 ·have:=h (ya (l.take 60)) (by simp[jA])
  exact⟨zno _ _ this.1,this.2⟩
theorem flt_sz (l:List Int):(zcm l).sz≤(jA l).sz:=by
 have hs:∀ l,zu (l.filter yC)≤zu l:=fun l=>by
  induction l with
  | nil=>exact Nat.le_refl _
  | cons x l ih=>
    rw[List.filter_cons]
    split
    ·rw[zu,zu];omega
    ·rw[zu];omega
 show 1+zak (zbk (l.take 60))+za2 [yF (yH (l.take 60)),yF (ya (l.take 60))]≤1+zak (zbk (l.take 60))+za2 [yH (l.take 60),ya (l.take 60)]
 have h1:=hs (yH (l.take 60)).body
 have h2:=hs (ya (l.take 60)).body
 simp only[za2,Fu.sz,yF]
 omega
theorem zrZ {l:List Int} (hr:RgL l):PrIn (zcm l):=⟨zrX l,zrY hr⟩
theorem zr0 {l:List Int} (hr:RgL l):LwOk (zcm l):=⟨by have:=zl5 l;have:=flt_sz l;omega,fun _=>zrY hr⟩
structure ChG (g:Gr):Prop where
 len:g.nodes.length≤965
 kid:∀ n∈g.nodes,n.kids.length≤40
 h0:g.nodes[0]?=some ⟨26,0,[]⟩
 ch:zlT g.nodes→(∀ (i:Nat) (n:Nd),g.nodes[i]?=some n→stB n=true→n.kids[0]?=some (zcD g.nodes i))∧g.state=zcD g.nodes g.nodes.length
theorem zr1 (f:Fu):(j6 f).l[0]?=some ⟨26,0,[]⟩:=zhv (ziQ f).le rfl
theorem zvE {l:List Int} (hr:RgL l):∃ f g,zg9 (zcm l)=(⟨zbk (l.take 60),[f,g]⟩,0)∧ChG f∧ChG g:=by
 have hp:=zrZ hr
 have hc:∀ l,cSs (l.filter yC)≤cSs l:=fun l=>zhy rfl (fun x l=>by rw[cSs]) yC l
 have key:∀ f∈(jA l).funcs,∃ g,fnL (zcm l) (2 * (zcm l).sz+1) (yF f)=some g∧g.nodes.length≤2000∧ChG g:=fun f hf=>by
  have hf':yF f∈(zcm l).funcs:=by
   simp only[jA,List.mem_cons,List.not_mem_nil,or_false]at hf
   rcases hf with rfl|rfl<;>simp[zcm]
  obtain⟨s,v,e1,e2,hi,_⟩:=zkr hp (Nat.lt_succ_self _) hf'
  obtain⟨c1,c2⟩:=genP_c l f hf
  have c3:=hc f.body
  have e:fnL (zcm l) (2 * (zcm l).sz+1) (yF f)=some ⟨f.name,f.params.length,v.2.l,v.1,v.2.state⟩:=by rw[fnL,e1,Option.bind_some,e2,Option.bind_some];rfl
  have hn:=fnL_n e c2
  have hb:(yF f).body=f.body.filter yC:=rfl
  have hv:(yF f).value=f.value:=rfl
  rw[hb,hv]at hn
  refine⟨_,e,by omega,by omega,fun n hn=>(hi.p n hn).len,?_,fun h22=>?_⟩
  ·exact zhv (((zaD _ _).2.1 _ _ _ e1).1.l.trans (yg _ _ _ _ _ e2).le.l) (zr1 _)
  ·obtain⟨w1,w2⟩:zaW (yF f).body=true∧wfE (yF f).value=true:=by
    have h1:=(ref0 hp.ck).2.1
    rw[wfP,Bool.and_eq_true,List.all_eq_true,List.all_eq_true]at h1
    have h2:=h1.2 _ hf'
    rw[zez,Bool.and_eq_true,Bool.and_eq_true]at h2
    exact⟨h2.1.2,h2.2⟩
   obtain⟨x1,x2,x3⟩:=zvx e (fun x hx=>(List.mem_filter.1 hx).2) w1 w2 h22
   exact zrF hi.wf x1 x2 x3
 obtain⟨hs,h1,h2⟩:=zot (p:=zcm l) (n:=2 * (zcm l).sz+1) (zcm l).funcs [] fun f hf=>by
  simp only[zcm,List.mem_cons,List.not_mem_nil,or_false]at hf
  rcases hf with rfl|rfl
  ·obtain⟨g,a,b,_⟩:=key (yH (l.take 60)) (by simp[jA]);exact⟨g,a,b⟩
  ·obtain⟨g,a,b,_⟩:=key (ya (l.take 60)) (by simp[jA]);exact⟨g,a,b⟩
 have hlow:zg9 (zcm l)=(⟨zbk (l.take 60),hs⟩,0):=by
  rw[zg9,zlz,if_pos (zrX l),h1];rfl
 have hf:(zcm l).funcs=[yF (yH (l.take 60)),yF (ya (l.take 60))]:=rfl
 rw[hf]at h2
 match hs,h2,hlow with
 | [f,g],h2,hlow=>
   obtain⟨⟨a1,_⟩,⟨a2,_⟩,_⟩:=h2
   obtain⟨f',b1,_,b2⟩:=key (yH (l.take 60)) (by simp[jA])
   obtain⟨g',b3,_,b4⟩:=key (ya (l.take 60)) (by simp[jA])
   rw[a1]at b1;rw[a2]at b3
   cases b1;cases b3
   exact⟨f,g,hlow,b2,b4⟩
def ordC (i:Nat) (a b:List AV):List AV:=match i with
 | 0=>a++b
 | _+1=>b++a
structure ProgX (i:Nat) (pt:Nat→Nat) (lo b b' n:Nat) (H:Hp) (ra rf:Nat) (x y:Int) (f g:Fu) (pf lf bf:AV) (vf:List AV) (pg lg bg:AV) (vg:List AV):Prop where
 hb:3≤b∧3≤b'∧(b+4≤b'∨b'+4≤b)
 hlo:lo≤H.next
 lab:∀ q,q < lo→pt q=0
 ga:H.get ra=some (.cells [.str [97],.int .i64 x,.str [98],.int .i64 y] 0 true)
 gf:H.get rf=some (.cells (ordC i (fnC f.name pf lf bf vf) (fnC g.name pg lg bg vg)) 0 true)
 ltA:ra < H.next
 ltF:rf < H.next
 lra:pt ra=1
 lrf:pt rf=2
 F:FnL pt b n H f pf lf bf vf
 G:FnL pt b' n H g pg lg bg vg
section
variable {i:Nat} {pt:Nat → Nat} {lo b b' n:Nat} {H:Hp} {ra rf:Nat} {x y:Int} {f g:Fu} {pf lf bf:AV} {vf:List AV} {pg lg bg:AV} {vg:List AV} (h:ProgX i pt lo b b' n H ra rf x y f g pf lf bf vf pg lg bg vg)
include h
omit h in
end
theorem zai {H:Hp}{b:HB}{q:Nat} (h:q < H.next):(H.alloc b).get q=H.get q:=by rw[za,if_neg (by omega)]
end Go.Proofs.Ytpbcimfiofmoeaa
