/-
  The Go function fullinglaw8.LowerShares returns true whatever its argument is, and leaves all memory that was there as it was. Conditions: none.
-/
import Derived.OpenShut
import Derived.ProofKit
import Derived.Test.YtpbcimfiofmoeaaSIR
import Derived.WalkKit
set_option linter.unusedSimpArgs false
set_option linter.unusedVariables false
set_option linter.unusedSectionVars false
set_option linter.defProp false
set_option maxHeartbeats 32000000
namespace Go.Proofs.Ytpbcimfiofmoeaa.lowerShares
set_option maxRecDepth 20000
set_option maxRecDepth 20000
open Go Go.Ab
namespace tyLowerShares
def tyF:=And.intro @tq2 (And.intro @tq3 (And.intro @tq9 (And.intro @tq28 (And.intro @tq31 (And.intro @zfG (And.intro @tq34 (And.intro @zgk (And.intro @zcp (And.intro @zmR (And.intro @zcg (And.intro @zbb (And.intro @zbc (And.intro @zay (And.intro @zfH (And.intro @zbx (And.intro @zrQ (And.intro @xt0 (And.intro @xt1 (@bsF2)))))))))))))))))))
end tyLowerShares
open tyLowerShares Go.ChangeShapes Go.WideShapes Go.ChangeAt Go.RowKit
theorem own:ownKnob Try.prog.godebug=none:=by kernel_rfl
noncomputable def code5:{ c:SC // slim 67 (Try.f5.body.getD .skip)=c }:=by
 refine⟨?_,?_⟩
 rotate_left
 ·simp only[Try.f5,Option.getD_some,slim,zT,zR,zY,zZ,Nat.blt,Nat.ble]
  rfl
noncomputable def enLEx:En:=⟨17,false,fun args=>zhG knLEx.list 17 args⟩
theorem zsi (ρ:Nat→Int):zaF Try.prog ρ enLEx:=fun args r hr=>zfy (knLEx.ok ρ) _ args r hr
noncomputable def levS:List En:=[zkm,zrf,enNms,enW enLw,enSu,enLEx]
theorem levS_ok (ρ:Nat→Int):zdC Try.prog ρ levS:=⟨zjz ρ,zpl ρ,zrg ρ,zqB (zvQ ρ),zvZ ρ,zsi ρ,trivial⟩
theorem zsj:GenL levS:=⟨fun _=>rfl,fun _=>rfl,fun _=>rfl,fun f hf=>by rcases zlZ hf with rfl|rfl|rfl|rfl|rfl<;>exact⟨fun _=>rfl,rfl⟩⟩
theorem kLEx (H:Hp):zu Try.prog (zJ pls levS) 17 [] H fun v H'=>v=.bool true∧H'=H:=zgm rfl
theorem kSu (u:Un) (hu:SuOk u) (H:Hp):zu Try.prog (zJ pls levS) 16 [.agg u.cells,.agg u.cells] H fun v H'=>v=.bool true∧H'=H:=yd (enc:=suE) (ok:=SuOk) (out:=fun _=>.bool true) zvY (x:=u) rfl hu
def ziS:List AV:=[.int .i64 3,.str [],.str [],.int .i64 0,.int .i64 0,.int .i64 0,.str [],.int .i64 0,.nilS,.int .i64 2,.int .i64 0,.str [120],.int .i64 0,.nilS,.nilS,.nilS,.nilS]
theorem bVx:yf Try.prog 51 [(0,.int .i64 2),(2,.str [120])]=some (.agg [.int .i64 2,.int .i64 0,.str [120],.int .i64 0,.nilS]):=by kernel_rfl
theorem bSx:yf Try.prog 55 [(0,.int .i64 3),(5,.agg [.int .i64 2,.int .i64 0,.str [120],.int .i64 0,.nilS])]=some (.agg ziS):=by kernel_rfl
theorem bsSt (H:Hp):zB Try.prog H 48 1 [(0,.agg ziS)]=some (.sl H.next 0 1 17,H.alloc (.cells ziS 0 true)):=by kernel_rfl
theorem bsSt0 (H:Hp):zB Try.prog H 48 0 []=some (.sl H.next 0 0 17,H.alloc (.cells [] 0 true)):=by kernel_rfl
theorem tRow_w {S:Nat→Prop}{n:Nat}{H:Hp}:yc S (n+2) H ziS tSh.cells:=by
 have e:tSh.cells=[.int .i64 3,.str [],.str [],.int .i64 0]++zE.cells++(Ex.mk 2 0 [120] 0 []).cells++[.lst [],.lst [],.lst []]:=by rw[St.cells_eq,Ex.cells_eq,Ex.cells_eq];rfl
 rw[e]
 exact(((yc.cons (.int _ _) (.cons (.str _) (.cons (.str _) (.cons (.int _ _) .nil)))).append (zbB (n:=n+1) 0 0 0 [])).append (zbB (n:=n+1) 2 0 0 [120])).append (.cons .nilS (.cons .nilS (.cons .nilS .nil)))
theorem zpG {S:Nat→Prop}{n m:Nat}{H:Hp}{c u w:AV} (h:Ic S n H c u) (e:wkN m u=w) (hw:(∃ k x,w=.int k x)∨(∃ s,w=.str s)∨∃ l,w=.lst l):AV.one c=true:=by
 cases n with
 | zero=>exact h.elim
 | succ n=>
   cases c with
   | agg cs=>
     obtain⟨ds,_,rfl⟩:=h
     cases m<;>rcases hw with ⟨_,_,rfl⟩|⟨_,rfl⟩|⟨_,rfl⟩<;>simp[wkN]at e
   | tup cs=>
     obtain⟨_,rfl⟩:=h
     cases m<;>rcases hw with ⟨_,_,rfl⟩|⟨_,rfl⟩|⟨_,rfl⟩<;>simp[wkN]at e
   | _=>first|rfl|(obtain⟨_,rfl⟩:=h;cases m<;>rcases hw with ⟨_,_,rfl⟩|⟨_,rfl⟩|⟨_,rfl⟩<;>simp[wkN]at e)
theorem ziT {S:Nat→Prop}{n m:Nat}{H:Hp}:∀ {cs us ws:List AV},zbm (Ic S n H) cs us→us.map (wkN m)=ws→(∀ w∈ws,(∃ k x,w=.int k x)∨(∃ s,w=.str s)∨∃ l,w=.lst l)→cs.all AV.one=true
 | [],_,_,_,_,_=>rfl
 | c::cs,u::us,ws,h,e,hw=>by
   subst e
   rw[List.all_cons,zpG (m:=m) h.1 rfl (hw _ List.mem_cons_self),ziT (m:=m) h.2 rfl fun w h2=>hw w (List.mem_cons_of_mem _ h2)]
   rfl
theorem zpH (x:St):∀ w∈x.cells,(∃ k x,w=AV.int k x)∨(∃ s,w=AV.str s)∨∃ l,w=AV.lst l:=by
 rw[St.cells_eq]
 intro w hw
 simp only[List.mem_cons,List.not_mem_nil,or_false]at hw
 rcases hw with rfl|rfl|rfl|rfl|rfl|rfl|rfl|rfl|rfl|rfl|rfl|rfl|rfl|rfl|rfl|rfl|rfl<;>simp
theorem zjM {S:Nat→Prop}{n:Nat}{H:Hp}:∀ {rows:List (List AV)}{l:List St},za7 S n H 17 rows (l.map St.cells)→rows.flatten.all AV.one=true
 | [],[],_=>rfl
 | r::rows,x::l,h=>by
   obtain⟨us,h1,h2⟩:=h.1.2
   rw[List.flatten_cons,List.all_append,ziT h1 (h2 n (Nat.le_refl _)) (zpH x),zjM h.2]
   rfl
theorem pushS {P:Program}{t u e:TypeId}{z b:Nat}{zz:List AV} (ht:P.underlying t=some (.slice e)) (hs:zK P e=some z) (hb:z9 P e=some b) (hz:yl P e=some zz) (hzz:zz.length=z) (hsrc:jj P u=true)
 {S:Nat→Prop}{n:Nat}{H:Hp}{v:AV}{ws:List (List AV)} (h:yw S n H z v ws) (hlo:S H.next) {x:AV}{rows w:List (List AV)} (hx:yg H z x=some (rows.length,rows.flatten)) (hone:rows.flatten.all AV.one=true)
 (hw:za7 (fun k=>S k∧∀ o m z',v≠.sl k o m z') n H z rows w) (hb1:(ws.length+rows.length) * b≤zU) (hb2:ws.length+rows.length≤zU) :
 ∃ v' H',zV P false H t u v x=some (v',H')∧yw S n H' z v' (ws++w)∧H.next≤H'.next∧H'.next≤H.next+1∧(∀ k,k < H.next→(∀ o m z',v≠.sl k o m z')→H'.get k=H.get k)∧(∀ k o m z',v'=.sl k o m z'→k=H.next∨v'=v)∧(v'=.nilS→v=.nilS):=by
 have hwl2:rows.length=w.length:=zbm.len hw
 by_cases h0:rows=[]
 ·subst h0
  have hw0:w=[]:=List.eq_nil_of_length_eq_zero (by simpa using hwl2.symm)
  subst hw0
  refine⟨v,H,?_,by rw[List.append_nil];exact h,Nat.le_refl _,Nat.le_succ _,fun _ _ _=>rfl,fun _ _ _ _ _=>.inr rfl,fun e=>e⟩
  rcases h with ⟨rfl,rfl⟩|⟨q,imm',rows,rfl,h1,h2,h3,h4,h5⟩<;>
  ·simp only[List.length_nil]at hx
   simp only[zV,ht,hs,hb,hz,hsrc,hx]
 ·have hpos:0 < rows.length:=List.length_pos_iff.2 h0
  obtain⟨m,hm⟩:∃ m,rows.length=m+1:=⟨rows.length - 1,by omega⟩
  rcases h with ⟨rfl,rfl⟩|⟨q,imm',rows',rfl,h1,h2,h3,h4,h5⟩
  ·have hb1':rows.length * b≤zU:=by simpa using hb1
   have hb2':rows.length≤zU:=by simpa using hb2
   refine⟨.sl H.next 0 rows.length z,H.alloc (.cells rows.flatten 0 true),?_,.inr ⟨H.next,0,rows,rfl,hlo,Nat.lt_succ_self _,by rw[za,if_pos rfl],Nat.zero_le _,?_⟩,Nat.le_succ _,Nat.le_refl _,fun k hk _=>by rw[za,if_neg (by omega)],fun k o m z' e=>?_,fun e=>by cases e⟩
   ·rw[hm]at hx hb1' hb2' ⊢
    simp only[zV,ht,hs,hb,hz,hsrc,hx,hone,hzz,and_self,if_true,zaf,yY,hb1',hb2']
   ·exact za7.keep2 hw (fun k h1 h2=>⟨h2.1,by omega⟩) (Nat.le_succ _) fun k h1 h2=>by rw[za,if_neg (by omega)]
   ·simp only[AV.sl.injEq]at e
    exact .inl e.1.symm
  ·have hrl:=zcY (za7.len h5)
   have hwl:rows'.length=ws.length:=zbm.len h5
   have htr:zaf false H z (.sl q 0 rows'.length z)=H:=by
    unfold zaf
    simp only[h3,Nat.zero_add]
    have:Nat.blt (rows'.length * z) rows'.flatten.length=false:=by
     cases hb:Nat.blt (rows'.length * z) rows'.flatten.length with
     | false=>rfl
     | true=>rw[Nat.blt_eq]at hb;omega
    simp only[Bool.not_false,Bool.true_and,this,Bool.false_and]
   refine⟨.sl H.next 0 (rows'.length+rows.length) z,(H.kill q).alloc (.cells (rows'.flatten++rows.flatten) (imm' - 0) true),?_,.inr ⟨H.next,imm' - 0,rows'++rows,by simp,hlo,Nat.lt_succ_self _,?_,by rw[List.flatten_append,List.length_append];omega,?_⟩,Nat.le_succ _,Nat.le_refl _,fun k hk hno=>?_,fun k o m z' e=>?_,fun e=>by cases e⟩
   ·rw[hm]at hx hb1 hb2 ⊢
    simp only[zV,ht,hs,hb,hz,hsrc,hx,hone,htr,hzz,and_self,if_true,yY,h3,Nat.zero_add,List.drop_zero,Bool.false_eq_true,if_false]
    rw[if_pos ⟨by rw[hwl];exact hb1,by rw[hwl];exact hb2,by omega,trivial,h4⟩]
   ·show((H.kill q).alloc _).get (H.kill q).next=_
    rw[za,if_pos rfl];simp
   ·have hold:∀ k,k < H.next→k≠q→((H.kill q).alloc (.cells (rows'.flatten++rows.flatten) (imm' - 0) true)).get k=H.get k:=fun k h6 h7=>by rw[za,if_neg (by simp only[z6];omega),zS,if_neg h7]
    refine zbm.append (h5.keep2 (fun k h6 h7=>⟨h7.1,by omega⟩) (Nat.le_succ _) fun k h6 h7=>hold k h7 h6.2) (za7.keep2 hw (fun k h6 h7=>⟨h7.1,by omega⟩) (Nat.le_succ _) fun k h6 h7=>hold k h7 fun e=>h6.2 0 rows'.length z (by rw[e]))
   ·rw[za,if_neg (by simp only[z6];omega),zS,if_neg (fun e=>hno 0 rows'.length z (by rw[e]))]
   ·simp only[AV.sl.injEq]at e
    exact .inl e.1.symm
theorem copySt {n:Nat}{S:Nat→Prop}{H:Hp}{v:AV}{l:List St} (h:yw S n H 17 v (l.map St.cells)) (hl:l.length < 2 ^ 25) (s0:S H.next) (s1:S (H.next+1)) :
 ∃ v' H',zV Try.prog false (H.alloc (.cells [] 0 true)) 48 48 (.sl H.next 0 0 17) v=some (v',H')∧yw S n H' 17 v' (l.map St.cells)∧H.next+1≤H'.next∧(∀ k,k < H.next→H'.get k=H.get k)∧(∀ k o m z',v'=.sl k o m z'→H.next≤k):=by
 have hk:∀ k,k < H.next→(H.alloc (.cells [] 0 true)).get k=H.get k:=fun k hk=>zba hk
 have h0:yw S n (H.alloc (.cells [] 0 true)) 17 (.sl H.next 0 0 17) []:=.inr ⟨H.next,0,[],rfl,s0,Nat.lt_succ_self _,by rw[za,if_pos rfl];rfl,Nat.le_refl _,trivial⟩
 obtain⟨rows,hr,hx⟩:∃ rows,za7 S n H 17 rows (l.map St.cells)∧yg (H.alloc (.cells [] 0 true)) 17 v=some (rows.length,rows.flatten):=by
  rcases h with ⟨rfl,e⟩|⟨q,imm,rows,rfl,h1,h2,h3,h4,h5⟩
  ·rw[e];exact⟨[],trivial,rfl⟩
  ·have hl2:=zcY (za7.len h5)
   refine⟨rows,h5.frame (fun k hk=>hk.1) (Nat.le_refl _) fun _ _ _=>rfl,?_⟩
   have:=zdm (H:=H.alloc (.cells [] 0 true)) (r:=q) (o:=0) (n:=rows.length) (z:=17) (s:=17) (by rw[hk q h2];exact h3) (by rw[List.drop_zero,List.length_take];omega)
   rw[this,List.drop_zero,List.take_of_length_le (by omega)]
 have hrl:rows.length=l.length:=(zbm.len hr).trans (List.length_map _)
 obtain⟨v',H',a1,a2,a3,a4,a5,a6,_⟩:=pushS (P:=Try.prog) (t:=48) (u:=48) Try.underlying48 sz55 bt55 zStmt rfl (by kernel_rfl) h0 s1 hx (zjM hr)
  (hr.keep2 (fun k h1 h2=>⟨h2,fun o m z' e=>by simp only[AV.sl.injEq]at e;omega⟩) (Nat.le_succ _) fun k _ h=>hk k h)
  (by simp only[List.length_nil,show zU=70368744177664 from rfl];omega) (by simp only[List.length_nil,show zU=70368744177664 from rfl];omega)
 simp only[zb]at a3 a5 a6
 refine⟨v',H',a1,a2,a3,fun k h1=>by rw[a5 k (by omega) fun o m z' e=>by simp only[AV.sl.injEq]at e;omega,hk k h1],fun k o m z' e=>?_⟩
 rcases a6 k o m z' e with e2|e2
 ·omega
 ·rw[e2]at e
  simp only[AV.sl.injEq]at e
  omega
set_option maxRecDepth 100000 in
theorem law (l:List Int) (hl:l.length < 2 ^ 63) (hL:RgL l):zu Try.prog (zJ pls levS) 5 [.lst (l.map fun n=>[AV.int .i64 n])] H0 fun v _=>v=.bool true:=by
 have hw:Plain (zJ pls levS) 5:=yD (fun _=>rfl) rfl
 have hkeep:(zJ pls levS).keep 5=false:=rfl
 refine zi (M:=67) (rs:=[.tmp 2]) (hw.call _) hw.ice hw.froz Try.func5 rfl rfl code5.2 rfl ?_;dsimp only[code5,zH,Nat.reduceAdd]
 repeat' (first
  | (apply Rx.nl ?_;clear hK K)|apply Rx.o ?_|apply Rx.on ?_|(apply Rx.cd (fun hb hbp=>?_) (fun hb hbp=>?_)<;>try (cases hb;done))|apply Wp.seq ?_|(apply zd fun K hK=>?_)|(apply zf 11 [(0,7),(2,7),(4,7),(5,7)] fun K hK=>?_)|(apply zr ?_;try intro _)|(apply zt ?_ ?_<;>clear hK K)|apply WpT.step ?_|apply zm rfl ?_|apply Wp.block ?_|apply zh ?_|apply Rx.rt ?_|apply zj ?_)
 refine WpL.call rfl eVk eAk ?_;simp only[List.cons_append,List.nil_append,List.append_nil]
 refine zu.mono ?_ (znw zsj (stAll zsj) l hl H0)
 rintro _ Hq ⟨ra,rf,x,y,cf,cg,rfl,hPM,_,_,_,pt,pf,lf,bf,vf,pg,lg,bg,vg,rfl,rfl,hP,hA,hlab⟩
 obtain⟨v0,v1,v2,v3,v4,rfl⟩:=zcL hP.F.len
 obtain⟨w0,w1,w2,w3,w4,rfl⟩:=zcL hP.G.len
 clear hlab
 have gf:=hP.gf
 change Hq.get rf=some (.cells [.str [102],pf,lf,bf,v0,v1,v2,v3,v4,.str [103],pg,lg,bg,w0,w1,w2,w3,w4] 0 true)at gf
 have ga:=hP.ga
 have ltA:=hP.ltA
 have ltF:=hP.ltF
 have i0:∀ r,zq Try.prog 40 (.sl r 0 2 9) (.int .i64 0)=some (.ptr r 0):=fun r=>by kernel_rfl
 have i1:∀ r,zq Try.prog 40 (.sl r 0 2 9) (.int .i64 1)=some (.ptr r 9):=fun r=>by kernel_rfl
 have hc0:yc (fun q=>q < Hq.next) 15 Hq [.sl ra 0 2 2,.sl rf 0 2 9] (yG l).cells:=hPM.cells.keep2 (fun q h _=>h) (Nat.le_refl _) fun _ _ _=>rfl
 obtain⟨gf1,gg1,hlow,_,_,hn1,hn2,hn3,hn4⟩:=zou hL
 dsimp only[zA]
 repeat' (first
  | (apply Rx.nl ?_;clear hK K)|apply Rx.o ?_|apply Rx.on ?_|(apply Rx.cd (fun hb hbp=>?_) (fun hb hbp=>?_)<;>try (cases hb;done))|apply Wp.seq ?_|(apply zd fun K hK=>?_)|(apply zf 11 [(0,7),(2,7),(4,7),(5,7)] fun K hK=>?_)|(apply zr ?_;try intro _)|(apply zt ?_ ?_<;>clear hK K)|apply WpT.step ?_|apply zm rfl ?_|apply Wp.block ?_|apply zh ?_|apply Rx.rt ?_|apply zj ?_)
 refine WpL.call rfl eVk eAk ?_;simp only[List.cons_append,List.nil_append,List.append_nil]
 generalize hH1:Hp.set (Hp.alloc Hq _) Hq.next _=H1
 have n1:H1.next=Hq.next+1:=by rw[← hH1];rfl
 have g1:H1.get Hq.next=some (.cells [.sl ra 0 2 2,.sl rf 0 2 9] 0 true):=by rw[← hH1,Hp.get_set,if_pos rfl]
 have k1:∀ q,q < Hq.next→H1.get q=Hq.get q:=fun q h=>by rw[← hH1,Hp.get_set,if_neg (by omega),zba h]
 clear hH1
 have hc1:yc (fun q=>q < Hq.next) 51 H1 [.sl ra 0 2 2,.sl rf 0 2 9] (yG l).cells:=(hc0.up (by omega)).keep (fun _ h=>h) (by omega) fun q h _=>k1 q h
 refine zu.mono ?_ (lwX (fun _=>rfl) rfl (n:=51) (by omega) hc1 (zsa hL))
 rintro _ H2 ⟨rfl,hI1⟩
 rw[hlow]
 have g2:=(hI1.out Hq.next (by omega)).trans g1
 have n2:=hI1.next
 obtain⟨jf,gf2⟩:∃ j,H2.get rf=some (.cells [.str [102],pf,lf,bf,v0,v1,v2,v3,v4,.str [103],pg,lg,bg,w0,w1,w2,w3,w4] j true):=by
  rcases hI1.same rf with e|⟨cs,a,b,tip,e1,e2,_⟩
  ·exact⟨0,by rw[← e,k1 rf ltF];exact gf⟩
  ·rw[k1 rf ltF,gf]at e1
   simp only[Option.some.injEq,HB.cells.injEq]at e1
   obtain⟨rfl,rfl,rfl⟩:=e1
   exact⟨b,e2⟩
 have icyR:∀ {S:Nat→Prop}{n z:Nat}{v:AV}{ws:List (List AV)},yw S n Hq z v ws→yw (fun k=>k < Hq.next) n H2 z v ws:=fun h=>((h.keep (S':=fun k=>k < Hq.next) (H':=H1) (fun k h1 _=>h1) (by omega) fun k _ h2=>k1 k h2)).icyB (by omega) fun k _ _=>hI1.same k
 have icyC:∀ {S:Nat→Prop}{n:Nat}{cs ds:List AV},yc S n Hq cs ds→yc (fun k=>k < Hq.next) n H2 cs ds:=fun h=>(h.keep2 (S':=fun k=>k < Hq.next) (H':=H1) (fun k h1 _=>h1) (by omega) fun k _ h2=>k1 k h2).frame (fun _ h=>h) (by omega) fun k _ _=>hI1.same k
 obtain⟨z0,z1,z2,z3,z4⟩:=zi7 hP.F.one
 obtain⟨y0,y1,y2,y3,y4⟩:=zi7 hP.G.one
 have rpf:=icyR hP.F.ps
 have rlf:=icyR hP.F.ls
 have rbf:=icyR hP.F.bo
 have rvf:=icyC hP.F.vw
 have rpg:=icyR hP.G.ps
 have rlg:=icyR hP.G.ls
 have rbg:=icyR hP.G.bo
 have rvg:=icyC hP.G.vw
 obtain⟨ja,ga2⟩:∃ j,H2.get ra=some (.cells [.str [97],.int .i64 x,.str [98],.int .i64 y] j true)∧j≤4:=by
  rcases hI1.same ra with e|⟨cs,a,b,tip,e1,e2,e3⟩
  ·exact⟨0,by rw[← e,k1 ra ltA];exact ga,by omega⟩
  ·rw[k1 ra ltA,ga]at e1
   simp only[Option.some.injEq,HB.cells.injEq]at e1
   obtain⟨rfl,rfl,rfl⟩:=e1
   exact⟨b,e2,e3 (by omega)⟩
 clear hc1 hc0 hPM hP icyR icyC gf ga g1 k1 hI1
 have huc:(Un.mk (za9 (l.take 60)) [gf1,gg1]).cells=[.lst ((za9 (l.take 60)).map Ar.cells),.lst ([gf1,gg1].map Gr.cells)]:=rfl
 have hu:SuOk (Un.mk (za9 (l.take 60)) [gf1,gg1]):=⟨by show 2 < 2 ^ 30;omega,by show 2 < 2 ^ 30;omega,fun g hg=>by
  simp only[List.mem_cons,List.not_mem_nil,or_false]at hg
  rcases hg with rfl|rfl
  ·exact⟨by omega,fun n hn=>by have:=hn3 n hn;omega⟩
  ·exact⟨by omega,fun n hn=>by have:=hn4 n hn;omega⟩⟩
 generalize hAr:(za9 (l.take 60)).map Ar.cells=ars at *
 generalize hGr:[gf1,gg1].map Gr.cells=grs at *
 have hgl:grs.length=2:=by rw[← hGr];rfl
 dsimp only[zA]
 simp only[huc]
 have o1:AV.one pf=true∧AV.one lf=true∧AV.one bf=true:=⟨rpf.one.1,rlf.one.1,rbf.one.1⟩
 obtain⟨n2a,n2b⟩:H2.next≤Hq.next+1∧Hq.next+1≤H2.next:=by omega
 clear n1 n2
 repeat' (first
  | (apply Rx.nl ?_;clear hK K)|apply Ry.o ?_|apply Ry.on ?_|(apply Ry.gd (fun hg hgp=>?_) (fun hg hgp=>?_)<;>try (cases hg;done))|(apply Ry.cd (fun hb hbp=>?_) (fun hb hbp=>?_)<;>try (cases hb;done))|apply Wp.seq ?_|(apply zd fun K hK=>?_)|(apply zf 11 [(0,7),(2,7),(4,7),(5,7)] fun K hK=>?_)|(apply zr ?_;try intro _)|(apply zt ?_ ?_<;>clear hK K)|apply WpT.step ?_|apply zm rfl ?_|apply Wp.block ?_|apply zh ?_|apply Rx.rt ?_|apply zj ?_)
 generalize hH3:Hp.set (Hp.alloc H2 _) H2.next _=H3
 have n3:H3.next=H2.next+1:=by rw[← hH3];rfl
 have g3:H3.get H2.next=some (.cells [.lst ars,.lst grs] 0 true):=by rw[← hH3,Hp.get_set,if_pos rfl]
 have k3:∀ q,q < H2.next→H3.get q=H2.get q:=fun q h=>by rw[← hH3,Hp.get_set,if_neg (by omega),zba h]
 have g3p:=(k3 Hq.next (by omega)).trans g2
 have g3f:=(k3 rf (by omega)).trans gf2
 clear hH3
 have ag9:yV 9 [.str [102],pf,lf,bf,v0,v1,v2,v3,v4,.str [103],pg,lg,bg,w0,w1,w2,w3,w4]=some (.agg [.str [102],pf,lf,bf,v0,v1,v2,v3,v4]):=rfl
 obtain⟨n3a,n3b⟩:H3.next≤H2.next+1∧H2.next+1≤H3.next:=by omega
 clear n3
 repeat' (first
  | (apply Rx.nl ?_;clear hK K)|apply Rx.o ?_|apply Rx.on ?_|(apply Rx.cd (fun hb hbp=>?_) (fun hb hbp=>?_)<;>try (cases hb;done))|apply Wp.seq ?_|(apply zd fun K hK=>?_)|(apply zf 11 [(0,7),(2,7),(4,7),(5,7)] fun K hK=>?_)|(apply zr ?_;try intro _)|(apply zt ?_ ?_<;>clear hK K)|apply WpT.step ?_|apply zm rfl ?_|apply Wp.block ?_|apply zh ?_|apply Rx.rt ?_|apply zj ?_)
 generalize hH4:Hp.set (Hp.alloc H3 _) H3.next _=H4
 have n4:H4.next=H3.next+1:=by rw[← hH4];rfl
 have g4:H4.get H3.next=some (.cells [.str [102],pf,lf,bf,v0,v1,v2,v3,v4] 0 true):=by rw[← hH4,Hp.get_set,if_pos rfl]
 have k4:∀ q,q < H3.next→H4.get q=H3.get q:=fun q h=>by rw[← hH4,Hp.get_set,if_neg (by omega),zba h]
 clear hH4
 have bl:(jP (l.take 60)).body.length < 2 ^ 25:=by
  have h1:=za2 (jP (l.take 60)).body
  have h2:=ziO l
  have h3:(yG l).sz=1+zaj (za9 (l.take 60))+za0 [jP (l.take 60),z8 (l.take 60)]:=rfl
  simp only[za0,Fu.sz]at h3
  omega
 have rb4:yw (fun k=>k≠H3.next∧k≠Hq.next∧k≠H2.next) 14 H4 17 bf ((jP (l.take 60)).body.map St.cells):=rbf.keep (fun k _ h=>by have:k < Hq.next:=h;omega) (by omega) fun k h _=>(k4 k (by omega)).trans (k3 k (by omega))
 obtain⟨b5,H5,a1,a2,a3,a4,a5⟩:=copySt rb4 (by omega) (by omega) (by omega)
 have e1:(H3.next == H4.next)=false:=zF (by omega)
 have g5:=(a4 H3.next (by omega)).trans g4
 obtain⟨o5,o5'⟩:=a2.one
 obtain⟨n4a,n4b⟩:H4.next≤H3.next+1∧H3.next+1≤H4.next:=by omega
 clear n4
 have gh0:=@bsSt0
 repeat' (first
  | (apply Rx.nl ?_;clear hK K)|apply Rx.o ?_|apply Rx.on ?_|(apply Rx.cd (fun hb hbp=>?_) (fun hb hbp=>?_)<;>try (cases hb;done))|apply Wp.seq ?_|(apply zd fun K hK=>?_)|(apply zf 11 [(0,7),(2,7),(4,7),(5,7)] fun K hK=>?_)|(apply zr ?_;try intro _)|(apply zt ?_ ?_<;>clear hK K)|apply WpT.step ?_|apply zm rfl ?_|apply Wp.block ?_|apply zh ?_|apply Rx.rt ?_|apply zj ?_)
 have gJ:(H5.set H3.next (.cells [.str [102],pf,lf,b5,v0,v1,v2,v3,v4] 0 true)).get H3.next=some (.cells [.str [102],pf,lf,b5,v0,v1,v2,v3,v4] 0 true):=by rw[Hp.get_set,if_pos rfl]
 have oJ:∀ k,k < H4.next→k≠H3.next→(H5.set H3.next (.cells [.str [102],pf,lf,b5,v0,v1,v2,v3,v4] 0 true)).get k=H4.get k:=fun k h1 h2=>by rw[Hp.get_set,if_neg h2,a4 k h1]
 refine yj [3,4,5,6] [] 7 3 (fun i E H=>∃ v,H.get H3.next=some (.cells [.str [102],pf,lf,v,v0,v1,v2,v3,v4] 0 true)∧yw (fun k=>k≠H3.next∧k≠Hq.next∧k≠H2.next) 14 H 17 v (((jP (l.take 60)).body++List.replicate i tSh).map St.cells)∧(∀ k o m z',v=.sl k o m z'→H4.next≤k)∧∀ k,k < H4.next→k≠H3.next→H.get k=H4.get k) eE ⟨b5,gJ,?_,a5,oJ⟩ ?_
 ·rw[List.replicate_zero,List.append_nil]
  exact a2.keep (fun _ _ h=>h) (Nat.le_refl _) fun k h _=>by rw[Hp.get_set,if_neg h.1]
 rintro i E H6 hi hcE hrH hnH hsI ⟨v6,g6,r6,l6,k6⟩
 (try simp only[zk,zl,and_true,sB,sO,Nat.reduceBEq,Nat.reduceAdd,Nat.reduceLeDiff,tyF, *]at hcE)
 (try simp only[zk,zl,and_true,sB,sO,Nat.reduceBEq,Nat.reduceAdd,Nat.reduceLeDiff,tyF, *]at hrH)
 (try simp only[zb,ze,zM,Nat.zero_add,Nat.reduceAdd]at hnH)
 have nx6:H4.next+1≤H6.next:=by omega
 have e2:(H3.next == H6.next)=false:=zF (by omega)
 have len6:(((jP (l.take 60)).body++List.replicate i tSh).map St.cells).length < 2 ^ 26:=by rw[List.length_map,List.length_append,List.length_replicate];omega
 have hx7:yg (H6.alloc (.cells ziS 0 true)) 17 (.sl H6.next 0 1 17)=some ([ziS].length,[ziS].flatten):=by
  rw[zdm (H:=H6.alloc (.cells ziS 0 true)) (r:=H6.next) (o:=0) (n:=1) (z:=17) (s:=17) (cs:=ziS) (imm:=0) (tip:=true) (by rw[za,if_pos rfl]) rfl];rfl
 obtain⟨v7,H7,p1,p2,p3,p3',p4,p5,_⟩:=pushS (P:=Try.prog) (t:=48) (u:=48) Try.underlying48 sz55 bt55 zStmt rfl (by kernel_rfl) (r6.keep (S':=fun k=>k≠H3.next∧k≠Hq.next∧k≠H2.next) (H':=H6.alloc (.cells ziS 0 true)) (fun _ _ h=>h) (Nat.le_succ _) fun k _ h=>zba h) (by show H6.next+1≠_∧H6.next+1≠_∧H6.next+1≠_;omega) (rows:=[ziS]) (w:=[tSh.cells]) hx7 rfl ⟨⟨rfl,tRow_w (n:=12)⟩,trivial⟩ (by simp only[show zU=70368744177664 from rfl,List.length_cons,List.length_nil];omega) (by simp only[show zU=70368744177664 from rfl,List.length_cons,List.length_nil];omega)
 simp only[zb]at p3 p3' p4 p5
 obtain⟨o7,o7'⟩:=p2.one
 obtain⟨o6,o6'⟩:=r6.one
 have g7:H7.get H3.next=some (.cells [.str [102],pf,lf,v6,v0,v1,v2,v3,v4] 0 true):=by
  rw[p4 H3.next (by omega) fun o m z' e=>by have:=l6 _ o m z' e;omega,zba (by omega)];exact g6
 have ag9':yV 9 [.str [102],pf,lf,v6,v0,v1,v2,v3,v4]=some (.agg [.str [102],pf,lf,v6,v0,v1,v2,v3,v4]):=rfl
 have gr6:H6.get rf=some (.cells [.str [102],pf,lf,bf,v0,v1,v2,v3,v4,.str [103],pg,lg,bg,w0,w1,w2,w3,w4] jf true):=by
  rw[k6 rf (by omega) (by omega),k4 rf (by omega)];exact g3f
 have gp6:H6.get Hq.next=some (.cells [.sl ra 0 2 2,.sl rf 0 2 9] 0 true):=by
  rw[k6 Hq.next (by omega) (by omega),k4 Hq.next (by omega)];exact g3p
 have ag18:yV 9 [.str [103],pg,lg,bg,w0,w1,w2,w3,w4]=some (.agg [.str [103],pg,lg,bg,w0,w1,w2,w3,w4]):=rfl
 have e3:(Hq.next == H6.next)=false:=zF (by omega)
 have e6:(H3.next == Hq.next)=false:=zF (by omega)
 have e7:(rf == Hq.next)=false:=zF (by omega)
 have e8:(rf == H6.next)=false:=zF (by omega)
 have e4:(ra == H6.next)=false:=zF (by omega)
 have e5:(H6.next == Hq.next)=false:=zF (by omega)
 obtain⟨o8,o8'⟩:=rpg.one
 obtain⟨o9,o9'⟩:=rlg.one
 obtain⟨oa,oa'⟩:=rbg.one
 have gh0:=@bVx
 have gh1:=@bSx
 have gh2:=@bsSt
 repeat' (first
  | (apply Rx.nl ?_;clear hK K)|apply Rx.o ?_|apply Rx.on ?_|(apply Rx.cd (fun hb hbp=>?_) (fun hb hbp=>?_)<;>try (cases hb;done))|apply Wp.seq ?_|(apply zd fun K hK=>?_)|(apply zf 11 [(0,7),(2,7),(4,7),(5,7)] fun K hK=>?_)|(apply zr ?_;try intro _)|(apply zt ?_ ?_<;>clear hK K)|apply WpT.step ?_|apply zm rfl ?_|apply Wp.block ?_|apply zh ?_|apply Rx.rt ?_|apply zj ?_)
 ·have hlt:i < 3:=by omega
  refine⟨by omega,eL,eL,eN,(by simp only[sB,Nat.reduceBEq, *];exact z7 (n:=3) (by omega) (by omega)),?_⟩
  refine⟨v7,by rw[Hp.get_set,if_pos rfl],?_,fun k o m z' e=>?_,fun k h1 h2=>?_⟩
  ·rw[List.replicate_succ',← List.append_assoc,List.map_append]
   exact p2.keep (fun _ _ h=>h) (Nat.le_refl _) fun k h _=>by rw[Hp.get_set,if_neg h.1]
  ·rcases p5 k o m z' e with e2|e2
   ·omega
   ·rw[e2]at e;exact l6 k o m z' e
  ·rw[Hp.get_set,if_neg h2,p4 k (by omega) fun o m z' e=>by have:=l6 _ o m z' e;omega,zba (by omega)]
   exact k6 k h1 h2
 ·exact eK
 ·have hie:i=3:=by omega
  subst hie
  clear hnH p1 p2 p3 p3' p4 p5 g7 hi
  generalize hH8:Hp.set (Hp.alloc H6 _) Hq.next _=H8
  have n8:H8.next=H6.next+1:=by rw[← hH8];rfl
  have g8:H8.get H6.next=some (.cells [.str [102],pf,lf,v6,v0,v1,v2,v3,v4,.str [103],pg,lg,bg,w0,w1,w2,w3,w4] 0 true):=by rw[← hH8,Hp.get_set,if_neg (by omega),za,if_pos rfl]
  have k8:∀ q,q < H6.next→q≠Hq.next→H8.get q=H6.get q:=fun q h h2=>by rw[← hH8,Hp.get_set,if_neg h2,zba h]
  clear hH8
  obtain⟨n8a,n8b⟩:H8.next≤H6.next+1∧H6.next+1≤H8.next:=by omega
  clear n8
  have kk:∀ q,q < Hq.next→H8.get q=H2.get q:=fun q h=>by
   rw[k8 q (by omega) (by omega),k6 q (by omega) (by omega),k4 q (by omega),k3 q (by omega)]
  have cv:∀ {z:Nat}{v:AV}{ws:List (List AV)},yw (fun k=>k < Hq.next) 14 H2 z v ws→RdW (fun q=>q≠H2.next) 50 H8 v (.lst ws):=fun h=>(h.keep (S':=fun q=>q≠H2.next) (H':=H8) (fun k _ h2=>by have:k < Hq.next:=h2;omega) (by omega) fun k h1 _=>kk k h1).rd.up (by omega)
  have cw:∀ {cs ds:List AV},yc (fun k=>k < Hq.next) 14 H2 cs ds→yc (fun q=>q≠H2.next) 50 H8 cs ds:=fun h=>(h.keep2 (S':=fun q=>q≠H2.next) (H':=H8) (fun k _ h2=>by have:k < Hq.next:=h2;omega) (by omega) fun k h1 _=>kk k h1).up (by omega)
  have r8:RdW (fun q=>q≠H2.next) 50 H8 v6 (.lst ((fSh (l.take 60)).body.map St.cells)):=(r6.keep (S':=fun q=>q≠H2.next) (H':=H8) (fun k _ h2=>h2.2.2) (by omega) fun k h1 h2=>k8 k h2 h1.2.1).rd.up (by omega)
  have cc:yc (fun q=>q≠H2.next) 51 H8 [.sl ra 0 2 2,.sl H6.next 0 2 9] (pSh l).cells:=by
   refine .cons ?_ (.cons ?_ .nil)
   ·have eA:(pSh l).arrays.map Ar.cells=[[.str [97],.int .i64 x],[.str [98],.int .i64 y]]:=by show(za9 (l.take 60)).map Ar.cells=_;rw[hA];rfl
    rw[eA]
    exact RdW.rows (n:=50) (a:=[[.str [97],.int .i64 x],[.str [98],.int .i64 y]]) (imm:=ja) (tip:=true) (show ra≠H2.next by omega) (by omega) (by rw[kk ra ltA];exact ga2.1) ga2.2 ⟨⟨rfl,.cons (.str _) (.cons (.int _ _) .nil)⟩,⟨rfl,.cons (.str _) (.cons (.int _ _) .nil)⟩,trivial⟩
   ·exact RdW.rows (n:=50) (a:=[[.str [102],pf,lf,v6,v0,v1,v2,v3,v4],[.str [103],pg,lg,bg,w0,w1,w2,w3,w4]]) (b:=[(fSh (l.take 60)).cells,(z8 (l.take 60)).cells]) (imm:=0) (tip:=true) (show H6.next≠H2.next by omega) (by omega) g8 (by simp) ⟨⟨rfl,zhA (n:=49) [102] rfl (cv rpf) (cv rlf) r8 (cw rvf)⟩,⟨rfl,zhA (n:=49) [103] rfl (cv rpg) (cv rlg) (cv rbg) (cw rvg)⟩,trivial⟩
  refine WpL.call rfl eVk eAk ?_;simp only[List.cons_append,List.nil_append,List.append_nil]
  refine zu.mono ?_ (lwX (fun _=>rfl) rfl (n:=51) (by omega) cc (zvU hL))
  rintro _ H9 ⟨rfl,hI9⟩
  rw[sh_low hL,hlow]
  have g9:=(hI9.out H2.next (by omega)).trans ((k8 H2.next (by omega) (by omega)).trans ((k6 H2.next (by omega) (by omega)).trans ((k4 _ (by omega)).trans g3)))
  dsimp only[zA]
  simp only[huc]
  have e9:(H2.next == H9.next)=false:=zF (by have:=hI9.next;omega)
  have kS:∀ H,zu Try.prog (zJ pls levS) 16 [.agg [.lst ars,.lst grs],.agg [.lst ars,.lst grs]] H fun v H'=>v=.bool true∧H'=H:=fun H=>by have:=kSu _ hu H;rw[huc]at this;exact this
  repeat' (first
   | (apply Rx.nl ?_;clear hK K)|apply Ry.o ?_|apply Ry.on ?_|(apply Ry.call ?_;first|refine jM (kS _) ?_|refine jM (kLEx _) ?_)|(apply Ry.gd (fun hg hgp=>?_) (fun hg hgp=>?_)<;>try (cases hg;done))|(apply Ry.cd (fun hb hbp=>?_) (fun hb hbp=>?_)<;>try (cases hb;done))|apply Wp.seq ?_|(apply zd fun K hK=>?_)|(apply zf 11 [(0,7),(2,7),(4,7),(5,7)] fun K hK=>?_)|(apply zr ?_;try intro _)|(apply zt ?_ ?_<;>clear hK K)|apply WpT.step ?_|apply zm rfl ?_|apply Wp.block ?_|apply zh ?_|apply Rx.rt ?_|apply zj ?_)
  all_goals (refine⟨eI,_,eR,?_⟩;try simp only[zp])
theorem con (l:List Int) (hl:l.length < 2 ^ 63) (hL:RgL l):Con Try.prog (fun _=>0) 5 [zkI l] (.bool true):=
 yO fit (pls:=pls) (levS_ok _) (.cons (zkJ l) .nil) (.bool _) (law l hl hL)
set_option maxRecDepth 100000 in
theorem walk {H:Type}{enc:TypeId×Value→H} (W:World) (v0:Value) {r:Reach}{b0:Nat} (k0:Value.okWide Try.prog W r b0 23 v0) {d:DataW H}{ps:List MemPlace}{sp:Nat→Bool}{held:Bool} (h0:DataW.Trod enc Try.prog W 0 sp held 23 v0 d ps) :
 Calls Try.prog 5 #[v0] W fun e w'=>e=.returned (.bool true)∧Below W.heap.size W w':=by
 obtain⟨l,hv,hl,hr⟩:=znz k0 h0
 exact zlg (ρ:=fun _=>0) (F:=memF W) (con l hl hr) (zv0 W) (VRs.cons hv (VRs.nil _))
set_option maxRecDepth 100000 in
theorem lifted (os:Os) (started:os.Started) (H:Type) (enc:TypeId×Value→H) :
 ReturnsInHanded {} Try.checked os 5 .any (Rows.lowerSharesSpec.pre6 enc Try.prog Try.f5 Rows.lowerSharesRow.domain false) (Rows.lowerSharesSpec.post enc Try.prog Try.f5 false true false false):=by
 refine returnsInHanded_of_change (C:=Try.checked) own started (by kernel_rfl) Try.func5
  (ChangeSpec.witness6 (enc:=enc) (C:=Try.checked) false ⟨#[],#[.slice none 0 0],[]⟩ 8 (by kernel_rfl) (by kernel_rfl) (by kernel_rfl) (by kernel_rfl)) ?_
 intro W base args ds gs before hval0 hW hcnd _
 have hval:∀ (j:Nat) t v,Try.f5.params[j]?=some t→args[j]?=some v→Value.okWide Try.prog W .any base t v:=hval0
 have hW':=hW
 obtain⟨p,q,hA0,hV,rfl,hfz,hnd⟩:=hW
 have hA:DataW.TrodAll enc Try.prog W 0 (fun _=>true) true Try.f5.params.toList args.toList ds p:=hA0
 rw[Try.params5]at hA hval
 obtain⟨v0,vs0,d0,ds0,p0,q0,hargs,rfl,rfl,h0,r0⟩:=trodAll_cons hA
 obtain⟨rfl,rfl,rfl⟩:=trodAll_nil r0
 obtain rfl:args=#[v0]:=by cases args;simp_all
 obtain⟨rfl,rfl⟩:=trodVars_none hV
 have k0:=hval 0 23 v0 rfl rfl
 clear hA0 hval0
 refine(walk W v0 k0 h0).mono fun e W' ⟨he,hg⟩=>?_
 subst he
 exact⟨_,rfl,zi1 (pv:=[]) hW' (fun _ _ _=>(trodAll_cons_mk (shut_bool Try.underlying4 _) trodAll_mk0)) (fun sp hsp=>(trodAll_cons_mk (zpE (by kernel_rfl) (by kernel_rfl) (of_decide_eq_true (by kernel_rfl)) h0 hg (fun p hp=>hW'.lt p hp) (fun x hx=>by simp[hx]) hsp) trodAll_mk0)) (fun _ _=>rfl) (by simp) hg (ok_one (by kernel_rfl) rfl (okWide_bool_mk Try.underlying4 _))⟩
theorem over:Rows.lowerSharesRow.holds Try.pinned (OpenSpec.ofChange Rows.lowerSharesSpec):=
 OpenClaim.holds_of_wide 5 Try.f5 rfl rfl rfl rfl rfl rfl rfl ⟨rfl,rfl,rfl,rfl,rfl⟩ rfl rfl rfl rfl rfl (by kernel_rfl) Try.func5 (by kernel_rfl)
  (of_decide_eq_true (by kernel_rfl)) (by unfold Func.isWrapper;first|(rw[if_pos (by decide +kernel)];kernel_rfl)|(rw[if_neg (by decide +kernel)];exact⟨rfl,rfl⟩))
  (fun os started H enc _=>lifted os started H enc)
theorem proved:Rows.LowerSharesSaid:=
 over
#print axioms proved
end Go.Proofs.Ytpbcimfiofmoeaa.lowerShares
