/-
  The Go function fullinglaw7.IRLoops returns true whatever its three arguments are, and leaves all memory that was there as it was. Conditions: none.
-/
import Derived.OpenShut
import Derived.ProofKit
import Derived.Test.YtpbcimfiofmoeaaSLM
import Derived.WalkKit
set_option linter.unusedSimpArgs false
set_option linter.unusedVariables false
set_option linter.unusedSectionVars false
set_option linter.defProp false
set_option maxHeartbeats 32000000
namespace Go.Proofs.Ytpbcimfiofmoeaa.iRLoops
set_option maxRecDepth 20000
set_option maxRecDepth 20000
open Go Go.Ab
namespace tyIRLoops
def tyF:=And.intro @tq2 (And.intro @tq3 (And.intro @tq4 (And.intro @tq9 (And.intro @tq23 (And.intro @tq25 (And.intro @tq26 (And.intro @tq28 (And.intro @tq31 (And.intro @tq32 (And.intro @tq34 (And.intro @bNd (And.intro @bNd2 (And.intro @agN (And.intro @bin_beq (And.intro @Try.underlying4 (@bin_bne))))))))))))))))
end tyIRLoops
open tyIRLoops Go.ChangeShapes Go.WideShapes Go.ChangeAt Go.RowKit
theorem own:ownKnob Try.prog.godebug=none:=by kernel_rfl
noncomputable def code3:{ c:SC // slim 100 (Try.f3.body.getD .skip)=c }:=by
 refine ⟨?_,?_⟩
 rotate_left
 · simp only [Try.f3, Option.getD_some, slim, slimR, slimL, slimD, slimG, Nat.blt, Nat.ble]
   rfl
def lpN (K:Nat):Nd:=⟨31,0,[0] ++ List.replicate K 1 ++ [1,2] ++ List.replicate K 3⟩
def lpL (K:Nat):List Nd:=[⟨26,0,[]⟩,⟨1,0,[]⟩,⟨3,0,[]⟩,⟨3,1,[]⟩,lpN K,⟨25,0,[4]⟩]
def lpG (K:Nat) (out again:Bool):Gr:=⟨[102],0,if again then lpL K ++ [⟨31,0,[0,1,0]⟩] else lpL K,if out then 3 else 1,5⟩
def lpU (K:Nat) (out again:Bool):Un:=⟨[],[lpG K out again]⟩
def lpB (K:Nat):Bool:=decide ((sortI (lpL K) 4=3) ↔ K + 1 ≤ 16) && decide ((sortI (lpL K) 5=2) ↔ K + 1 ≤ 16) && [true,false].all fun out=>[true,false].all fun again=>decide (unitI (lpU K out again)=(decide (K + 1 ≤ 16) && decide (1 < K + 1) && !out && !again))
theorem lp_all:((List.range 17).all lpB)=true:=by kernel_rfl
theorem append_keep {t e s b n r len imm:Nat} {z new cs:List AV} {x:AV} {H:Hp} {u:Nat} (ht:Try.prog.underlying t=some (.slice e)) (hs:sizeA Try.prog e=some s) (hb:bytesA Try.prog e=some b) (hz:zeroA Try.prog e=some z) (hu:srcType Try.prog u=true)
   (hx:srcCells H s x=some (n + 1,new)) (hone:new.all AV.one=true) (hzl:z.length=s) (hg:H.get r=some (.cells cs imm true)) (hi:imm ≤ cs.length) (hl:cs.length=len * s) (h1:(len + (n + 1)) * b ≤ maxRoom) (h2:len + (n + 1) ≤ maxRoom) :
   appendA Try.prog true H t u (.sl r 0 len s) x=some (.sl H.next 0 (len + (n + 1)) s,(H.set r (.cells cs cs.length false)).alloc (.cells (cs ++ new) (len * s) true)):=by
 have htr:trimA true H s (.sl r 0 len s)=H:=by
   unfold trimA
   simp only [hg,Bool.not_true,Bool.false_and]
 simp only [appendA,ht,hs,hb,hz,hu,hx,hone,hzl,and_self,if_true,htr,appendOnto,hg,Nat.zero_add,List.drop_zero]
 rw [if_pos ⟨h1,h2,by omega,trivial,hi⟩]
theorem appK {H:Hp} {v:AV} {l m:List Int} {lo r:Nat} (hv:IntB H v l lo) (hx:H.get r=some (.cells (m.map (.int .i64)) 0 true)) (hm:m ≠ []) (hb:l.length + m.length < 2 ^ 40) :
   ∃ H',appendA Try.prog true H 23 23 v (.sl r 0 m.length 1)=some (.sl H.next 0 (l.length + m.length) 1,H') ∧ H'.get H.next=some (.cells ((l ++ m).map (.int .i64)) l.length true) ∧ H'.next=H.next + 1 ∧ ∀ k,k < H.next → ¬ ownS v k → H'.get k=H.get k:=by
 obtain ⟨n,hn⟩:∃ n,m.length=n + 1:=⟨m.length - 1,by have:=List.length_pos_iff.2 hm;omega⟩
 have hmr:maxRoom=70368744177664:=rfl
 have hsx:=srcI_own hx
 obtain ⟨q,imm,rfl,h2,h3,h4,h5⟩:=hv
 rw [hn] at hsx hb ⊢
 refine ⟨(H.set q (.cells (l.map (.int .i64)) (l.map (AV.int .i64)).length false)).alloc (.cells (l.map (.int .i64) ++ m.map (.int .i64)) (l.length * 1) true),append_keep (b:=8) Try.underlying23 sz3 bt3 zr3 (by kernel_rfl) hsx (iOne m) rfl h2 (by rw [List.length_map];exact h3) (by rw [List.length_map,Nat.mul_one]) (by rw [hmr];omega) (by rw [hmr];omega),?_,rfl,fun k hk hno=>?_⟩
 · rw [Hp.get_alloc,if_pos (by rw [Hp.next_set]),List.map_append,Nat.mul_one]
 · rw [Hp.get_alloc,if_neg (by simp only [Hp.next_set];omega),Hp.get_set,if_neg (fun e=>hno ⟨_,by rw [e]⟩)]
noncomputable def enIEx:En:=⟨12,false,fun args=>lookK knIEx.list 12 args⟩
theorem enIEx_ok (ρ:Nat → Int):EnOk Try.prog ρ enIEx:=fun args r hr=>lookK_ok (knIEx.ok ρ) _ args r hr
noncomputable def levX:List En:=[enPick,enW enSo,enW enIv,enIEx]
theorem levX_ok (ρ:Nat → Int):EnsOk Try.prog ρ levX:=⟨enPick_ok ρ,enW_ok (enSo_ok ρ),enW_ok (enIv_ok ρ),enIEx_ok ρ,trivial⟩
noncomputable def cfgL:Cfg:={ cfgN pls levX with keep:=fun f=>Nat.beq f 3 }
theorem enXL {fn:FuncId} {α:Type} {ok:α → Prop} {enc:α → List AV} {out:α → AV} (inj:∀ x y,enc x=enc y → x=y) (hl:∀ ar,lookN levX fn ar=spP ok enc out (ar.map (wkN 60))) (hi:iceN levX fn=true) (hns:∀ y,(enc y).any (hasSl 90)=false) {x:α} (hx:ok x) {S:Nat → Prop} {n:Nat} (hn:n ≤ 90) {H:Hp} {args us:List AV} (h1:All2 (Ic S n H) args us) (h2:us.map (wkN 60)=enc x) :
   WpCall Try.prog cfgL fn args H fun v H'=>v=out x ∧ Icy S H H':=by
 by_cases hd:∃ y,ok y ∧ enc y=args.map (wkN 60)
 · obtain ⟨y, _, e⟩ := hd
   have h3:us.map (wkN 60)=args.map (wkN 60):=ic_noSlL (m:=90) (fun h4 h5=>ic_noSl n 90 60 hn h4 h5) h1 (by rw [← e];exact hns y)
   refine WpCall.mono ?_ (WpCall.kn (r:=out x) (by show lookN levX fn args=_;rw [hl,← h3,h2];exact spP_enc inj hx))
   rintro v H' ⟨rfl,rfl⟩
   exact ⟨rfl,Icy.refl _ _⟩
 · obtain ⟨H', h4, h5⟩ := Ic.iceL (n := 100) (l := args) (m := us) (All2.mono (fun a b k => Ic.up k (by omega)) h1)
   refine WpCall.iced (r:=out x) ?_ hi rfl h4 ?_ ⟨rfl,h5⟩
   · show lookN levX fn args = none
     rw [hl]
     exact spP_none fun y hy e=>hd ⟨y,hy,e⟩
   · show lookN levX fn us = _
     rw [hl,h2]
     exact spP_enc inj hx
theorem kPick (n m:Int) (hm:m ≠ 0) (H:Hp):WpCall Try.prog cfgL 9 [.int .i64 n,.int .i64 m] H fun v H'=>v=.int .i64 (pickG n m) ∧ H'=H:=
 WpCall.kn (by show lookN levX 9 (pkE (n,m))=_;exact spP_enc (enc:=pkE) (ok:=fun x=>x.2 ≠ 0) (out:=fun x=>.int .i64 (pickG x.1 x.2)) pkE_inj (x:=(n,m)) hm)
theorem kIEx (H:Hp):WpCall Try.prog cfgL 12 [] H fun v H'=>v=.bool true ∧ H'=H:=WpCall.kn rfl
theorem srE_ns (y:List Nd × Int):(srE y).any (hasSl 90)=false:=rfl
theorem so_M {S:Nat → Prop} {n:Nat} {H:Hp} {v:AV} {l:List Nd} (hn:n < 58) (hv:RdW S (n + 1) H v (lstN l)) (i:Int) (hl:NdsOk l):WpCall Try.prog cfgL 10 [v,.int .i64 i] H fun w H'=>w=.int .i64 (sortI l i) ∧ Icy S H H':=by
 obtain ⟨us,h1,h2⟩:CellsW S (n + 1) H [v,.int .i64 i] (srE (l,i)):=.cons hv (.cons (.int _ _) .nil)
 exact enXL (x:=((l,i):List Nd × Int)) (enc:=srE) (ok:=fun x=>NdsOk x.1) (out:=fun x=>.int .i64 (sortI x.1 x.2)) srE_inj (fun _=>rfl) rfl srE_ns hl (by omega) h1 (h2 60 (by omega))
theorem iv_M {S:Nat → Prop} {n:Nat} {H:Hp} {cs:List AV} {u:Un} (hn:n < 58) (hv:CellsW S n H cs u.cells) (hu:UnOk u):WpCall Try.prog cfgL 11 [.agg cs] H fun w H'=>w=.bool (unitI u) ∧ Icy S H H':=by
 obtain ⟨us,h1,h2⟩:=hv
 refine enXL (x:=u) (enc:=fun u=>[.agg u.cells]) (ok:=UnOk) (out:=fun u=>.bool (unitI u)) (us:=[.agg us]) (n:=n + 1) (fun x y h=>by simp only [List.cons.injEq,AV.agg.injEq,and_true] at h;exact Un.inj h) (fun _=>rfl) rfl (fun y=>rfl) hu (by omega) ⟨⟨us,h1,rfl⟩,trivial⟩ ?_
 show [AV.agg (us.map (wkN 59))]=_
 rw [h2 59 (by omega)]
theorem bN4 (H:Hp):buildSliceA Try.prog H 26 4 [(0,.agg [.int .i64 26,.int .i64 0,.nilS]),(1,.agg [.int .i64 1,.int .i64 0,.nilS]),(2,.agg [.int .i64 3,.int .i64 0,.nilS]),(3,.agg [.int .i64 3,.int .i64 1,.nilS])]=some (.sl H.next 0 4 3,H.alloc (.cells [.int .i64 26,.int .i64 0,.nilS,.int .i64 1,.int .i64 0,.nilS,.int .i64 3,.int .i64 0,.nilS,.int .i64 3,.int .i64 1,.nilS] 0 true)):=by kernel_rfl
theorem bNk (a:Int) (q n:Nat):buildA Try.prog 25 [(0,.int .i64 a),(2,.sl q 0 n 1)]=some (.agg [.int .i64 a,.int .i64 0,.sl q 0 n 1]):=by kernel_rfl
theorem bI1' (H:Hp) (a:Int):buildSliceA Try.prog H 23 1 [(0,.int .i64 a)]=some (.sl H.next 0 1 1,H.alloc (.cells [.int .i64 a] 0 true)):=by kernel_rfl
theorem bI2' (H:Hp) (a b:Int):buildSliceA Try.prog H 23 2 [(0,.int .i64 a),(1,.int .i64 b)]=some (.sl H.next 0 2 1,H.alloc (.cells [.int .i64 a,.int .i64 b] 0 true)):=by kernel_rfl
theorem bI3' (H:Hp) (a b c:Int):buildSliceA Try.prog H 23 3 [(0,.int .i64 a),(1,.int .i64 b),(2,.int .i64 c)]=some (.sl H.next 0 3 1,H.alloc (.cells [.int .i64 a,.int .i64 b,.int .i64 c] 0 true)):=by kernel_rfl
theorem bN2 (H:Hp) (v w:AV):buildSliceA Try.prog H 26 2 [(0,.agg [.int .i64 31,.int .i64 0,v]),(1,.agg [.int .i64 25,.int .i64 0,w])]=some (.sl H.next 0 2 3,H.alloc (.cells [.int .i64 31,.int .i64 0,v,.int .i64 25,.int .i64 0,w] 0 true)):=by kernel_rfl
theorem bN1 (H:Hp) (v:AV):buildSliceA Try.prog H 26 1 [(0,.agg [.int .i64 31,.int .i64 0,v])]=some (.sl H.next 0 1 3,H.alloc (.cells [.int .i64 31,.int .i64 0,v] 0 true)):=by kernel_rfl
theorem bG (q n:Nat):buildA Try.prog 28 [(0,.str [102]),(2,.sl q 0 n 3),(3,.int .i64 1),(4,.int .i64 5)]=some (.agg [.str [102],.int .i64 0,.sl q 0 n 3,.int .i64 1,.int .i64 5]):=by kernel_rfl
abbrev nd4:List AV:=[.int .i64 26,.int .i64 0,.nilS,.int .i64 1,.int .i64 0,.nilS,.int .i64 3,.int .i64 0,.nilS,.int .i64 3,.int .i64 1,.nilS]
structure LpI (l:List Int) (H:Hp) (v:AV):Prop where
 n:3 ≤ H.next
 g0:H.get 0=some (.cells nd4 0 true)
 g2:H.get 2=some (.cells [.int .i64 31,.int .i64 0,v] 0 true)
 iv:IntB H v l 1
 no:¬ ownS v 2
theorem LpI.one {l:List Int} {H:Hp} {v:AV} (h:LpI l H v):AV.one v=true:=by
 obtain ⟨q,i,rfl,_⟩:=h.iv;rfl
theorem LpI.ce {l:List Int} {H:Hp} {v:AV} (h:LpI l H v):v.cells=[v]:=by
 obtain ⟨q,i,rfl,_⟩:=h.iv;rfl
theorem lp_step {l m:List Int} {H:Hp} {v:AV} (h:LpI l H v) (hm:m ≠ []) (hb:l.length + m.length < 2 ^ 40) :
   ∃ H2 w,appendA Try.prog true (H.alloc (.cells (m.map (.int .i64)) 0 true)) 23 23 v (.sl H.next 0 m.length 1)=some (w,H2) ∧ H2.get 2=some (.cells [.int .i64 31,.int .i64 0,v] 0 true) ∧ AV.one w=true ∧ w.cells=[w] ∧ LpI (l ++ m) (H2.set 2 (.cells [.int .i64 31,.int .i64 0,w] 0 true)) w:=by
 have hn:=h.n
 have e0:¬ ownS v 0:=fun e=>by have:=(h.iv.lt e).1;omega
 obtain ⟨H2,h1,h2,h3,h4⟩:=appK (m:=m) (r:=H.next) (h.iv.keep (H':=H.alloc (.cells (m.map (.int .i64)) 0 true)) (Nat.le_succ _) fun k hk=>by
   rw [Hp.get_alloc,if_neg (by have:=(h.iv.lt hk).2;omega)]) (by rw [Hp.get_alloc,if_pos rfl]) hm hb
 rw [Hp.next_alloc] at h1 h2 h3 h4
 have g2:H2.get 2=some (.cells [.int .i64 31,.int .i64 0,v] 0 true):=by rw [h4 2 (by omega) h.no,Hp.get_alloc,if_neg (by omega)];exact h.g2
 refine ⟨H2,_,h1,g2,rfl,rfl,by rw [Hp.next_set];omega,?_,by rw [Hp.get_set,if_pos rfl],⟨H.next + 1,l.length,by rw [List.length_append],by rw [Hp.get_set,if_neg (by omega)];exact h2,by simp,by omega,by rw [Hp.next_set];omega⟩,?_⟩
 · rw [Hp.get_set,if_neg (by omega),h4 0 (by omega) e0,Hp.get_alloc,if_neg (by omega)];exact h.g0
 · rintro ⟨n, e⟩
   simp only [AV.sl.injEq] at e
   omega
theorem lp0:LpI [0] (((H0.alloc (.cells nd4 0 true)).alloc (.cells [.int .i64 0] 0 true)).alloc (.cells [.int .i64 31,.int .i64 0,.sl 1 0 1 1] 0 true)) (.sl 1 0 1 1):=by
 refine ⟨by decide,rfl,rfl,⟨1,0,rfl,rfl,by decide,by decide,by decide⟩,?_⟩
 rintro ⟨n,e⟩
 simp at e
theorem two_app {H:Hp} {v:AV} {q r:Nat} (h0:H.get 0=some (.cells nd4 0 true)) (hr:H.get r=some (.cells [.int .i64 31,.int .i64 0,v,.int .i64 25,.int .i64 0,.sl q 0 1 1] 0 true)) (hv:AV.one v=true) :
   appendA Try.prog true H 26 26 (.sl 0 0 4 3) (.sl r 0 2 3)=some (.sl H.next 0 6 3,(H.set 0 (.cells nd4 12 false)).alloc (.cells (nd4 ++ [.int .i64 31,.int .i64 0,v,.int .i64 25,.int .i64 0,.sl q 0 1 1]) 12 true)):=
 append_keep (n:=1) Try.underlying26 sz25 bt25 zr25 (by kernel_rfl) (src_sl (n:=2) (z:=3) hr (by simp)) (by simp only [List.drop_zero,List.take,List.all_cons,hv,List.all_nil];rfl) rfl h0 (by decide) rfl (by decide) (by decide)
theorem one_app {H:Hp} {cs:List AV} {q r p:Nat} (h0:H.get p=some (.cells cs 12 true)) (hl:cs.length=18) (hr:H.get r=some (.cells [.int .i64 31,.int .i64 0,.sl q 0 3 1] 0 true)) :
   appendA Try.prog true H 26 26 (.sl p 0 6 3) (.sl r 0 1 3)=some (.sl H.next 0 7 3,(H.set p (.cells cs 18 false)).alloc (.cells (cs ++ [.int .i64 31,.int .i64 0,.sl q 0 3 1]) 18 true)):=by
 have:=append_keep (n:=0) (len:=6) (u:=26) Try.underlying26 sz25 bt25 zr25 (by kernel_rfl) (src_sl (o:=0) (n:=1) (z:=3) hr (by simp)) rfl rfl h0 (by omega) (by omega) (by decide) (by decide)
 rw [hl] at this
 exact this
structure TL (M:Nat) (out again:Bool) (g:Nat) (w:AV) (H:Hp):Prop where
 rd:RdW (fun k=>k ≠ g) 3 H w (lstN (lpL M))
 nx:g < H.next
 gr:∃ r n,H.get g=some (.cells [.str [102],.int .i64 0,.sl r 0 n 3,.int .i64 (if out then 3 else 1),.int .i64 5] 0 true) ∧ RdW (fun k=>k ≠ g) 3 H (.sl r 0 n 3) (lstN (lpG M out again).nodes)
abbrev six (v:AV) (q:Nat):List AV:=nd4 ++ [.int .i64 31,.int .i64 0,v,.int .i64 25,.int .i64 0,.sl q 0 1 1]
theorem r3 {S:Nat → Prop} {H:Hp} {a b:Int} {v:AV} {l:List Int} (hv:RdW S 2 H v (lstI l)):[AV.int .i64 a,.int .i64 b,v].length=3 ∧ CellsW S 2 H [.int .i64 a,.int .i64 b,v] (Nd.mk a b l).cells:=⟨rfl,.cons (.int _ _) (.cons (.int _ _) (.cons hv .nil))⟩
theorem rn {S:Nat → Prop} {H:Hp} {a b:Int}:[AV.int .i64 a,.int .i64 b,.nilS].length=3 ∧ CellsW S 2 H [.int .i64 a,.int .i64 b,.nilS] (Nd.mk a b []).cells:=⟨rfl,nd_nil a b⟩
theorem rows6 {S:Nat → Prop} {H:Hp} {v:AV} {M q:Nat} (hv:RdW S 2 H v (lstI (lpN M).kids)) (hq:RdW S 2 H (.sl q 0 1 1) (lstI [4])) :
   RowsW S 2 H 3 [[.int .i64 26,.int .i64 0,.nilS],[.int .i64 1,.int .i64 0,.nilS],[.int .i64 3,.int .i64 0,.nilS],[.int .i64 3,.int .i64 1,.nilS],[.int .i64 31,.int .i64 0,v],[.int .i64 25,.int .i64 0,.sl q 0 1 1]] ((lpL M).map Nd.cells):=
 ⟨rn,rn,rn,rn,r3 hv,r3 hq,True.intro⟩
theorem rows7 {S:Nat → Prop} {H:Hp} {v:AV} {M q q5:Nat} (hv:RdW S 2 H v (lstI (lpN M).kids)) (hq:RdW S 2 H (.sl q 0 1 1) (lstI [4])) (h5:RdW S 2 H (.sl q5 0 3 1) (lstI [0,1,0])) :
   RowsW S 2 H 3 [[.int .i64 26,.int .i64 0,.nilS],[.int .i64 1,.int .i64 0,.nilS],[.int .i64 3,.int .i64 0,.nilS],[.int .i64 3,.int .i64 1,.nilS],[.int .i64 31,.int .i64 0,v],[.int .i64 25,.int .i64 0,.sl q 0 1 1],[.int .i64 31,.int .i64 0,.sl q5 0 3 1]] ((lpL M ++ [Nd.mk 31 0 [0,1,0]]).map Nd.cells):=
 ⟨rn,rn,rn,rn,r3 hv,r3 hq,r3 h5,trivial⟩
theorem LpI.rd {l:List Int} {H H':Hp} {v:AV} (h:LpI l H v) {S:Nat → Prop} (hn:H.next ≤ H'.next) (hS:∀ k,k < H.next → S k) (hg:∀ k,0 < k → k < H.next → H'.get k=H.get k):RdW S 2 H' v (lstI l):=by
 obtain ⟨q,i,rfl,h2,h3,h4,h5⟩:=h.iv
 exact RdW.intsM l (hS q h5) (by omega) (by rw [hg q (by omega) h5];exact h2) h3
theorem tl_6 {M:Nat} {out:Bool} {H H':Hp} {v:AV} (h:LpI (lpN M).kids H v) (hn:H'.next=H.next + 4) (hg:∀ k,0 < k → k < H.next → H'.get k=H.get k) (h4:H'.get H.next=some (.cells [.int .i64 4] 0 true)) (h6:H'.get (H.next + 2)=some (.cells (six v H.next) 12 true)) (hG:H'.get (H.next + 3)=some (.cells [.str [102],.int .i64 0,.sl (H.next + 2) 0 6 3,.int .i64 (if out then 3 else 1),.int .i64 5] 0 true)) :
   TL M out false (H.next + 3) (.sl (H.next + 2) 0 6 3) H':=by
 have hv:RdW (fun k=>k ≠ H.next + 3) 2 H' v (lstI (lpN M).kids):=h.rd (by omega) (fun k hk=>by omega) hg
 have hq:RdW (fun k=>k ≠ H.next + 3) 2 H' (.sl H.next 0 1 1) (lstI [4]):=RdW.intsM [4] (by omega) (by omega) h4 (by decide)
 have hr:=RdW.rows (S:=fun k=>k ≠ H.next + 3) (r:=H.next + 2) (imm:=12) (tip:=true) (by omega) (by omega) h6 (by simp) (rows6 hv hq)
 exact ⟨hr,by omega,_,_,hG,hr⟩
theorem tl_7 {M:Nat} {out:Bool} {H H':Hp} {v:AV} (h:LpI (lpN M).kids H v) (hn:H'.next=H.next + 7) (hg:∀ k,0 < k → k < H.next → H'.get k=H.get k) (h4:H'.get H.next=some (.cells [.int .i64 4] 0 true)) (h6:H'.get (H.next + 2)=some (.cells (six v H.next) 18 false)) (hG:H'.get (H.next + 3)=some (.cells [.str [102],.int .i64 0,.sl (H.next + 6) 0 7 3,.int .i64 (if out then 3 else 1),.int .i64 5] 0 true))
   (h5:H'.get (H.next + 4)=some (.cells [.int .i64 0,.int .i64 1,.int .i64 0] 0 true)) (h7:H'.get (H.next + 6)=some (.cells (six v H.next ++ [.int .i64 31,.int .i64 0,.sl (H.next + 4) 0 3 1]) 18 true)) :
   TL M out true (H.next + 3) (.sl (H.next + 2) 0 6 3) H':=by
 have hv:RdW (fun k=>k ≠ H.next + 3) 2 H' v (lstI (lpN M).kids):=h.rd (by omega) (fun k hk=>by omega) hg
 have hq:RdW (fun k=>k ≠ H.next + 3) 2 H' (.sl H.next 0 1 1) (lstI [4]):=RdW.intsM [4] (by omega) (by omega) h4 (by decide)
 have hq5:RdW (fun k=>k ≠ H.next + 3) 2 H' (.sl (H.next + 4) 0 3 1) (lstI [0,1,0]):=RdW.intsM [0,1,0] (by omega) (by omega) h5 (by decide)
 have hr:=RdW.rows (S:=fun k=>k ≠ H.next + 3) (r:=H.next + 2) (imm:=18) (tip:=false) (by omega) (by omega) h6 (by simp) (rows6 hv hq)
 have hr7:=RdW.rows (S:=fun k=>k ≠ H.next + 3) (r:=H.next + 6) (imm:=18) (tip:=true) (by omega) (by omega) h7 (by simp) (rows7 hv hq hq5)
 exact ⟨hr,by omega,_,_,hG,hr7⟩
theorem TL.unit {M:Nat} {out again:Bool} {g:Nat} {w:AV} {H:Hp} (h:TL M out again g w H) {H1:Hp} (hi:Icy (fun k=>k ≠ g) H H1):∃ r n,H1.get g=some (.cells [.str [102],.int .i64 0,.sl r 0 n 3,.int .i64 (if out then 3 else 1),.int .i64 5] 0 true) ∧
   CellsW (fun _=>True) 5 (H1.alloc (.cells [.str [102],.int .i64 0,.sl r 0 n 3,.int .i64 (if out then 3 else 1),.int .i64 5] 0 true)) [.nilS,.sl H1.next 0 1 5] (lpU M out again).cells:=by
 obtain ⟨r,n,h1,h2⟩:=h.gr
 refine ⟨r,n,by rw [hi.out g (by simp)];exact h1,?_⟩
 have h3:RdW (fun _=>True) 3 H1 (.sl r 0 n 3) (lstN (lpG M out again).nodes):=h2.frame (fun _ _=>trivial) (by rw [hi.next];omega) fun k _ _=>hi.same k
 have h4:RdW (fun _=>True) 3 (H1.alloc (.cells [.str [102],.int .i64 0,.sl r 0 n 3,.int .i64 (if out then 3 else 1),.int .i64 5] 0 true)) (.sl r 0 n 3) (lstN (lpG M out again).nodes):=h3.keep (fun _ _=>trivial) (Nat.le_succ _) fun k _ hk=>by rw [Hp.get_alloc,if_neg (by omega)]
 have h5:CellsW (fun _=>True) 3 (H1.alloc (.cells [.str [102],.int .i64 0,.sl r 0 n 3,.int .i64 (if out then 3 else 1),.int .i64 5] 0 true)) [.str [102],.int .i64 0,.sl r 0 n 3,.int .i64 (if out then 3 else 1),.int .i64 5] (lpG M out again).cells:=.cons (.str _) (.cons (.int _ _) (.cons h4 (.cons (.int _ _) (.cons (.int _ _) .nil))))
 exact .cons .nilS (.cons ((RdW.rows (a:=[[.str [102],.int .i64 0,.sl r 0 n 3,.int .i64 (if out then 3 else 1),.int .i64 5]]) (b:=[(lpG M out again).cells]) (tip:=true) (imm:=0) trivial (Nat.lt_succ_self _) (by rw [Hp.get_alloc,if_pos rfl];rfl) (Nat.zero_le _) ⟨⟨rfl,h5⟩,trivial⟩).up (by omega)) .nil)
theorem lp_of {M:Nat} (h:M < 17):(sortI (lpL M) 4=3 ↔ M + 1 ≤ 16) ∧ (sortI (lpL M) 5=2 ↔ M + 1 ≤ 16) ∧ ∀ out again,unitI (lpU M out again)=(decide (M + 1 ≤ 16) && decide (1 < M + 1) && !out && !again):=by
 have:=List.all_eq_true.1 lp_all M (List.mem_range.2 h)
 simp only [lpB,List.all_cons,List.all_nil,Bool.and_true,Bool.and_eq_true,decide_eq_true_eq] at this
 obtain ⟨⟨h1,h2⟩,⟨h3,h4⟩,h5,h6⟩:=this
 exact ⟨h1,h2,fun out again=>by cases out <;> cases again <;> assumption⟩
theorem lp_ok (M:Nat) (h:M < 17):NdsOk (lpL M):=⟨by simp [lpL],fun n hn=>by
 simp only [lpL,List.mem_cons,List.not_mem_nil,or_false] at hn
 rcases hn with rfl|rfl|rfl|rfl|rfl|rfl <;> simp [lpN] <;> omega⟩
theorem bG1 (H:Hp) (s:List UInt8) (a b c:Int) (v:AV):buildSliceA Try.prog H 31 1 [(0,.agg [.str s,.int .i64 a,v,.int .i64 b,.int .i64 c])]=some (.sl H.next 0 1 5,H.alloc (.cells [.str s,.int .i64 a,v,.int .i64 b,.int .i64 c] 0 true)):=by kernel_rfl
theorem ag5 (a b c d e:AV):aggA 5 [a,b,c,d,e]=some (.agg [a,b,c,d,e]):=rfl
theorem lp_ok7 (M:Nat) (h:M < 17):NdsOk (lpL M ++ [⟨31,0,[0,1,0]⟩]):=⟨by simp [lpL],fun n hn=>by
 rcases List.mem_append.1 hn with hn|hn
 · exact (lp_ok M h).2 n hn
 · simp only [List.mem_cons, List.not_mem_nil, or_false] at hn
   subst hn;simp⟩
theorem lp_un (M:Nat) (out again:Bool) (h:M < 17):UnOk (lpU M out again):=by
 refine ⟨by simp [lpU],by simp [lpU],fun g hg=>?_,?_⟩
 · simp only [lpU, List.mem_cons, List.not_mem_nil, or_false] at hg
   subst hg
   cases again
   · exact lp_ok M h
   · exact lp_ok7 M h
 · show Pr.sz ⟨[], [⟨[102], [], [], [], .mk 1 0 [] 0 []⟩]⟩ < 2 ^ 36
   decide
theorem bU (q n:Nat):buildA Try.prog 34 [(1,.sl q 0 n 5)]=some (.agg [.nilS,.sl q 0 n 5]):=by kernel_rfl
theorem WpL.gen {P:Program} {cfg:Cfg} {f:FuncId} {l:List SOp} {E:Env} {H:Hp} {Q:Env → Hp → Prop} (p:Hp → Prop) (hp:p H) (h:∀ H',p H' → WpL P cfg f l E H' Q):WpL P cfg f l E H Q:=h _ hp
set_option maxRecDepth 100000 in
theorem law (k : Int) (out again : Bool) : WpCall Try.prog cfgL 3 [.int .i64 k, .bool out, .bool again] H0 fun v _ => v = .bool true := by
  have hw:Plain cfgL 3:=⟨fun _=>rfl,rfl,rfl⟩
  have hkeep:cfgL.keep 3=true:=rfl
  have hr:=pickG_range (n:=k) (m:=17) (by omega) (by omega)
  obtain ⟨M,hM⟩:=Int.eq_ofNat_of_zero_le hr.1
  rw [hM] at hr
  have hM17:M < 17:=by omega
  have e1:IntKind.wrap .i64 (1 + (M:Int))=((M + 1:Nat):Int):=by rw [i64_id (by omega) (by omega)];omega
  refine WpCall.slim (M:=100) (rs:=[.tmp 6]) (hw.call _) hw.ice hw.froz Try.func3 rfl rfl code3.2 rfl ?_;dsimp only [code3,envOf,Nat.reduceAdd]
  have gh0:=@bN4
  have gh1:=@bI1'
  have gh2:=@bNk
  repeat' (first
     | (apply Rx.nl ?_;clear hK K)|apply Rx.o ?_|apply Rx.on ?_|(apply Rx.call ?_;first|refine Rx.k (kPick _ _ (by omega) _) ?_)|apply Wp.seq ?_|(apply Wp.ops' fun K hK=>?_)|apply Wp.block ?_|apply Rx.sk ?_|apply Rx.rt ?_|apply Rx.xt ?_)
  clear hr hM
  refine Wp.loopN (fun i E H=>E.at 6=.bool false ∧ E.at 0=.int .i64 ((M + 1:Nat):Int) ∧ E.at 1=.bool out ∧ E.at 2=.bool again ∧ E.at 7=.sl 0 0 4 3 ∧ E.at 8=.ptr 2 0 ∧ E.at 9=.int .i64 ((i + 1:Nat):Int) ∧ ∃ v,LpI ([0] ++ List.replicate i 1) H v) M ?_ ?_
  rotate_left
  · exact ⟨eE,eE,eE,eE,eE,eE,eE,_,lp0⟩
  rintro i E H hi ⟨k6,k0,k1,k2,k7,k8,k9,v,hI⟩
  have gv:=hI.g2
  have o1:=hI.one
  have cv:=hI.ce
  by_cases hlt:i < M
  · have hlt' : ((i + 1 : Nat) : Int) < ((M + 1 : Nat) : Int) := by omega
    obtain ⟨H2,w,ha,hg,ow,cw,hI2⟩:=lp_step hI (m:=[1]) (by simp) (by simp;omega)
    simp only [List.map_cons,List.map_nil,List.length_cons,List.length_nil,Nat.zero_add] at ha
    have e2:IntKind.wrap .i64 (((i + 1:Nat):Int) + 1)=((i + 1 + 1:Nat):Int):=by rw [i64_id (by omega) (by omega)];omega
    have gh0:=@bI1'
    repeat' (first
       | (apply Rx.nl ?_;clear hK K)|apply Ry.o ?_|apply Ry.on ?_|(apply Ry.gd (fun hg hgp=>?_) (fun hg hgp=>?_) <;> try (cases hg;done))|(apply Ry.cd (fun hb hbp=>?_) (fun hb hbp=>?_) <;> try (cases hb;done))|apply Wp.seq ?_|(apply Wp.ops' fun K hK=>?_)|apply Wp.block ?_|apply Rx.sk ?_|apply Rx.rt ?_|apply Rx.xt ?_)
    refine ⟨hlt,eE,eE,eE,eE,eE,eE,eE,w,?_⟩
    rw [List.replicate_succ',← List.append_assoc];exact hI2
  have hlt':¬ ((i + 1:Nat):Int) < ((M + 1:Nat):Int):=by omega
  have hie:M=i:=by omega
  clear hi hlt
  obtain ⟨H2,w,ha,hg,ow,cw,hI2⟩:=lp_step hI (m:=[1,2]) (by simp) (by simp;omega)
  simp only [List.map_cons,List.map_nil,List.length_cons,List.length_nil,Nat.zero_add,Nat.reduceAdd] at ha
  rw [← hie] at hI2
  clear hie
  have gh0:=@bI2'
  repeat' (first
     | (apply Rx.nl ?_;clear hK K)|apply Ry.o ?_|apply Ry.on ?_|(apply Ry.gd (fun hg hgp=>?_) (fun hg hgp=>?_) <;> try (cases hg;done))|(apply Ry.cd (fun hb hbp=>?_) (fun hb hbp=>?_) <;> try (cases hb;done))|apply Wp.seq ?_|(apply Wp.ops' fun K hK=>?_)|apply Wp.block ?_|apply Rx.sk ?_|apply Rx.rt ?_|apply Rx.xt ?_)
  clear hlt' ha hg gv o1 cv hI
  refine Wp.loopN (fun i E H=>E.at 6=.bool false ∧ E.at 0=.int .i64 ((M + 1:Nat):Int) ∧ E.at 1=.bool out ∧ E.at 2=.bool again ∧ E.at 7=.sl 0 0 4 3 ∧ E.at 8=.ptr 2 0 ∧ E.at 10=.int .i64 ((i + 1:Nat):Int) ∧ ∃ v,LpI ([0] ++ List.replicate M 1 ++ [1,2] ++ List.replicate i 3) H v) M ?_ ?_
  rotate_left
  · exact ⟨eE,eE,eE,eE,eE,eE,(by show Env.at _ 10=.int .i64 1;exact eE),_,by rw [List.replicate_zero,List.append_nil];exact hI2⟩
  clear hI2 ow cw k6 k0 k1 k2 k7 k8 k9
  clear H2 H E v w i
  rintro i E H hi ⟨k6,k0,k1,k2,k7,k8,k10,v,hI⟩
  have gv:=hI.g2
  have o1:=hI.one
  have cv:=hI.ce
  by_cases hlt:i < M
  · have hlt' : ((i + 1 : Nat) : Int) < ((M + 1 : Nat) : Int) := by omega
    obtain ⟨H2,w,ha,hg,ow,cw,hI2⟩:=lp_step hI (m:=[3]) (by simp) (by simp;omega)
    simp only [List.map_cons,List.map_nil,List.length_cons,List.length_nil,Nat.zero_add] at ha
    have e2:IntKind.wrap .i64 (((i + 1:Nat):Int) + 1)=((i + 1 + 1:Nat):Int):=by rw [i64_id (by omega) (by omega)];omega
    have gh0:=@bI1'
    repeat' (first
       | (apply Rx.nl ?_;clear hK K)|apply Ry.o ?_|apply Ry.on ?_|(apply Ry.gd (fun hg hgp=>?_) (fun hg hgp=>?_) <;> try (cases hg;done))|(apply Ry.cd (fun hb hbp=>?_) (fun hb hbp=>?_) <;> try (cases hb;done))|apply Wp.seq ?_|(apply Wp.ops' fun K hK=>?_)|apply Wp.block ?_|apply Rx.sk ?_|apply Rx.rt ?_|apply Rx.xt ?_)
    refine ⟨hlt,eE,eE,eE,eE,eE,eE,eE,w,?_⟩
    rw [List.replicate_succ',← List.append_assoc];exact hI2
  have hlt':¬ ((i + 1:Nat):Int) < ((M + 1:Nat):Int):=by omega
  have hie:i=M:=by omega
  subst hie
  clear hi hlt
  have g0:=hI.g0
  have hn:=hI.n
  have h2a:=two_app (H:=(H.alloc (.cells [.int .i64 4] 0 true)).alloc (.cells [.int .i64 31,.int .i64 0,v,.int .i64 25,.int .i64 0,.sl H.next 0 1 1] 0 true)) (r:=H.next + 1) (by rw [Hp.get_alloc,if_neg (by simp only [Hp.next_alloc];omega),Hp.get_alloc,if_neg (by omega)];exact g0) (q:=H.next) (by rw [Hp.get_alloc,if_pos (by rw [Hp.next_alloc])]) o1
  have hnd:=lp_ok i hM17
  obtain ⟨hA,hB,hC⟩:=lp_of hM17
  cases out <;> cases again
  · have gh0 := @bI1'
    have gh1:=@bI3'
    have gh2:=@bN1
    have gh3:=@bN2
    have gh4:=@bNk
    have gh5:=@bG
    repeat' (first
       | (apply Rx.nl ?_;clear hK K)|apply Ry.o ?_|apply Ry.on ?_|(apply Ry.gd (fun hg hgp=>?_) (fun hg hgp=>?_) <;> try (cases hg;done))|(apply Ry.cd (fun hb hbp=>?_) (fun hb hbp=>?_) <;> try (cases hb;done))|apply Wp.seq ?_|(apply Wp.ops' fun K hK=>?_)|apply Wp.block ?_|apply Rx.sk ?_|apply Rx.rt ?_|apply Rx.xt ?_)
    refine WpL.gen (TL i false false (H.next + 3) (.sl (H.next + 2) 0 6 3)) (tl_6 hI ?_ ?_ ?_ ?_ ?_) ?_
    · rfl
    · intro k h0 hk
      simp only [Hp.get_alloc,Hp.get_set,Hp.next_alloc,Hp.next_set,if_true]
      repeat (first|rw [if_neg (by omega)]|rw [if_pos (by omega)])
    · simp only [Hp.get_alloc, Hp.get_set, Hp.next_alloc, Hp.next_set, if_true]
      repeat (first|rw [if_neg (by omega)]|rw [if_pos (by omega)])
      try rfl
    · simp only [Hp.get_alloc, Hp.get_set, Hp.next_alloc, Hp.next_set, if_true]
      repeat (first|rw [if_neg (by omega)]|rw [if_pos (by omega)])
      try rfl
    · simp only [Hp.get_alloc, Hp.get_set, Hp.next_alloc, Hp.next_set, if_true]
      repeat (first|rw [if_neg (by omega)]|rw [if_pos (by omega)])
      try rfl
    intro H' hT
    refine WpL.call rfl eVk eAk ?_;simp only [List.cons_append,List.nil_append,List.append_nil]
    refine WpCall.mono ?_ (so_M (n:=2) (by omega) hT.rd 4 hnd)
    rintro w H1 ⟨rfl,i1⟩
    have rd1:RdW (fun k=>k ≠ H.next + 3) 3 H1 (.sl (H.next + 2) 0 6 3) (lstN (lpL i)):=hT.rd.frame (fun _ q=>q) (by rw [i1.next];omega) fun k _ _=>i1.same k
    by_cases hle:i + 1 ≤ 16
    · have s4 := hA.2 hle
      have s5:=hB.2 hle
      have hle':((i + 1:Nat):Int) ≤ 16:=by omega
      rw [s4]
      dsimp only [setO]
      repeat' (first
         | (apply Rx.nl ?_;clear hK K)|apply Ry.o ?_|apply Ry.on ?_|(apply Ry.gd (fun hg hgp=>?_) (fun hg hgp=>?_) <;> try (cases hg;done))|(apply Ry.cd (fun hb hbp=>?_) (fun hb hbp=>?_) <;> try (cases hb;done))|apply Wp.seq ?_|(apply Wp.ops' fun K hK=>?_)|apply Wp.block ?_|apply Rx.sk ?_|apply Rx.rt ?_|apply Rx.xt ?_)
      refine WpL.call rfl eVk eAk ?_;simp only [List.cons_append,List.nil_append,List.append_nil]
      refine WpCall.mono ?_ (so_M (n:=2) (by omega) rd1 5 hnd)
      rintro w H2 ⟨rfl,i2⟩
      rw [s5]
      obtain ⟨r,n,gg,hcu⟩:=hT.unit (i1.trans i2)
      clear hT rd1 s4 s5 hA hB
      dsimp only [setO]
      have gh0:=@bG1
      have gh1:=@bU
      have gh2:=@ag5
      repeat' (first
         | (apply Rx.nl ?_;clear hK K)|apply Ry.o ?_|apply Ry.on ?_|(apply Ry.gd (fun hg hgp=>?_) (fun hg hgp=>?_) <;> try (cases hg;done))|(apply Ry.cd (fun hb hbp=>?_) (fun hb hbp=>?_) <;> try (cases hb;done))|apply Wp.seq ?_|(apply Wp.ops' fun K hK=>?_)|apply Wp.block ?_|apply Rx.sk ?_|apply Rx.rt ?_|apply Rx.xt ?_)
      refine WpL.call rfl eVk eAk ?_;simp only [List.cons_append,List.nil_append,List.append_nil]
      refine WpCall.mono ?_ (iv_M (n:=5) (by omega) hcu (lp_un i _ _ hM17))
      rintro w H3 ⟨rfl,i3⟩
      rw [hC]
      by_cases h1:1 < i + 1
      · have h1' : (1 : Int) < ((i + 1 : Nat) : Int) := by omega
        rw [decide_eq_true hle,decide_eq_true h1]
        dsimp only [setO,Bool.not_true,Bool.not_false,Bool.true_and,Bool.and_true,Bool.and_false,Bool.false_and]
        repeat' (first
           | (apply Rx.nl ?_;clear hK K)|apply Ry.o ?_|apply Ry.on ?_|(apply Ry.call ?_;first|refine Rx.k (kIEx _) ?_)|(apply Ry.gd (fun hg hgp=>?_) (fun hg hgp=>?_) <;> try (cases hg;done))|(apply Ry.cd (fun hb hbp=>?_) (fun hb hbp=>?_) <;> try (cases hb;done))|apply Wp.seq ?_|(apply Wp.ops' fun K hK=>?_)|apply Wp.block ?_|apply Rx.sk ?_|apply Rx.rt ?_|apply Rx.xt ?_)
        all_goals (refine ⟨eI,_,eR,?_⟩;try simp only [oneOr])
      · have h1' : ¬ (1 : Int) < ((i + 1 : Nat) : Int) := by omega
        rw [decide_eq_true hle,decide_eq_false h1]
        dsimp only [setO,Bool.not_true,Bool.not_false,Bool.true_and,Bool.and_true,Bool.and_false,Bool.false_and]
        repeat' (first
           | (apply Rx.nl ?_;clear hK K)|apply Ry.o ?_|apply Ry.on ?_|(apply Ry.call ?_;first|refine Rx.k (kIEx _) ?_)|(apply Ry.gd (fun hg hgp=>?_) (fun hg hgp=>?_) <;> try (cases hg;done))|(apply Ry.cd (fun hb hbp=>?_) (fun hb hbp=>?_) <;> try (cases hb;done))|apply Wp.seq ?_|(apply Wp.ops' fun K hK=>?_)|apply Wp.block ?_|apply Rx.sk ?_|apply Rx.rt ?_|apply Rx.xt ?_)
        all_goals (refine ⟨eI,_,eR,?_⟩;try simp only [oneOr])
    · have s4 : ¬ sortI (lpL i) 4 = 3 := fun h => hle (hA.1 h)
      have s5:¬ sortI (lpL i) 5=2:=fun h=>hle (hB.1 h)
      have hle':¬ ((i + 1:Nat):Int) ≤ 16:=by omega
      generalize sortI (lpL i) 4=v4 at *
      dsimp only [setO]
      repeat' (first
         | (apply Rx.nl ?_;clear hK K)|apply Ry.o ?_|apply Ry.on ?_|(apply Ry.gd (fun hg hgp=>?_) (fun hg hgp=>?_) <;> try (cases hg;done))|(apply Ry.cd (fun hb hbp=>?_) (fun hb hbp=>?_) <;> try (cases hb;done))|apply Wp.seq ?_|(apply Wp.ops' fun K hK=>?_)|apply Wp.block ?_|apply Rx.sk ?_|apply Rx.rt ?_|apply Rx.xt ?_)
      refine WpL.call rfl eVk eAk ?_;simp only [List.cons_append,List.nil_append,List.append_nil]
      refine WpCall.mono ?_ (so_M (n:=2) (by omega) rd1 5 hnd)
      rintro w H2 ⟨rfl,i2⟩
      generalize sortI (lpL i) 5=v5 at *
      obtain ⟨r,n,gg,hcu⟩:=hT.unit (i1.trans i2)
      clear hT rd1 s4 hA hB
      dsimp only [setO]
      have gh0:=@bG1
      have gh1:=@bU
      have gh2:=@ag5
      repeat' (first
         | (apply Rx.nl ?_;clear hK K)|apply Ry.o ?_|apply Ry.on ?_|(apply Ry.gd (fun hg hgp=>?_) (fun hg hgp=>?_) <;> try (cases hg;done))|(apply Ry.cd (fun hb hbp=>?_) (fun hb hbp=>?_) <;> try (cases hb;done))|apply Wp.seq ?_|(apply Wp.ops' fun K hK=>?_)|apply Wp.block ?_|apply Rx.sk ?_|apply Rx.rt ?_|apply Rx.xt ?_)
      refine WpL.call rfl eVk eAk ?_;simp only [List.cons_append,List.nil_append,List.append_nil]
      refine WpCall.mono ?_ (iv_M (n:=5) (by omega) hcu (lp_un i _ _ hM17))
      rintro w H3 ⟨rfl,i3⟩
      rw [hC]
      rw [decide_eq_false hle]
      dsimp only [setO,Bool.not_true,Bool.not_false,Bool.true_and,Bool.and_true,Bool.and_false,Bool.false_and]
      repeat' (first
         | (apply Rx.nl ?_;clear hK K)|apply Ry.o ?_|apply Ry.on ?_|(apply Ry.call ?_;first|refine Rx.k (kIEx _) ?_)|(apply Ry.gd (fun hg hgp=>?_) (fun hg hgp=>?_) <;> try (cases hg;done))|(apply Ry.cd (fun hb hbp=>?_) (fun hb hbp=>?_) <;> try (cases hb;done))|apply Wp.seq ?_|(apply Wp.ops' fun K hK=>?_)|apply Wp.block ?_|apply Rx.sk ?_|apply Rx.rt ?_|apply Rx.xt ?_)
      all_goals (refine ⟨eI,_,eR,?_⟩;try simp only [oneOr])
  · have h1a := one_app (H := ((((((((H.alloc (.cells [.int .i64 4] 0 true)).alloc (.cells [.int .i64 31, .int .i64 0, v, .int .i64 25, .int .i64 0, .sl H.next 0 1 1] 0 true)).set 0 (.cells nd4 12 false)).alloc (.cells [.int .i64 26, .int .i64 0, .nilS, .int .i64 1, .int .i64 0, .nilS, .int .i64 3, .int .i64 0, .nilS, .int .i64 3, .int .i64 1, .nilS, .int .i64 31, .int .i64 0, v, .int .i64 25, .int .i64 0, .sl H.next 0 1 1] 12 true)).alloc (.cells [.str [], .int .i64 0, .nilS, .int .i64 0, .int .i64 0] 0 true)).set (H.next + 3) (.cells [.str [102], .int .i64 0, .sl (H.next + 2) 0 6 3, .int .i64 1, .int .i64 5] 0 true))).alloc (.cells [.int .i64 0, .int .i64 1, .int .i64 0] 0 true)).alloc (.cells [.int .i64 31, .int .i64 0, .sl (H.next + 4) 0 3 1] 0 true)) (cs := [.int .i64 26, .int .i64 0, .nilS, .int .i64 1, .int .i64 0, .nilS, .int .i64 3, .int .i64 0, .nilS, .int .i64 3, .int .i64 1, .nilS, .int .i64 31, .int .i64 0, v, .int .i64 25, .int .i64 0, .sl H.next 0 1 1]) (p := H.next + 2) (r := H.next + 5) (q := H.next + 4) (by
      simp only [Hp.get_alloc,Hp.get_set,Hp.next_alloc,Hp.next_set,if_true]
      repeat (first|rw [if_neg (by omega)]|rw [if_pos (by omega)])
      try rfl) rfl (by
      simp only [Hp.get_alloc,Hp.get_set,Hp.next_alloc,Hp.next_set,if_true]
      repeat (first|rw [if_neg (by omega)]|rw [if_pos (by omega)])
      try rfl)
    have gh0:=@bI1'
    have gh1:=@bI3'
    have gh2:=@bN1
    have gh3:=@bN2
    have gh4:=@bNk
    have gh5:=@bG
    repeat' (first
       | (apply Rx.nl ?_;clear hK K)|apply Ry.o ?_|apply Ry.on ?_|(apply Ry.gd (fun hg hgp=>?_) (fun hg hgp=>?_) <;> try (cases hg;done))|(apply Ry.cd (fun hb hbp=>?_) (fun hb hbp=>?_) <;> try (cases hb;done))|apply Wp.seq ?_|(apply Wp.ops' fun K hK=>?_)|apply Wp.block ?_|apply Rx.sk ?_|apply Rx.rt ?_|apply Rx.xt ?_)
    refine WpL.gen (TL i false true (H.next + 3) (.sl (H.next + 2) 0 6 3)) (tl_7 hI ?_ ?_ ?_ ?_ ?_ ?_ ?_) ?_
    · rfl
    · intro k h0 hk
      simp only [Hp.get_alloc,Hp.get_set,Hp.next_alloc,Hp.next_set,if_true]
      repeat (first|rw [if_neg (by omega)]|rw [if_pos (by omega)])
    · simp only [Hp.get_alloc, Hp.get_set, Hp.next_alloc, Hp.next_set, if_true]
      repeat (first|rw [if_neg (by omega)]|rw [if_pos (by omega)])
      try rfl
    · simp only [Hp.get_alloc, Hp.get_set, Hp.next_alloc, Hp.next_set, if_true]
      repeat (first|rw [if_neg (by omega)]|rw [if_pos (by omega)])
      try rfl
    · simp only [Hp.get_alloc, Hp.get_set, Hp.next_alloc, Hp.next_set, if_true]
      repeat (first|rw [if_neg (by omega)]|rw [if_pos (by omega)])
      try rfl
    · simp only [Hp.get_alloc, Hp.get_set, Hp.next_alloc, Hp.next_set, if_true]
      repeat (first|rw [if_neg (by omega)]|rw [if_pos (by omega)])
      try rfl
    · simp only [Hp.get_alloc, Hp.get_set, Hp.next_alloc, Hp.next_set, if_true]
      repeat (first|rw [if_neg (by omega)]|rw [if_pos (by omega)])
      try rfl
    intro H' hT
    refine WpL.call rfl eVk eAk ?_;simp only [List.cons_append,List.nil_append,List.append_nil]
    refine WpCall.mono ?_ (so_M (n:=2) (by omega) hT.rd 4 hnd)
    rintro w H1 ⟨rfl,i1⟩
    have rd1:RdW (fun k=>k ≠ H.next + 3) 3 H1 (.sl (H.next + 2) 0 6 3) (lstN (lpL i)):=hT.rd.frame (fun _ q=>q) (by rw [i1.next];omega) fun k _ _=>i1.same k
    by_cases hle:i + 1 ≤ 16
    · have s4 := hA.2 hle
      have s5:=hB.2 hle
      have hle':((i + 1:Nat):Int) ≤ 16:=by omega
      rw [s4]
      dsimp only [setO]
      repeat' (first
         | (apply Rx.nl ?_;clear hK K)|apply Ry.o ?_|apply Ry.on ?_|(apply Ry.gd (fun hg hgp=>?_) (fun hg hgp=>?_) <;> try (cases hg;done))|(apply Ry.cd (fun hb hbp=>?_) (fun hb hbp=>?_) <;> try (cases hb;done))|apply Wp.seq ?_|(apply Wp.ops' fun K hK=>?_)|apply Wp.block ?_|apply Rx.sk ?_|apply Rx.rt ?_|apply Rx.xt ?_)
      refine WpL.call rfl eVk eAk ?_;simp only [List.cons_append,List.nil_append,List.append_nil]
      refine WpCall.mono ?_ (so_M (n:=2) (by omega) rd1 5 hnd)
      rintro w H2 ⟨rfl,i2⟩
      rw [s5]
      obtain ⟨r,n,gg,hcu⟩:=hT.unit (i1.trans i2)
      clear hT rd1 s4 s5 hA hB
      dsimp only [setO]
      have gh0:=@bG1
      have gh1:=@bU
      have gh2:=@ag5
      repeat' (first
         | (apply Rx.nl ?_;clear hK K)|apply Ry.o ?_|apply Ry.on ?_|(apply Ry.gd (fun hg hgp=>?_) (fun hg hgp=>?_) <;> try (cases hg;done))|(apply Ry.cd (fun hb hbp=>?_) (fun hb hbp=>?_) <;> try (cases hb;done))|apply Wp.seq ?_|(apply Wp.ops' fun K hK=>?_)|apply Wp.block ?_|apply Rx.sk ?_|apply Rx.rt ?_|apply Rx.xt ?_)
      refine WpL.call rfl eVk eAk ?_;simp only [List.cons_append,List.nil_append,List.append_nil]
      refine WpCall.mono ?_ (iv_M (n:=5) (by omega) hcu (lp_un i _ _ hM17))
      rintro w H3 ⟨rfl,i3⟩
      rw [hC]
      by_cases h1:1 < i + 1
      · have h1' : (1 : Int) < ((i + 1 : Nat) : Int) := by omega
        rw [decide_eq_true hle,decide_eq_true h1]
        dsimp only [setO,Bool.not_true,Bool.not_false,Bool.true_and,Bool.and_true,Bool.and_false,Bool.false_and]
        repeat' (first
           | (apply Rx.nl ?_;clear hK K)|apply Ry.o ?_|apply Ry.on ?_|(apply Ry.call ?_;first|refine Rx.k (kIEx _) ?_)|(apply Ry.gd (fun hg hgp=>?_) (fun hg hgp=>?_) <;> try (cases hg;done))|(apply Ry.cd (fun hb hbp=>?_) (fun hb hbp=>?_) <;> try (cases hb;done))|apply Wp.seq ?_|(apply Wp.ops' fun K hK=>?_)|apply Wp.block ?_|apply Rx.sk ?_|apply Rx.rt ?_|apply Rx.xt ?_)
        all_goals (refine ⟨eI,_,eR,?_⟩;try simp only [oneOr])
      · have h1' : ¬ (1 : Int) < ((i + 1 : Nat) : Int) := by omega
        rw [decide_eq_true hle,decide_eq_false h1]
        dsimp only [setO,Bool.not_true,Bool.not_false,Bool.true_and,Bool.and_true,Bool.and_false,Bool.false_and]
        repeat' (first
           | (apply Rx.nl ?_;clear hK K)|apply Ry.o ?_|apply Ry.on ?_|(apply Ry.call ?_;first|refine Rx.k (kIEx _) ?_)|(apply Ry.gd (fun hg hgp=>?_) (fun hg hgp=>?_) <;> try (cases hg;done))|(apply Ry.cd (fun hb hbp=>?_) (fun hb hbp=>?_) <;> try (cases hb;done))|apply Wp.seq ?_|(apply Wp.ops' fun K hK=>?_)|apply Wp.block ?_|apply Rx.sk ?_|apply Rx.rt ?_|apply Rx.xt ?_)
        all_goals (refine ⟨eI,_,eR,?_⟩;try simp only [oneOr])
    · have s4 : ¬ sortI (lpL i) 4 = 3 := fun h => hle (hA.1 h)
      have s5:¬ sortI (lpL i) 5=2:=fun h=>hle (hB.1 h)
      have hle':¬ ((i + 1:Nat):Int) ≤ 16:=by omega
      generalize sortI (lpL i) 4=v4 at *
      dsimp only [setO]
      repeat' (first
         | (apply Rx.nl ?_;clear hK K)|apply Ry.o ?_|apply Ry.on ?_|(apply Ry.gd (fun hg hgp=>?_) (fun hg hgp=>?_) <;> try (cases hg;done))|(apply Ry.cd (fun hb hbp=>?_) (fun hb hbp=>?_) <;> try (cases hb;done))|apply Wp.seq ?_|(apply Wp.ops' fun K hK=>?_)|apply Wp.block ?_|apply Rx.sk ?_|apply Rx.rt ?_|apply Rx.xt ?_)
      refine WpL.call rfl eVk eAk ?_;simp only [List.cons_append,List.nil_append,List.append_nil]
      refine WpCall.mono ?_ (so_M (n:=2) (by omega) rd1 5 hnd)
      rintro w H2 ⟨rfl,i2⟩
      generalize sortI (lpL i) 5=v5 at *
      obtain ⟨r,n,gg,hcu⟩:=hT.unit (i1.trans i2)
      clear hT rd1 s4 hA hB
      dsimp only [setO]
      have gh0:=@bG1
      have gh1:=@bU
      have gh2:=@ag5
      repeat' (first
         | (apply Rx.nl ?_;clear hK K)|apply Ry.o ?_|apply Ry.on ?_|(apply Ry.gd (fun hg hgp=>?_) (fun hg hgp=>?_) <;> try (cases hg;done))|(apply Ry.cd (fun hb hbp=>?_) (fun hb hbp=>?_) <;> try (cases hb;done))|apply Wp.seq ?_|(apply Wp.ops' fun K hK=>?_)|apply Wp.block ?_|apply Rx.sk ?_|apply Rx.rt ?_|apply Rx.xt ?_)
      refine WpL.call rfl eVk eAk ?_;simp only [List.cons_append,List.nil_append,List.append_nil]
      refine WpCall.mono ?_ (iv_M (n:=5) (by omega) hcu (lp_un i _ _ hM17))
      rintro w H3 ⟨rfl,i3⟩
      rw [hC]
      rw [decide_eq_false hle]
      dsimp only [setO,Bool.not_true,Bool.not_false,Bool.true_and,Bool.and_true,Bool.and_false,Bool.false_and]
      repeat' (first
         | (apply Rx.nl ?_;clear hK K)|apply Ry.o ?_|apply Ry.on ?_|(apply Ry.call ?_;first|refine Rx.k (kIEx _) ?_)|(apply Ry.gd (fun hg hgp=>?_) (fun hg hgp=>?_) <;> try (cases hg;done))|(apply Ry.cd (fun hb hbp=>?_) (fun hb hbp=>?_) <;> try (cases hb;done))|apply Wp.seq ?_|(apply Wp.ops' fun K hK=>?_)|apply Wp.block ?_|apply Rx.sk ?_|apply Rx.rt ?_|apply Rx.xt ?_)
      all_goals (refine ⟨eI,_,eR,?_⟩;try simp only [oneOr])
  · have gh0 := @bI1'
    have gh1:=@bI3'
    have gh2:=@bN1
    have gh3:=@bN2
    have gh4:=@bNk
    have gh5:=@bG
    repeat' (first
       | (apply Rx.nl ?_;clear hK K)|apply Ry.o ?_|apply Ry.on ?_|(apply Ry.gd (fun hg hgp=>?_) (fun hg hgp=>?_) <;> try (cases hg;done))|(apply Ry.cd (fun hb hbp=>?_) (fun hb hbp=>?_) <;> try (cases hb;done))|apply Wp.seq ?_|(apply Wp.ops' fun K hK=>?_)|apply Wp.block ?_|apply Rx.sk ?_|apply Rx.rt ?_|apply Rx.xt ?_)
    refine WpL.gen (TL i true false (H.next + 3) (.sl (H.next + 2) 0 6 3)) (tl_6 hI ?_ ?_ ?_ ?_ ?_) ?_
    · rfl
    · intro k h0 hk
      simp only [Hp.get_alloc,Hp.get_set,Hp.next_alloc,Hp.next_set,if_true]
      repeat (first|rw [if_neg (by omega)]|rw [if_pos (by omega)])
    · simp only [Hp.get_alloc, Hp.get_set, Hp.next_alloc, Hp.next_set, if_true]
      repeat (first|rw [if_neg (by omega)]|rw [if_pos (by omega)])
      try rfl
    · simp only [Hp.get_alloc, Hp.get_set, Hp.next_alloc, Hp.next_set, if_true]
      repeat (first|rw [if_neg (by omega)]|rw [if_pos (by omega)])
      try rfl
    · simp only [Hp.get_alloc, Hp.get_set, Hp.next_alloc, Hp.next_set, if_true]
      repeat (first|rw [if_neg (by omega)]|rw [if_pos (by omega)])
      try rfl
    intro H' hT
    refine WpL.call rfl eVk eAk ?_;simp only [List.cons_append,List.nil_append,List.append_nil]
    refine WpCall.mono ?_ (so_M (n:=2) (by omega) hT.rd 4 hnd)
    rintro w H1 ⟨rfl,i1⟩
    have rd1:RdW (fun k=>k ≠ H.next + 3) 3 H1 (.sl (H.next + 2) 0 6 3) (lstN (lpL i)):=hT.rd.frame (fun _ q=>q) (by rw [i1.next];omega) fun k _ _=>i1.same k
    by_cases hle:i + 1 ≤ 16
    · have s4 := hA.2 hle
      have s5:=hB.2 hle
      have hle':((i + 1:Nat):Int) ≤ 16:=by omega
      rw [s4]
      dsimp only [setO]
      repeat' (first
         | (apply Rx.nl ?_;clear hK K)|apply Ry.o ?_|apply Ry.on ?_|(apply Ry.gd (fun hg hgp=>?_) (fun hg hgp=>?_) <;> try (cases hg;done))|(apply Ry.cd (fun hb hbp=>?_) (fun hb hbp=>?_) <;> try (cases hb;done))|apply Wp.seq ?_|(apply Wp.ops' fun K hK=>?_)|apply Wp.block ?_|apply Rx.sk ?_|apply Rx.rt ?_|apply Rx.xt ?_)
      refine WpL.call rfl eVk eAk ?_;simp only [List.cons_append,List.nil_append,List.append_nil]
      refine WpCall.mono ?_ (so_M (n:=2) (by omega) rd1 5 hnd)
      rintro w H2 ⟨rfl,i2⟩
      rw [s5]
      obtain ⟨r,n,gg,hcu⟩:=hT.unit (i1.trans i2)
      clear hT rd1 s4 s5 hA hB
      dsimp only [setO]
      have gh0:=@bG1
      have gh1:=@bU
      have gh2:=@ag5
      repeat' (first
         | (apply Rx.nl ?_;clear hK K)|apply Ry.o ?_|apply Ry.on ?_|(apply Ry.gd (fun hg hgp=>?_) (fun hg hgp=>?_) <;> try (cases hg;done))|(apply Ry.cd (fun hb hbp=>?_) (fun hb hbp=>?_) <;> try (cases hb;done))|apply Wp.seq ?_|(apply Wp.ops' fun K hK=>?_)|apply Wp.block ?_|apply Rx.sk ?_|apply Rx.rt ?_|apply Rx.xt ?_)
      refine WpL.call rfl eVk eAk ?_;simp only [List.cons_append,List.nil_append,List.append_nil]
      refine WpCall.mono ?_ (iv_M (n:=5) (by omega) hcu (lp_un i _ _ hM17))
      rintro w H3 ⟨rfl,i3⟩
      rw [hC]
      by_cases h1:1 < i + 1
      · have h1' : (1 : Int) < ((i + 1 : Nat) : Int) := by omega
        rw [decide_eq_true hle,decide_eq_true h1]
        dsimp only [setO,Bool.not_true,Bool.not_false,Bool.true_and,Bool.and_true,Bool.and_false,Bool.false_and]
        repeat' (first
           | (apply Rx.nl ?_;clear hK K)|apply Ry.o ?_|apply Ry.on ?_|(apply Ry.call ?_;first|refine Rx.k (kIEx _) ?_)|(apply Ry.gd (fun hg hgp=>?_) (fun hg hgp=>?_) <;> try (cases hg;done))|(apply Ry.cd (fun hb hbp=>?_) (fun hb hbp=>?_) <;> try (cases hb;done))|apply Wp.seq ?_|(apply Wp.ops' fun K hK=>?_)|apply Wp.block ?_|apply Rx.sk ?_|apply Rx.rt ?_|apply Rx.xt ?_)
        all_goals (refine ⟨eI,_,eR,?_⟩;try simp only [oneOr])
      · have h1' : ¬ (1 : Int) < ((i + 1 : Nat) : Int) := by omega
        rw [decide_eq_true hle,decide_eq_false h1]
        dsimp only [setO,Bool.not_true,Bool.not_false,Bool.true_and,Bool.and_true,Bool.and_false,Bool.false_and]
        repeat' (first
           | (apply Rx.nl ?_;clear hK K)|apply Ry.o ?_|apply Ry.on ?_|(apply Ry.call ?_;first|refine Rx.k (kIEx _) ?_)|(apply Ry.gd (fun hg hgp=>?_) (fun hg hgp=>?_) <;> try (cases hg;done))|(apply Ry.cd (fun hb hbp=>?_) (fun hb hbp=>?_) <;> try (cases hb;done))|apply Wp.seq ?_|(apply Wp.ops' fun K hK=>?_)|apply Wp.block ?_|apply Rx.sk ?_|apply Rx.rt ?_|apply Rx.xt ?_)
        all_goals (refine ⟨eI,_,eR,?_⟩;try simp only [oneOr])
    · have s4 : ¬ sortI (lpL i) 4 = 3 := fun h => hle (hA.1 h)
      have s5:¬ sortI (lpL i) 5=2:=fun h=>hle (hB.1 h)
      have hle':¬ ((i + 1:Nat):Int) ≤ 16:=by omega
      generalize sortI (lpL i) 4=v4 at *
      dsimp only [setO]
      repeat' (first
         | (apply Rx.nl ?_;clear hK K)|apply Ry.o ?_|apply Ry.on ?_|(apply Ry.gd (fun hg hgp=>?_) (fun hg hgp=>?_) <;> try (cases hg;done))|(apply Ry.cd (fun hb hbp=>?_) (fun hb hbp=>?_) <;> try (cases hb;done))|apply Wp.seq ?_|(apply Wp.ops' fun K hK=>?_)|apply Wp.block ?_|apply Rx.sk ?_|apply Rx.rt ?_|apply Rx.xt ?_)
      refine WpL.call rfl eVk eAk ?_;simp only [List.cons_append,List.nil_append,List.append_nil]
      refine WpCall.mono ?_ (so_M (n:=2) (by omega) rd1 5 hnd)
      rintro w H2 ⟨rfl,i2⟩
      generalize sortI (lpL i) 5=v5 at *
      obtain ⟨r,n,gg,hcu⟩:=hT.unit (i1.trans i2)
      clear hT rd1 s4 hA hB
      dsimp only [setO]
      have gh0:=@bG1
      have gh1:=@bU
      have gh2:=@ag5
      repeat' (first
         | (apply Rx.nl ?_;clear hK K)|apply Ry.o ?_|apply Ry.on ?_|(apply Ry.gd (fun hg hgp=>?_) (fun hg hgp=>?_) <;> try (cases hg;done))|(apply Ry.cd (fun hb hbp=>?_) (fun hb hbp=>?_) <;> try (cases hb;done))|apply Wp.seq ?_|(apply Wp.ops' fun K hK=>?_)|apply Wp.block ?_|apply Rx.sk ?_|apply Rx.rt ?_|apply Rx.xt ?_)
      refine WpL.call rfl eVk eAk ?_;simp only [List.cons_append,List.nil_append,List.append_nil]
      refine WpCall.mono ?_ (iv_M (n:=5) (by omega) hcu (lp_un i _ _ hM17))
      rintro w H3 ⟨rfl,i3⟩
      rw [hC]
      rw [decide_eq_false hle]
      dsimp only [setO,Bool.not_true,Bool.not_false,Bool.true_and,Bool.and_true,Bool.and_false,Bool.false_and]
      repeat' (first
         | (apply Rx.nl ?_;clear hK K)|apply Ry.o ?_|apply Ry.on ?_|(apply Ry.call ?_;first|refine Rx.k (kIEx _) ?_)|(apply Ry.gd (fun hg hgp=>?_) (fun hg hgp=>?_) <;> try (cases hg;done))|(apply Ry.cd (fun hb hbp=>?_) (fun hb hbp=>?_) <;> try (cases hb;done))|apply Wp.seq ?_|(apply Wp.ops' fun K hK=>?_)|apply Wp.block ?_|apply Rx.sk ?_|apply Rx.rt ?_|apply Rx.xt ?_)
      all_goals (refine ⟨eI,_,eR,?_⟩;try simp only [oneOr])
  · have h1a := one_app (H := ((((((((H.alloc (.cells [.int .i64 4] 0 true)).alloc (.cells [.int .i64 31, .int .i64 0, v, .int .i64 25, .int .i64 0, .sl H.next 0 1 1] 0 true)).set 0 (.cells nd4 12 false)).alloc (.cells [.int .i64 26, .int .i64 0, .nilS, .int .i64 1, .int .i64 0, .nilS, .int .i64 3, .int .i64 0, .nilS, .int .i64 3, .int .i64 1, .nilS, .int .i64 31, .int .i64 0, v, .int .i64 25, .int .i64 0, .sl H.next 0 1 1] 12 true)).alloc (.cells [.str [], .int .i64 0, .nilS, .int .i64 0, .int .i64 0] 0 true)).set (H.next + 3) (.cells [.str [102], .int .i64 0, .sl (H.next + 2) 0 6 3, .int .i64 1, .int .i64 5] 0 true)).set (H.next + 3) (.cells [.str [102], .int .i64 0, .sl (H.next + 2) 0 6 3, .int .i64 3, .int .i64 5] 0 true)).alloc (.cells [.int .i64 0, .int .i64 1, .int .i64 0] 0 true)).alloc (.cells [.int .i64 31, .int .i64 0, .sl (H.next + 4) 0 3 1] 0 true)) (cs := [.int .i64 26, .int .i64 0, .nilS, .int .i64 1, .int .i64 0, .nilS, .int .i64 3, .int .i64 0, .nilS, .int .i64 3, .int .i64 1, .nilS, .int .i64 31, .int .i64 0, v, .int .i64 25, .int .i64 0, .sl H.next 0 1 1]) (p := H.next + 2) (r := H.next + 5) (q := H.next + 4) (by
      simp only [Hp.get_alloc,Hp.get_set,Hp.next_alloc,Hp.next_set,if_true]
      repeat (first|rw [if_neg (by omega)]|rw [if_pos (by omega)])
      try rfl) rfl (by
      simp only [Hp.get_alloc,Hp.get_set,Hp.next_alloc,Hp.next_set,if_true]
      repeat (first|rw [if_neg (by omega)]|rw [if_pos (by omega)])
      try rfl)
    have gh0:=@bI1'
    have gh1:=@bI3'
    have gh2:=@bN1
    have gh3:=@bN2
    have gh4:=@bNk
    have gh5:=@bG
    repeat' (first
       | (apply Rx.nl ?_;clear hK K)|apply Ry.o ?_|apply Ry.on ?_|(apply Ry.gd (fun hg hgp=>?_) (fun hg hgp=>?_) <;> try (cases hg;done))|(apply Ry.cd (fun hb hbp=>?_) (fun hb hbp=>?_) <;> try (cases hb;done))|apply Wp.seq ?_|(apply Wp.ops' fun K hK=>?_)|apply Wp.block ?_|apply Rx.sk ?_|apply Rx.rt ?_|apply Rx.xt ?_)
    refine WpL.gen (TL i true true (H.next + 3) (.sl (H.next + 2) 0 6 3)) (tl_7 hI ?_ ?_ ?_ ?_ ?_ ?_ ?_) ?_
    · rfl
    · intro k h0 hk
      simp only [Hp.get_alloc,Hp.get_set,Hp.next_alloc,Hp.next_set,if_true]
      repeat (first|rw [if_neg (by omega)]|rw [if_pos (by omega)])
    · simp only [Hp.get_alloc, Hp.get_set, Hp.next_alloc, Hp.next_set, if_true]
      repeat (first|rw [if_neg (by omega)]|rw [if_pos (by omega)])
      try rfl
    · simp only [Hp.get_alloc, Hp.get_set, Hp.next_alloc, Hp.next_set, if_true]
      repeat (first|rw [if_neg (by omega)]|rw [if_pos (by omega)])
      try rfl
    · simp only [Hp.get_alloc, Hp.get_set, Hp.next_alloc, Hp.next_set, if_true]
      repeat (first|rw [if_neg (by omega)]|rw [if_pos (by omega)])
      try rfl
    · simp only [Hp.get_alloc, Hp.get_set, Hp.next_alloc, Hp.next_set, if_true]
      repeat (first|rw [if_neg (by omega)]|rw [if_pos (by omega)])
      try rfl
    · simp only [Hp.get_alloc, Hp.get_set, Hp.next_alloc, Hp.next_set, if_true]
      repeat (first|rw [if_neg (by omega)]|rw [if_pos (by omega)])
      try rfl
    intro H' hT
    refine WpL.call rfl eVk eAk ?_;simp only [List.cons_append,List.nil_append,List.append_nil]
    refine WpCall.mono ?_ (so_M (n:=2) (by omega) hT.rd 4 hnd)
    rintro w H1 ⟨rfl,i1⟩
    have rd1:RdW (fun k=>k ≠ H.next + 3) 3 H1 (.sl (H.next + 2) 0 6 3) (lstN (lpL i)):=hT.rd.frame (fun _ q=>q) (by rw [i1.next];omega) fun k _ _=>i1.same k
    by_cases hle:i + 1 ≤ 16
    · have s4 := hA.2 hle
      have s5:=hB.2 hle
      have hle':((i + 1:Nat):Int) ≤ 16:=by omega
      rw [s4]
      dsimp only [setO]
      repeat' (first
         | (apply Rx.nl ?_;clear hK K)|apply Ry.o ?_|apply Ry.on ?_|(apply Ry.gd (fun hg hgp=>?_) (fun hg hgp=>?_) <;> try (cases hg;done))|(apply Ry.cd (fun hb hbp=>?_) (fun hb hbp=>?_) <;> try (cases hb;done))|apply Wp.seq ?_|(apply Wp.ops' fun K hK=>?_)|apply Wp.block ?_|apply Rx.sk ?_|apply Rx.rt ?_|apply Rx.xt ?_)
      refine WpL.call rfl eVk eAk ?_;simp only [List.cons_append,List.nil_append,List.append_nil]
      refine WpCall.mono ?_ (so_M (n:=2) (by omega) rd1 5 hnd)
      rintro w H2 ⟨rfl,i2⟩
      rw [s5]
      obtain ⟨r,n,gg,hcu⟩:=hT.unit (i1.trans i2)
      clear hT rd1 s4 s5 hA hB
      dsimp only [setO]
      have gh0:=@bG1
      have gh1:=@bU
      have gh2:=@ag5
      repeat' (first
         | (apply Rx.nl ?_;clear hK K)|apply Ry.o ?_|apply Ry.on ?_|(apply Ry.gd (fun hg hgp=>?_) (fun hg hgp=>?_) <;> try (cases hg;done))|(apply Ry.cd (fun hb hbp=>?_) (fun hb hbp=>?_) <;> try (cases hb;done))|apply Wp.seq ?_|(apply Wp.ops' fun K hK=>?_)|apply Wp.block ?_|apply Rx.sk ?_|apply Rx.rt ?_|apply Rx.xt ?_)
      refine WpL.call rfl eVk eAk ?_;simp only [List.cons_append,List.nil_append,List.append_nil]
      refine WpCall.mono ?_ (iv_M (n:=5) (by omega) hcu (lp_un i _ _ hM17))
      rintro w H3 ⟨rfl,i3⟩
      rw [hC]
      by_cases h1:1 < i + 1
      · have h1' : (1 : Int) < ((i + 1 : Nat) : Int) := by omega
        rw [decide_eq_true hle,decide_eq_true h1]
        dsimp only [setO,Bool.not_true,Bool.not_false,Bool.true_and,Bool.and_true,Bool.and_false,Bool.false_and]
        repeat' (first
           | (apply Rx.nl ?_;clear hK K)|apply Ry.o ?_|apply Ry.on ?_|(apply Ry.call ?_;first|refine Rx.k (kIEx _) ?_)|(apply Ry.gd (fun hg hgp=>?_) (fun hg hgp=>?_) <;> try (cases hg;done))|(apply Ry.cd (fun hb hbp=>?_) (fun hb hbp=>?_) <;> try (cases hb;done))|apply Wp.seq ?_|(apply Wp.ops' fun K hK=>?_)|apply Wp.block ?_|apply Rx.sk ?_|apply Rx.rt ?_|apply Rx.xt ?_)
        all_goals (refine ⟨eI,_,eR,?_⟩;try simp only [oneOr])
      · have h1' : ¬ (1 : Int) < ((i + 1 : Nat) : Int) := by omega
        rw [decide_eq_true hle,decide_eq_false h1]
        dsimp only [setO,Bool.not_true,Bool.not_false,Bool.true_and,Bool.and_true,Bool.and_false,Bool.false_and]
        repeat' (first
           | (apply Rx.nl ?_;clear hK K)|apply Ry.o ?_|apply Ry.on ?_|(apply Ry.call ?_;first|refine Rx.k (kIEx _) ?_)|(apply Ry.gd (fun hg hgp=>?_) (fun hg hgp=>?_) <;> try (cases hg;done))|(apply Ry.cd (fun hb hbp=>?_) (fun hb hbp=>?_) <;> try (cases hb;done))|apply Wp.seq ?_|(apply Wp.ops' fun K hK=>?_)|apply Wp.block ?_|apply Rx.sk ?_|apply Rx.rt ?_|apply Rx.xt ?_)
        all_goals (refine ⟨eI,_,eR,?_⟩;try simp only [oneOr])
    · have s4 : ¬ sortI (lpL i) 4 = 3 := fun h => hle (hA.1 h)
      have s5:¬ sortI (lpL i) 5=2:=fun h=>hle (hB.1 h)
      have hle':¬ ((i + 1:Nat):Int) ≤ 16:=by omega
      generalize sortI (lpL i) 4=v4 at *
      dsimp only [setO]
      repeat' (first
         | (apply Rx.nl ?_;clear hK K)|apply Ry.o ?_|apply Ry.on ?_|(apply Ry.gd (fun hg hgp=>?_) (fun hg hgp=>?_) <;> try (cases hg;done))|(apply Ry.cd (fun hb hbp=>?_) (fun hb hbp=>?_) <;> try (cases hb;done))|apply Wp.seq ?_|(apply Wp.ops' fun K hK=>?_)|apply Wp.block ?_|apply Rx.sk ?_|apply Rx.rt ?_|apply Rx.xt ?_)
      refine WpL.call rfl eVk eAk ?_;simp only [List.cons_append,List.nil_append,List.append_nil]
      refine WpCall.mono ?_ (so_M (n:=2) (by omega) rd1 5 hnd)
      rintro w H2 ⟨rfl,i2⟩
      generalize sortI (lpL i) 5=v5 at *
      obtain ⟨r,n,gg,hcu⟩:=hT.unit (i1.trans i2)
      clear hT rd1 s4 hA hB
      dsimp only [setO]
      have gh0:=@bG1
      have gh1:=@bU
      have gh2:=@ag5
      repeat' (first
         | (apply Rx.nl ?_;clear hK K)|apply Ry.o ?_|apply Ry.on ?_|(apply Ry.gd (fun hg hgp=>?_) (fun hg hgp=>?_) <;> try (cases hg;done))|(apply Ry.cd (fun hb hbp=>?_) (fun hb hbp=>?_) <;> try (cases hb;done))|apply Wp.seq ?_|(apply Wp.ops' fun K hK=>?_)|apply Wp.block ?_|apply Rx.sk ?_|apply Rx.rt ?_|apply Rx.xt ?_)
      refine WpL.call rfl eVk eAk ?_;simp only [List.cons_append,List.nil_append,List.append_nil]
      refine WpCall.mono ?_ (iv_M (n:=5) (by omega) hcu (lp_un i _ _ hM17))
      rintro w H3 ⟨rfl,i3⟩
      rw [hC]
      rw [decide_eq_false hle]
      dsimp only [setO,Bool.not_true,Bool.not_false,Bool.true_and,Bool.and_true,Bool.and_false,Bool.false_and]
      repeat' (first
         | (apply Rx.nl ?_;clear hK K)|apply Ry.o ?_|apply Ry.on ?_|(apply Ry.call ?_;first|refine Rx.k (kIEx _) ?_)|(apply Ry.gd (fun hg hgp=>?_) (fun hg hgp=>?_) <;> try (cases hg;done))|(apply Ry.cd (fun hb hbp=>?_) (fun hb hbp=>?_) <;> try (cases hb;done))|apply Wp.seq ?_|(apply Wp.ops' fun K hK=>?_)|apply Wp.block ?_|apply Rx.sk ?_|apply Rx.rt ?_|apply Rx.xt ?_)
      all_goals (refine ⟨eI,_,eR,?_⟩;try simp only [oneOr])
theorem con (k:Int) (out again:Bool):Con Try.prog (fun _=>0) 3 [.int .i64 k,.bool out,.bool again] (.bool true):=
 Con.of_pure (cfg:=cfgL) fit (noDec _) (fun g vs r hg=>EnsOk.look (levX_ok _) g vs r hg) (.cons (.int _ _) (.cons (.bool _) (.cons (.bool _) .nil))) (.bool _) (law k out again)
set_option maxRecDepth 100000 in
theorem walk (a0:Int) (a1 a2:Bool) (w0:(Lit.int .i64 a0).wf=true) (w:World) :
   Calls Try.prog 3 #[.int .i64 a0,.bool a1,.bool a2] w fun e w'=>e=.returned (.bool true) ∧ Below w.heap.size w w':=
 Con.walk (ρ:=fun _=>0) (F:=fun _ _=>none) (con a0 a1 a2) (fun _ _ _ h=>by simp at h) (VRs.cons (.int .i64 a0) (VRs.cons (.bool a1) (VRs.cons (.bool a2) (VRs.nil _))))
set_option maxRecDepth 100000 in
theorem lifted (os:Os) (started:os.Started) (H:Type) (enc:TypeId × Value → H) :
   ReturnsInHanded {} Try.checked os 3 .any (Rows.iRLoopsSpec.pre6 enc Try.prog Try.f3 Rows.iRLoopsRow.domain false) (Rows.iRLoopsSpec.post enc Try.prog Try.f3 false true false false):=by
 refine returnsInHanded_of_change (C:=Try.checked) own started (by kernel_rfl) Try.func3
   (ChangeSpec.witness6 (enc:=enc) (C:=Try.checked) false ⟨#[],#[.int .i64 0,.bool false,.bool false],[]⟩ 8 (by kernel_rfl) (by kernel_rfl) (by kernel_rfl) (by kernel_rfl)) ?_
 intro W base args ds gs before hval0 hW hcnd _
 have hval:∀ (j:Nat) t v,Try.f3.params[j]?=some t → args[j]?=some v → Value.okWide Try.prog W .any base t v:=hval0
 have hW':=hW
 obtain ⟨p,q,hA0,hV,rfl,hfz,hnd⟩:=hW
 have hA:DataW.TrodAll enc Try.prog W 0 (fun _=>true) true Try.f3.params.toList args.toList ds p:=hA0
 rw [Try.params3] at hA hval
 obtain ⟨v0,vs0,d0,ds0,p0,q0,hargs,rfl,rfl,h0,r0⟩:=trodAll_cons hA
 obtain ⟨v1,vs1,d1,ds1,p1,q1,rfl,rfl,rfl,h1,r1⟩:=trodAll_cons r0
 obtain ⟨v2,vs2,d2,ds2,p2,q2,rfl,rfl,rfl,h2,r2⟩:=trodAll_cons r1
 obtain ⟨rfl,rfl,rfl⟩:=trodAll_nil r2
 obtain rfl:args=#[v0,v1,v2]:=by cases args;simp_all
 obtain ⟨rfl,rfl⟩:=trodVars_none hV
 obtain ⟨a0,rfl,rfl,rfl,w0⟩:=open_int Try.underlying3 (hval 0 3 v0 rfl rfl) h0
 obtain ⟨a1,rfl,rfl,rfl⟩:=open_bool Try.underlying4 (hval 1 4 v1 rfl rfl) h1
 obtain ⟨a2,rfl,rfl,rfl⟩:=open_bool Try.underlying4 (hval 2 4 v2 rfl rfl) h2
 clear hA0 hval0
 simp only [List.append_nil] at hW'
 refine (walk a0 a1 a2 w0 W).mono fun e W' ⟨he,hg⟩=>?_
 subst he
 exact ⟨_,rfl,post_of_below (pa:=[]) (pv:=[]) hW' (fun _ _ _=>(trodAll_cons_mk (shut_bool Try.underlying4 _) trodAll_mk0)) (fun sp _=>(trodAll_cons_mk (shut_int Try.underlying3 w0) (trodAll_cons_mk (shut_bool Try.underlying4 _) (trodAll_cons_mk (shut_bool Try.underlying4 _) trodAll_mk0)))) (fun _ _=>rfl) rfl
   hg (ok_one (by kernel_rfl) rfl (okWide_bool_mk Try.underlying4 _))⟩
theorem over:Rows.iRLoopsRow.holds Try.pinned (OpenSpec.ofChange Rows.iRLoopsSpec):=
 OpenClaim.holds_of_wide 3 Try.f3 rfl rfl rfl rfl rfl rfl rfl ⟨rfl,rfl,rfl,rfl,rfl⟩ rfl rfl rfl rfl rfl (by kernel_rfl) Try.func3 (by kernel_rfl)
   (of_decide_eq_true (by kernel_rfl)) (by unfold Func.isWrapper;first|(rw [if_pos (by decide +kernel)];kernel_rfl)|(rw [if_neg (by decide +kernel)];exact ⟨rfl,rfl⟩))
   (fun os started H enc _=>lifted os started H enc)
theorem proved:Rows.IRLoopsSaid:=
 over
#print axioms proved
end Go.Proofs.Ytpbcimfiofmoeaa.iRLoops
