/- Parts: LoF, LoF6, LoG, LoH. -/
import Derived.Test.YtpbcimfiofmoeaaSDJ
set_option linter.unusedSimpArgs false
set_option linter.unusedVariables false
set_option linter.unusedSectionVars false
set_option linter.defProp false
set_option maxHeartbeats 32000000
namespace Go.Proofs.Ytpbcimfiofmoeaa
set_option maxRecDepth 20000
set_option maxRecDepth 20000
open Go Go.Ab
namespace tyLoF
def tyF:=And.intro @tq2 (And.intro @tq3 (And.intro @tq9 (And.intro @zcV (And.intro @zg4 (And.intro @zcj (And.intro @za9 (And.intro @zba (And.intro @zau (And.intro @zbw (And.intro @zgd (And.intro @zh7 (And.intro @bI3 (@bI2)))))))))))))
end tyLoF
open tyLoF
noncomputable def zd6:{ c:SC // slim 155 (Try.f99.body.getD .skip)=c }:=by
 refine⟨?_,?_⟩
 rotate_left
 ·simp only[Try.f99,Option.getD_some,slim,zZ,zS,z6,z7,Nat.blt,Nat.ble]
  rfl
section
variable {tb:List En} (hG:LowT tb) {X:Lx} {c:Cx} (hX:CxOk X c) {x:St} {s:Bd} {H:Hp} {S:Nat → Prop} {lv vv:AV}
set_option maxRecDepth 100000 in
set_option maxHeartbeats 4000000 in
include hG hX in
theorem lst1 (hk:x.kind=1) {n:Nat}{r:Int×Bd} (he:exL c n x.value s=some r) (hl:ixS c.names x.name < r.2.vars.length) (hF:Fin r.2) (hR:RepL X H S s lv vv) :
 zr Try.prog (zK pls tb) 99 [.ptr X.b 0,.agg x.cells] H (zbO X S vv H { r.2 with vars:=r.2.vars.set (ixS c.names x.name) r.1 }):=by
 have hw:Plain (zK pls tb) 99:=hG.plain (by rfl)
 have R1:=hR.alloc (.cells x.cells 0 true)
 have F1:=(FrL.refl X S vv H).alloc (.cells x.cells 0 true)
 have m1:=R1.m
 unfold lc at m1
 have hlk1:=R1.lkN hX x.name
 have hlv:=yg c n _ _ _ he
 have hl1:ixS c.names x.name < s.vars.length:=by rw[← hlv.v];exact hl
 obtain⟨q,hix,hld,_⟩:=R1.setV hl1 r.1
 refine zj (M:=155) (rs:=[]) (hw.call _) hw.ice hw.froz Try.func99 rfl rfl zd6.2 rfl ?_;dsimp only[zd6,zO,Nat.reduceAdd]
 repeat' (first
  | (apply Rx.nl ?_;clear hK K)|apply Ry.o ?_|(apply Ry.cd (fun hb hbp=>?_) (fun hb hbp=>?_)<;>try (cases hb;done))|apply Wp.seq ?_|(apply zd fun K hK=>?_)|(apply zf 3 [(3,14),(3,16),(7,14),(7,16),(9,14),(9,16),(10,14),(10,16),(13,14)] fun K hK=>?_)|(apply zf 5 [(3,8),(5,8),(6,8)] fun K hK=>?_)|(apply zf 14 [(2,5),(2,6)] fun K hK=>?_)|(apply zf 22 [(5,15),(5,16),(7,15),(7,16),(8,15),(8,16),(12,15),(13,15)] fun K hK=>?_)|(apply zf 23 [(3,17),(3,19),(7,17),(7,19),(9,17),(9,19),(10,17),(10,19),(15,17),(16,17)] fun K hK=>?_)|(apply zw ?_;try intro _)|(apply zx ?_ ?_<;>clear hK K)|apply WpT.step ?_|apply zo rfl ?_|apply Wp.block ?_)
 refine WpL.call rfl eVk eAk ?_;simp only[List.cons_append,List.nil_append,List.append_nil]
 refine zr.mono ?_ (zaM hG hX n x.value s r he hF R1 (FrL.refl _ _ _ _))
 rintro v H2 ⟨rfl,S2,lv2,R2,F2⟩
 have g2:=FrL.box hR F2
 have m2:=R2.m
 unfold lc at m2
 have hlk2:=R2.lkN hX x.name
 obtain⟨q',hix',hld',H3,hst,hq1,hq2,hq3,R3,F3,o3,n3⟩:=R2.setV hl r.1
 have hqq:q'=q:=by
  rw[hix]at hix'
  simp only[Option.some.injEq,AV.ptr.injEq]at hix'
  exact hix'.1.symm
 subst hqq
 have n2:H.next+1≤H2.next:=F2.next
 have m3:=R3.m
 have hlk3:=R3.lkN hX x.name
 have g3:H3.get H.next=some (.cells x.cells 0 true):=by rw[o3 _ (by have:=hR.new (Nat.le_refl _);intro e;subst e;exact this.2.1 hq3)];exact g2
 dsimp only[lc]at m3
 dsimp only[zA]
 repeat' (first
  | (apply Rx.nl ?_;clear hK K)|apply Rx.o ?_|apply Rx.on ?_|apply Wp.seq ?_|(apply zd fun K hK=>?_)|(apply zf 3 [(3,14),(3,16),(7,14),(7,16),(9,14),(9,16),(10,14),(10,16),(13,14)] fun K hK=>?_)|(apply zf 5 [(3,8),(5,8),(6,8)] fun K hK=>?_)|(apply zf 14 [(2,5),(2,6)] fun K hK=>?_)|(apply zf 22 [(5,15),(5,16),(7,15),(7,16),(8,15),(8,16),(12,15),(13,15)] fun K hK=>?_)|(apply zf 23 [(3,17),(3,19),(7,17),(7,19),(9,17),(9,19),(10,17),(10,19),(15,17),(16,17)] fun K hK=>?_)|(apply zw ?_;try intro _)|(apply zx ?_ ?_<;>clear hK K)|apply WpT.step ?_|apply zo rfl ?_|apply Wp.block ?_)
 ·exact eK
 ·all_goals (refine⟨eI,_,eR,?_⟩;try simp only[zp])
  exact⟨S2,lv2,vv,R3,F1.trans (F2.trans F3)⟩
set_option maxRecDepth 100000 in
set_option maxHeartbeats 4000000 in
include hG hX in
theorem lst2 (hk:x.kind=2) {n:Nat}{i v:Int×Bd} (h1:exL c n x.at_ s=some i) (h2:exL c n x.value i.2=some v) {a:Ar} (ha:c.arrays[ixS (c.arrays.map (·.name)) x.name]?=some a)
 (hF:Fin (zm ⟨28,ixS (c.arrays.map (·.name)) x.name,[(zaL a.len i.1 v.2).state,i.1,v.1]⟩ (zaL a.len i.1 v.2)).2) (hR:RepL X H S s lv vv) :
 zr Try.prog (zK pls tb) 99 [.ptr X.b 0,.agg x.cells] H (zbO X S vv H { (zm ⟨28,ixS (c.arrays.map (·.name)) x.name,[(zaL a.len i.1 v.2).state,i.1,v.1]⟩ (zaL a.len i.1 v.2)).2 with state:=(zm ⟨28,ixS (c.arrays.map (·.name)) x.name,[(zaL a.len i.1 v.2).state,i.1,v.1]⟩ (zaL a.len i.1 v.2)).1 }):=by
 have hw:Plain (zK pls tb) 99:=hG.plain (by rfl)
 have R1:=hR.alloc (.cells x.cells 0 true)
 have F1:=(FrL.refl X S vv H).alloc (.cells x.cells 0 true)
 have m1:=R1.m
 unfold lc at m1
 have hlk1:=R1.lkA hX x.name
 have hFc:Fin (zaL a.len i.1 v.2):=hF.le (zV _ _).le
 have hFv:Fin v.2:=hFc.le (zdt _ _ _).le
 have hFi:Fin i.2:=hFv.le (yg c n _ _ _ h2).le
 have ha':X.p.arrays[ixS (c.arrays.map (·.name)) x.name]?=some a:=by rw[← hX.ar];exact ha
 refine zj (M:=155) (rs:=[]) (hw.call _) hw.ice hw.froz Try.func99 rfl rfl zd6.2 rfl ?_;dsimp only[zd6,zO,Nat.reduceAdd]
 repeat' (first
  | (apply Rx.nl ?_;clear hK K)|apply Ry.o ?_|(apply Ry.cd (fun hb hbp=>?_) (fun hb hbp=>?_)<;>try (cases hb;done))|apply Wp.seq ?_|(apply zd fun K hK=>?_)|(apply zf 3 [(3,14),(3,16),(7,14),(7,16),(9,14),(9,16),(10,14),(10,16),(13,14)] fun K hK=>?_)|(apply zf 5 [(3,8),(5,8),(6,8)] fun K hK=>?_)|(apply zf 14 [(2,5),(2,6)] fun K hK=>?_)|(apply zf 22 [(5,15),(5,16),(7,15),(7,16),(8,15),(8,16),(12,15),(13,15)] fun K hK=>?_)|(apply zf 23 [(3,17),(3,19),(7,17),(7,19),(9,17),(9,19),(10,17),(10,19),(15,17),(16,17)] fun K hK=>?_)|(apply zw ?_;try intro _)|(apply zx ?_ ?_<;>clear hK K)|apply WpT.step ?_|apply Wp.block ?_)
 all_goals first
  | exact eK
  | skip
 refine WpL.call rfl eVk eAk ?_;simp only[List.cons_append,List.nil_append,List.append_nil]
 refine zr.mono ?_ (zaM hG hX n x.at_ s i h1 hFi R1 (FrL.refl _ _ _ _))
 rintro w H2 ⟨rfl,S2,lv2,R2,F2⟩
 have g2:=FrL.box hR F2
 dsimp only[zA]
 repeat' (first
  | (apply Rx.nl ?_;clear hK K)|apply Rx.o ?_|apply Rx.on ?_|apply Wp.seq ?_|(apply zd fun K hK=>?_)|(apply zf 3 [(3,14),(3,16),(7,14),(7,16),(9,14),(9,16),(10,14),(10,16),(13,14)] fun K hK=>?_)|(apply zf 5 [(3,8),(5,8),(6,8)] fun K hK=>?_)|(apply zf 14 [(2,5),(2,6)] fun K hK=>?_)|(apply zf 22 [(5,15),(5,16),(7,15),(7,16),(8,15),(8,16),(12,15),(13,15)] fun K hK=>?_)|(apply zf 23 [(3,17),(3,19),(7,17),(7,19),(9,17),(9,19),(10,17),(10,19),(15,17),(16,17)] fun K hK=>?_)|(apply zw ?_;try intro _)|(apply zx ?_ ?_<;>clear hK K)|apply WpT.step ?_|apply Wp.block ?_)
 refine WpL.call rfl eVk eAk ?_;simp only[List.cons_append,List.nil_append,List.append_nil]
 refine zr.mono ?_ (zaM hG hX n x.value i.2 v h2 hFv R2 (FrL.refl _ _ _ _))
 rintro w H3 ⟨rfl,S3,lv3,R3,F3⟩
 have g3:=FrL.box hR (F2.trans F3)
 dsimp only[zA]
 repeat' (first
  | (apply Rx.nl ?_;clear hK K)|apply Rx.o ?_|apply Rx.on ?_|apply Wp.seq ?_|(apply zd fun K hK=>?_)|(apply zf 3 [(3,14),(3,16),(7,14),(7,16),(9,14),(9,16),(10,14),(10,16),(13,14)] fun K hK=>?_)|(apply zf 5 [(3,8),(5,8),(6,8)] fun K hK=>?_)|(apply zf 14 [(2,5),(2,6)] fun K hK=>?_)|(apply zf 22 [(5,15),(5,16),(7,15),(7,16),(8,15),(8,16),(12,15),(13,15)] fun K hK=>?_)|(apply zf 23 [(3,17),(3,19),(7,17),(7,19),(9,17),(9,19),(10,17),(10,19),(15,17),(16,17)] fun K hK=>?_)|(apply zw ?_;try intro _)|(apply zx ?_ ?_<;>clear hK K)|apply WpT.step ?_|apply Wp.block ?_)
 refine WpL.call rfl eVk eAk ?_;simp only[List.cons_append,List.nil_append,List.append_nil]
 refine zr.mono ?_ (ziC hG R3 (FrL.refl _ _ _ _) (ixS (c.arrays.map (·.name)) x.name) i.1 ha' hFc)
 rintro w H4 ⟨S4,lv4,R4,F4⟩
 have m4:=R4.m
 unfold lc at m4
 have nw4:=R4.new (Nat.le_refl _)
 dsimp only[zA]
 repeat' (first
  | (apply Rx.nl ?_;clear hK K)|apply Rx.o ?_|apply Rx.on ?_|apply Wp.seq ?_|(apply zd fun K hK=>?_)|(apply zf 3 [(3,14),(3,16),(7,14),(7,16),(9,14),(9,16),(10,14),(10,16),(13,14)] fun K hK=>?_)|(apply zf 5 [(3,8),(5,8),(6,8)] fun K hK=>?_)|(apply zf 14 [(2,5),(2,6)] fun K hK=>?_)|(apply zf 22 [(5,15),(5,16),(7,15),(7,16),(8,15),(8,16),(12,15),(13,15)] fun K hK=>?_)|(apply zf 23 [(3,17),(3,19),(7,17),(7,19),(9,17),(9,19),(10,17),(10,19),(15,17),(16,17)] fun K hK=>?_)|(apply zw ?_;try intro _)|(apply zx ?_ ?_<;>clear hK K)|apply WpT.step ?_|apply Wp.block ?_)
 refine WpL.call rfl eVk eAk ?_;simp only[List.cons_append,List.nil_append,List.append_nil]
 refine zr.mono ?_ (zaT hG (R4.alloc _) ((FrL.refl _ _ _ _).alloc _) ⟨28,ixS (c.arrays.map (·.name)) x.name,[(zaL a.len i.1 v.2).state,i.1,v.1]⟩ rfl (by rw[za,if_pos rfl];rfl) (Nat.le_refl _) (Nat.lt_succ_self _) nw4.2.2 nw4.1 nw4.2.1 hF rfl rfl)
 rintro w H5 ⟨rfl,S5,lv5,R5,F5⟩
 have m5:=R5.m
 unfold lc at m5
 dsimp only[zA]
 repeat' (first
  | (apply Rx.nl ?_;clear hK K)|apply Rx.o ?_|apply Rx.on ?_|apply Wp.seq ?_|(apply zd fun K hK=>?_)|(apply zf 3 [(3,14),(3,16),(7,14),(7,16),(9,14),(9,16),(10,14),(10,16),(13,14)] fun K hK=>?_)|(apply zf 5 [(3,8),(5,8),(6,8)] fun K hK=>?_)|(apply zf 14 [(2,5),(2,6)] fun K hK=>?_)|(apply zf 22 [(5,15),(5,16),(7,15),(7,16),(8,15),(8,16),(12,15),(13,15)] fun K hK=>?_)|(apply zf 23 [(3,17),(3,19),(7,17),(7,19),(9,17),(9,19),(10,17),(10,19),(15,17),(16,17)] fun K hK=>?_)|(apply zw ?_;try intro _)|(apply zx ?_ ?_<;>clear hK K)|apply WpT.step ?_|apply Wp.block ?_)
 all_goals (refine⟨eI,_,eR,?_⟩;try simp only[zp])
 obtain⟨R6,F6⟩:=R5.setS (zm ⟨28,ixS (c.arrays.map (·.name)) x.name,[(zaL a.len i.1 v.2).state,i.1,v.1]⟩ (zaL a.len i.1 v.2)).1
 exact⟨S5,lv5,vv,R6,F1.trans (F2.trans (F3.trans (F4.trans (F5.trans F6))))⟩
set_option maxRecDepth 100000 in
set_option maxHeartbeats 4000000 in
include hG hX in
theorem lst5 (hk:x.kind=5) {n:Nat}{v:Int×Bd} (h1:exL c n x.value s=some v) (hF:Fin (zm ⟨29,0,[v.2.state,v.1]⟩ v.2).2) (hR:RepL X H S s lv vv) :
 zr Try.prog (zK pls tb) 99 [.ptr X.b 0,.agg x.cells] H (zbO X S vv H { (zm ⟨29,0,[v.2.state,v.1]⟩ v.2).2 with state:=(zm ⟨29,0,[v.2.state,v.1]⟩ v.2).1 }):=by
 have hw:Plain (zK pls tb) 99:=hG.plain (by rfl)
 have R1:=hR.alloc (.cells x.cells 0 true)
 have F1:=(FrL.refl X S vv H).alloc (.cells x.cells 0 true)
 have hFv:Fin v.2:=hF.le (zV _ _).le
 refine zj (M:=155) (rs:=[]) (hw.call _) hw.ice hw.froz Try.func99 rfl rfl zd6.2 rfl ?_;dsimp only[zd6,zO,Nat.reduceAdd]
 repeat' (first
  | (apply Rx.nl ?_;clear hK K)|apply Ry.o ?_|(apply Ry.cd (fun hb hbp=>?_) (fun hb hbp=>?_)<;>try (cases hb;done))|apply Wp.seq ?_|(apply zd fun K hK=>?_)|apply Wp.block ?_)
 refine WpL.call rfl eVk eAk ?_;simp only[List.cons_append,List.nil_append,List.append_nil]
 refine zr.mono ?_ (zaM hG hX n x.value s v h1 hFv R1 (FrL.refl _ _ _ _))
 rintro w H4 ⟨rfl,S4,lv4,R4,F4⟩
 have m4:=R4.m
 unfold lc at m4
 have nw4:=R4.new (Nat.le_refl _)
 dsimp only[zA]
 repeat' (first
  | (apply Rx.nl ?_;clear hK K)|apply Rx.o ?_|apply Rx.on ?_|apply Wp.seq ?_|(apply zd fun K hK=>?_)|apply Wp.block ?_)
 refine WpL.call rfl eVk eAk ?_;simp only[List.cons_append,List.nil_append,List.append_nil]
 refine zr.mono ?_ (zaT hG (R4.alloc _) ((FrL.refl _ _ _ _).alloc _) ⟨29,0,[v.2.state,v.1]⟩ rfl (by rw[za,if_pos rfl];rfl) (Nat.le_refl _) (Nat.lt_succ_self _) nw4.2.2 nw4.1 nw4.2.1 hF rfl rfl)
 rintro w H5 ⟨rfl,S5,lv5,R5,F5⟩
 have m5:=R5.m
 unfold lc at m5
 dsimp only[zA]
 repeat' (first
  | (apply Rx.nl ?_;clear hK K)|apply Rx.o ?_|apply Rx.on ?_|apply Wp.seq ?_|(apply zd fun K hK=>?_)|apply Wp.block ?_)
 all_goals (refine⟨eI,_,eR,?_⟩;try simp only[zp])
 obtain⟨R6,F6⟩:=R5.setS (zm ⟨29,0,[v.2.state,v.1]⟩ v.2).1
 exact⟨S5,lv5,vv,R6,F1.trans (F4.trans (F5.trans F6))⟩
set_option maxRecDepth 100000 in
set_option maxHeartbeats 4000000 in
include hG in
theorem lst7 (hk:x.kind=7) (hF:Fin (zbA (w64 (16+x.n)) (zm ⟨1,0,[]⟩ s).1 (zm ⟨1,0,[]⟩ s).2)) (hR:RepL X H S s lv vv) :
 zr Try.prog (zK pls tb) 99 [.ptr X.b 0,.agg x.cells] H (zbO X S vv H (zbA (w64 (16+x.n)) (zm ⟨1,0,[]⟩ s).1 (zm ⟨1,0,[]⟩ s).2)):=by
 have hw:Plain (zK pls tb) 99:=hG.plain (by rfl)
 have R1:=hR.alloc (.cells x.cells 0 true)
 have F1:=(FrL.refl X S vv H).alloc (.cells x.cells 0 true)
 have hFv:Fin (zm ⟨1,0,[]⟩ s).2:=hF.le (za7 _ _ _).le
 refine zj (M:=155) (rs:=[]) (hw.call _) hw.ice hw.froz Try.func99 rfl rfl zd6.2 rfl ?_;dsimp only[zd6,zO,Nat.reduceAdd]
 repeat' (first
  | (apply Rx.nl ?_;clear hK K)|apply Ry.o ?_|(apply Ry.cd (fun hb hbp=>?_) (fun hb hbp=>?_)<;>try (cases hb;done))|apply Wp.seq ?_|(apply zd fun K hK=>?_)|(apply zf 3 [(3,14),(3,16),(7,14),(7,16),(9,14),(9,16),(10,14),(10,16),(13,14)] fun K hK=>?_)|(apply zf 5 [(3,8),(5,8),(6,8)] fun K hK=>?_)|(apply zf 14 [(2,5),(2,6)] fun K hK=>?_)|(apply zf 22 [(5,15),(5,16),(7,15),(7,16),(8,15),(8,16),(12,15),(13,15)] fun K hK=>?_)|(apply zf 23 [(3,17),(3,19),(7,17),(7,19),(9,17),(9,19),(10,17),(10,19),(15,17),(16,17)] fun K hK=>?_)|(apply zw ?_;try intro _)|(apply zx ?_ ?_<;>clear hK K)|apply WpT.step ?_|apply Wp.block ?_)
 refine WpL.call rfl eVk eAk ?_;simp only[List.cons_append,List.nil_append,List.append_nil]
 refine zr.mono ?_ (zc1 hG R1 (FrL.refl _ _ _ _) 0 hFv)
 rintro w H4 ⟨rfl,S4,lv4,R4,F4⟩
 have g4:=FrL.box hR F4
 have n4:H.next+1≤H4.next:=F4.next
 dsimp only[zA]
 repeat' (first
  | (apply Rx.nl ?_;clear hK K)|apply Wp.seq ?_|(apply zd fun K hK=>?_)|(apply zf 3 [(3,14),(3,16),(7,14),(7,16),(9,14),(9,16),(10,14),(10,16),(13,14)] fun K hK=>?_)|(apply zf 5 [(3,8),(5,8),(6,8)] fun K hK=>?_)|(apply zf 14 [(2,5),(2,6)] fun K hK=>?_)|(apply zf 22 [(5,15),(5,16),(7,15),(7,16),(8,15),(8,16),(12,15),(13,15)] fun K hK=>?_)|(apply zf 23 [(3,17),(3,19),(7,17),(7,19),(9,17),(9,19),(10,17),(10,19),(15,17),(16,17)] fun K hK=>?_)|(apply zw ?_;try intro _)|(apply zx ?_ ?_<;>clear hK K)|apply WpT.step ?_|apply Wp.block ?_)
 all_goals first
  | exact eK
  | skip
 refine WpL.call rfl eVk eAk ?_;simp only[List.cons_append,List.nil_append,List.append_nil]
 refine zr.mono ?_ (zfS hG R4 (FrL.refl _ _ _ _) (w64 (16+x.n)) (zm ⟨1,0,[]⟩ s).1 hF)
 rintro w H5 ⟨S5,lv5,R5,F5⟩
 have g5:=FrL.box hR (F4.trans F5)
 have n5:H.next+1≤H5.next:=Nat.le_trans n4 F5.next
 have n45:H4.next≤H5.next:=F5.next
 dsimp only[zA]
 repeat' (first
  | (apply Rx.nl ?_;clear hK K)|apply Wp.seq ?_|(apply zd fun K hK=>?_)|(apply zf 3 [(3,14),(3,16),(7,14),(7,16),(9,14),(9,16),(10,14),(10,16),(13,14)] fun K hK=>?_)|(apply zf 5 [(3,8),(5,8),(6,8)] fun K hK=>?_)|(apply zf 14 [(2,5),(2,6)] fun K hK=>?_)|(apply zf 22 [(5,15),(5,16),(7,15),(7,16),(8,15),(8,16),(12,15),(13,15)] fun K hK=>?_)|(apply zf 23 [(3,17),(3,19),(7,17),(7,19),(9,17),(9,19),(10,17),(10,19),(15,17),(16,17)] fun K hK=>?_)|(apply zw ?_;try intro _)|(apply zx ?_ ?_<;>clear hK K)|apply WpT.step ?_|apply Wp.block ?_)
 ·exact eK
 ·all_goals (refine⟨eI,_,eR,?_⟩;try simp only[zp])
  exact⟨S5,lv5,vv,R5,F1.trans (F4.trans F5)⟩
set_option maxRecDepth 100000 in
set_option maxHeartbeats 4000000 in
include hG in
theorem lst0 (h1:¬ x.kind=1) (h2:¬ x.kind=2) (h3:¬ x.kind=3) (h4:¬ x.kind=4) (h5:¬ x.kind=5) (h6:¬ x.kind=6) (h7:¬ x.kind=7) (hR:RepL X H S s lv vv) :
 zr Try.prog (zK pls tb) 99 [.ptr X.b 0,.agg x.cells] H (zbO X S vv H s):=by
 have hw:Plain (zK pls tb) 99:=hG.plain (by rfl)
 have R1:=hR.alloc (.cells x.cells 0 true)
 have F1:=(FrL.refl X S vv H).alloc (.cells x.cells 0 true)
 refine zj (M:=155) (rs:=[]) (hw.call _) hw.ice hw.froz Try.func99 rfl rfl zd6.2 rfl ?_;dsimp only[zd6,zO,Nat.reduceAdd]
 repeat' (first
  | (apply Rx.nl ?_;clear hK K)|apply Ry.o ?_|(apply Ry.cd (fun hb hbp=>?_) (fun hb hbp=>?_)<;>try (cases hb;done))|apply Wp.seq ?_|(apply zd fun K hK=>?_)|apply Wp.block ?_|apply zh ?_)
 all_goals (refine⟨eI,_,eR,?_⟩;try simp only[zp])
 exact⟨S,lv,vv,R1,F1⟩
end
end Go.Proofs.Ytpbcimfiofmoeaa
namespace Go.Proofs.Ytpbcimfiofmoeaa
set_option maxRecDepth 20000
set_option maxRecDepth 20000
open Go Go.Ab
namespace tyLoF6
def tyF:=And.intro @tq2 (And.intro @tq3 (And.intro @tq9 (And.intro @zcV (And.intro @zg4 (And.intro @zcj (And.intro @za9 (And.intro @zba (And.intro @zau (And.intro @zbw (And.intro @zgd (And.intro @zh7 (@bI1))))))))))))
end tyLoF6
open tyLoF6
structure RowL (S:Nat→Prop) (vv:AV) (lo:Nat) (H:Hp) (av:AV) (l:List Int):Prop where
 r:zex H av l lo
 n:∀ k,yq av k→¬ S k∧¬ yq vv k
theorem RowL.fr {X:Lx}{S S':Nat→Prop}{vv vv':AV}{lo:Nat}{H H':Hp}{av:AV}{l:List Int} (h:RowL S vv lo H av l) (hb:X.b < lo) (hb2:X.rt < lo) (f:FrL X S vv H S' vv' H'):RowL S' vv' lo H' av l:=by
 refine⟨h.r.keep f.next fun k hk=>?_,fun k hk=>?_⟩
 ·have a:=h.r.lt hk
  have b:=h.n k hk
  exact f.get k a.2 (by omega) (by omega) b.1 b.2
 ·have a:=h.r.lt hk
  have b:=h.n k hk
  refine⟨fun e=>?_,fun e=>?_⟩
  ·rcases f.sub k e with e|e
   ·exact b.1 e
   ·omega
  ·rcases f.own k e with e|e
   ·exact b.2 e
   ·omega
theorem RowL.app {X:Lx}{S:Nat→Prop}{s:Bd}{lv vv:AV}{lo:Nat}{H Hb:Hp}{av:AV}{l:List Int} (h:RowL S vv lo H av l) (hR:RepL X Hb S s lv vv) (hlo:lo≤Hb.next) (hn:H.next≤Hb.next) (hg:∀ k,k < H.next→Hb.get k=H.get k) (x:Int) {r imm:Nat} (hx:Hb.get r=some (.cells [.int .i64 x] imm true)) (hb:X.b < lo) (hl:l.length < 2 ^ 39) :
 ∃ v' H',zX Try.prog false Hb 23 23 av (.sl r 0 1 1)=some (v',H')∧RowL S vv lo H' v' (l++[x])∧RepL X H' S s lv vv∧FrL X S vv Hb S vv Hb∧Hb.next≤H'.next∧(∀ k,k < Hb.next→¬ yq av k→H'.get k=Hb.get k)∧(∀ k,yq v' k→yq av k∨Hb.next≤k)∧zew H' v' (l++[x]) lo:=by
 have hr:zex Hb av l lo:=h.r.keep hn fun k hk=>hg k (h.r.lt hk).2
 obtain⟨v',H',a1,a2,a3,a4,a5,a6⟩:=zll x hr hlo hx hl
 refine⟨v',H',a1,⟨.inr a2,fun k hk=>?_⟩,hR.keep (by omega) fun k h1 h2=>a5 k h1 fun e=>?_,FrL.refl _ _ _ _,by omega,a5,a6,a2⟩
 ·rcases a6 k hk with e|e
  ·exact h.n k e
  ·have:=hR.new e
   exact⟨this.1,this.2.1⟩
 ·have b:=h.n k e
  have c:=h.r.lt e
  rcases h2 with h2|h2|h2
  ·omega
  ·exact b.1 h2
  ·exact b.2 h2
theorem ziD {tb:List En} (hG:LowT tb) {X:Lx}{H H1:Hp}{S:Nat→Prop}{s:Bd}{lv vv:AV} (hR:RepL X H1 S s lv vv) (hf:FrL X S vv H S vv H1) (n:Nd) {r m:Nat} (hm:n.kids.length=m) (hg:H1.get r=some (.cells (n.kids.map (.int .i64)) 0 true)) (hr:H.next≤r) (hr2:r < H1.next) (hb:X.b < r) (hS:¬ S r) (hv:¬ yq vv r) (hF:Fin (zm n s).2) {op imm:Int} (hop:n.op=op) (him:n.imm=imm) :
 zr Try.prog (zK pls tb) 58 [.ptr X.b 0,.int .i64 op,.int .i64 imm,.sl r 0 m 1] H1 (fun v H'=>zbC X S vv H (zm n s) v H'∧H1.next≤H'.next):=by
 subst hm;subst hop;subst him
 refine zr.mono ?_ (ziB hG hR n (.inr ⟨r,0,rfl,hg,Nat.zero_le _,Nat.zero_le _,hr2⟩) (fun k hk=>?_) hF.r (Nat.lt_of_le_of_lt (za6 s.l n).length_le hF.l))
 ·intro v H' h
  exact⟨h.val hf fun k hk=>by rw[zgo hk];exact hr,by obtain⟨_,_,_,_,q,_⟩:=h;exact q⟩
 ·rw[zgo hk]
  exact⟨hb,hS,hv⟩
section
variable {tb:List En} (hG:LowT tb) {X:Lx} {c:Cx} (hX:CxOk X c) {x:St} {s:Bd} {H:Hp} {S:Nat → Prop} {lv vv:AV}
set_option maxRecDepth 100000 in
set_option maxHeartbeats 4000000 in
include hG hX in
theorem lst6 (hk:x.kind=6) {n:Nat}{av:List Int×Bd} (h1:zg7 c n x.args s=some av) (hf0:0≤yw c.funcs x.to 0) (hl:ixS c.names x.name < av.2.vars.length) (hz:x.sz < 2 ^ 36)
 (hF:Fin (zm ⟨24,0,[(zm ⟨30,yw c.funcs x.to 0,av.2.state::av.1⟩ av.2).1]⟩ { (zm ⟨30,yw c.funcs x.to 0,av.2.state::av.1⟩ av.2).2 with state:=(zm ⟨30,yw c.funcs x.to 0,av.2.state::av.1⟩ av.2).1 }).2) (hR:RepL X H S s lv vv) :
 zr Try.prog (zK pls tb) 99 [.ptr X.b 0,.agg x.cells] H (zbO X S vv H (let r:=zm ⟨30,yw c.funcs x.to 0,av.2.state::av.1⟩ av.2;let q:=zm ⟨24,0,[r.1]⟩ { r.2 with state:=r.1 };{ q.2 with vars:=q.2.vars.set (ixS c.names x.name) q.1 })):=by
 have hw:Plain (zK pls tb) 99:=hG.plain (by rfl)
 have hkeep:(zK pls tb).keep 99=false:=rfl
 have R1:=hR.alloc (.cells x.cells 0 true)
 have F1:=(FrL.refl X S vv H).alloc (.cells x.cells 0 true)
 have m1:=R1.m
 unfold lc at m1
 have o3:=hR.o3
 have o4:=hR.o4
 have o5:=hR.o5
 have hal:=j7 x.args
 have hsz:=x.sz_eq
 simp only[]
 generalize hr:zm ⟨30,yw c.funcs x.to 0,av.2.state::av.1⟩ av.2=r at *
 have hFr:Fin r.2:=hF.le ⟨(zV ⟨24,0,[r.1]⟩ { r.2 with state:=r.1 }).le.l,(zV ⟨24,0,[r.1]⟩ { r.2 with state:=r.1 }).le.n⟩
 have hFa:Fin av.2:=by rw[← hr]at hFr;exact hFr.le (zV _ _).le
 have happl:=(zdu c n _ _ _ h1).2
 refine zj (M:=155) (rs:=[]) (hw.call _) hw.ice hw.froz Try.func99 rfl rfl zd6.2 rfl ?_;dsimp only[zd6,zO,Nat.reduceAdd]
 repeat' (first
  | (apply Rx.nl ?_;clear hK K)|apply Ry.o ?_|apply Ry.on ?_|(apply Ry.cd (fun hb hbp=>?_) (fun hb hbp=>?_)<;>try (cases hb;done))|apply Wp.seq ?_|(apply zd fun K hK=>?_)|(apply zf 3 [(3,14),(3,16),(7,14),(7,16),(9,14),(9,16),(10,14),(10,16),(13,14)] fun K hK=>?_)|(apply zf 5 [(3,8),(5,8),(6,8)] fun K hK=>?_)|(apply zf 14 [(2,5),(2,6)] fun K hK=>?_)|(apply zf 22 [(5,15),(5,16),(7,15),(7,16),(8,15),(8,16),(12,15),(13,15)] fun K hK=>?_)|(apply zf 23 [(3,17),(3,19),(7,17),(7,19),(9,17),(9,19),(10,17),(10,19),(15,17),(16,17)] fun K hK=>?_)|(apply zw ?_;try intro _)|(apply zx ?_ ?_<;>clear hK K)|apply WpT.step ?_|apply zo rfl ?_|apply Wp.block ?_|apply zh ?_|apply zk ?_)
 refine yd [0,3,12,94,95] [] 96 x.args.length (fun i E H2=>∃ acc rest s2 S2 lv2 a,E.at 8=a∧zg7 c n (x.args.drop i) s2=some (rest,av.2)∧av.1=acc++rest∧RepL X H2 S2 s2 lv2 vv∧FrL X S vv (H.alloc (.cells x.cells 0 true)) S2 vv H2∧RowL S2 vv (H.next+1) H2 a acc∧acc.length=i) eE ⟨[],av.1,s,S,lv,.nilS,eE,h1,rfl,R1,FrL.refl _ _ _ _,⟨.inl ⟨rfl,rfl⟩,fun k hk=>(zfQ hk).elim⟩,rfl⟩ ?_
 rintro i E H2 hi hcE hrH hnH hsI ⟨acc,rest,s2,S2,lv2,a,k8,hJ,happ,R2,F2,W2,hacc⟩
 (try simp only[zi,zl,and_true,sB,sO,Nat.reduceBEq,Nat.reduceAdd,Nat.reduceLeDiff,tyF, *]at hcE)
 (try simp only[zi,zl,and_true,sB,sO,Nat.reduceBEq,Nat.reduceAdd,Nat.reduceLeDiff,tyF, *]at hrH)
 (try simp only[zb,ze,zH,Nat.zero_add,Nat.reduceAdd]at hnH)
 have n2:H.next+1≤H2.next:=hnH
 by_cases hlt:i < x.args.length
 ·have hlt':(i:Int) < x.args.length:=by omega
  have hgx:x.args[i]?=some x.args[i]:=List.getElem?_eq_getElem hlt
  rw[List.drop_eq_getElem_cons hlt]at hJ
  unfold zg7 at hJ
  simp only[Option.bind_eq_some_iff,Option.some.injEq,Prod.mk.injEq]at hJ
  obtain⟨e1,he1,r2,hr2,rfl,hr2'⟩:=hJ
  generalize x.args[i]=y at *
  have hFe:Fin e1.2:=by
   have:=(zdu c n _ _ _ hr2).1.le
   rw[hr2']at this
   exact hFa.le this
  have gb2:=FrL.box hR F2
  repeat' (first
   | (apply Rx.nl ?_;clear hK K)|apply Ry.o ?_|apply Ry.on ?_|(apply Ry.cd (fun hb hbp=>?_) (fun hb hbp=>?_)<;>try (cases hb;done))|apply Wp.seq ?_|(apply zd fun K hK=>?_)|(apply zf 3 [(3,14),(3,16),(7,14),(7,16),(9,14),(9,16),(10,14),(10,16),(13,14)] fun K hK=>?_)|(apply zf 5 [(3,8),(5,8),(6,8)] fun K hK=>?_)|(apply zf 14 [(2,5),(2,6)] fun K hK=>?_)|(apply zf 22 [(5,15),(5,16),(7,15),(7,16),(8,15),(8,16),(12,15),(13,15)] fun K hK=>?_)|(apply zf 23 [(3,17),(3,19),(7,17),(7,19),(9,17),(9,19),(10,17),(10,19),(15,17),(16,17)] fun K hK=>?_)|(apply zw ?_;try intro _)|(apply zx ?_ ?_<;>clear hK K)|apply WpT.step ?_|apply zo rfl ?_|apply Wp.block ?_|apply zh ?_|apply zk ?_)
  refine WpL.call rfl eVk eAk ?_;simp only[List.cons_append,List.nil_append,List.append_nil]
  have R2a:=R2.alloc2 (.cells [AV.int .i64 0,.int .i64 0,.str [],.int .i64 0,.nilS] 0 true) (.cells y.cells 0 true)
  have F2a:=(FrL.refl X S2 vv H2).alloc2 (.cells [AV.int .i64 0,.int .i64 0,.str [],.int .i64 0,.nilS] 0 true) (.cells y.cells 0 true)
  refine zr.mono ?_ (zaM hG hX n y s2 e1 he1 hFe R2a (FrL.refl _ _ _ _))
  rintro w H3 ⟨rfl,S3,lv3,R3,F3⟩
  have F23:=F2a.trans F3
  have W3:=W2.fr (by omega) (by omega) F23
  have n3:H2.next+1≤H3.next:=F3.next
  have R3a:=R3.alloc (.cells [.int .i64 e1.1] 0 true)
  obtain⟨v5,H5,a5,W5,R5,_,n5,q5,_,_⟩:=W3.app R3a (by simp only[zb];omega) (Nat.le_succ _) (fun k hk=>by rw[za,if_neg (by omega)]) e1.1 (r:=H3.next) (imm:=0) (by rw[za,if_pos rfl]) (by omega) (by omega)
  have F5:FrL X S vv (H.alloc (.cells x.cells 0 true)) S3 vv H5:=by
   have F:=F2.trans F23
   refine⟨by have:=F.next;simp only[zb]at n5 this ⊢;omega,fun k h1 h2 h3 h4 h5=>?_,F.sub,F.own⟩
   rw[q5 k (by simp only[zb]at h1 ⊢;omega) (fun e=>by have:=W3.r.lt e;simp only[zb]at h1;omega),za,if_neg (by simp only[zb]at h1;omega)]
   exact F.get k h1 h2 h3 h4 h5
  have n5':H2.next≤H5.next:=by simp only[zb]at n5;omega
  dsimp only[zA]
  repeat' (first
   | (apply Rx.nl ?_;clear hK K)|apply Rx.o ?_|apply Rx.on ?_|apply Wp.seq ?_|(apply zd fun K hK=>?_)|(apply zf 3 [(3,14),(3,16),(7,14),(7,16),(9,14),(9,16),(10,14),(10,16),(13,14)] fun K hK=>?_)|(apply zf 5 [(3,8),(5,8),(6,8)] fun K hK=>?_)|(apply zf 14 [(2,5),(2,6)] fun K hK=>?_)|(apply zf 22 [(5,15),(5,16),(7,15),(7,16),(8,15),(8,16),(12,15),(13,15)] fun K hK=>?_)|(apply zf 23 [(3,17),(3,19),(7,17),(7,19),(9,17),(9,19),(10,17),(10,19),(15,17),(16,17)] fun K hK=>?_)|(apply zw ?_;try intro _)|(apply zx ?_ ?_<;>clear hK K)|apply WpT.step ?_|apply zo rfl ?_|apply Wp.block ?_|apply zh ?_|apply zk ?_)
  refine⟨by omega,eL,eL,eN,(by simp only[sB,Nat.reduceBEq, *];exact zT (n:=x.args.length) (by omega) (by omega)),?_⟩
  exact⟨acc++[e1.1],r2.1,e1.2,S3,lv3,v5,eE,by rw[← hr2'];exact hr2,by rw[happ];simp,R5,F5,W5,by simp[hacc]⟩
 ·have hlt':¬ (i:Int) < x.args.length:=by omega
  have hd:x.args.drop i=[]:=List.drop_eq_nil_of_le (by omega)
  rw[hd]at hJ
  simp only[zg7,Option.some.injEq,Prod.mk.injEq]at hJ
  obtain⟨hJ1,hJ2⟩:=hJ
  subst hJ2
  rw[← hJ1,List.append_nil]at happ
  rw[← happ]at W2 hacc
  clear hd hacc
  have gb2:=FrL.box hR F2
  have m2:=R2.m
  unfold lc at m2
  have hlF2:=R2.lkF hX x.to hf0
  have nw2:=R2.new (Nat.le_refl _)
  have Rb:=R2.alloc (.cells [.int .i64 av.2.state] 0 true)
  obtain⟨v6,H6,a6,i6,n6,l6,f6,q6⟩:=zlm (H:=H2.alloc (.cells [.int .i64 av.2.state] 0 true)) (v:=.sl H2.next 0 1 1) (l:=[av.2.state]) (lo:=H2.next) ⟨H2.next,0,rfl,by rw[za,if_pos rfl];rfl,Nat.zero_le _,Nat.le_refl _,Nat.lt_succ_self _⟩ (Nat.le_succ _) (W2.r.keep (Nat.le_succ _) fun k hk=>by rw[za,if_neg (by have:=W2.r.lt hk;omega)]) (by rw[happl];simp only[List.length_cons,List.length_nil];omega)
  simp only[zb]at n6 l6 f6 q6
  have hf6:∀ k,k < H2.next→H6.get k=H2.get k:=fun k hk=>by rw[l6 k hk,za,if_neg (by omega)]
  have R6:RepL X H6 S2 av.2 lv2 vv:=R2.keep (by omega) fun k h1 _=>hf6 k h1
  have F6:FrL X S2 vv H2 S2 vv H6:=⟨by omega,fun k h1 _ _ _ _=>hf6 k h1,fun _ h=>.inl h,fun _ h=>.inl h⟩
  have hown6:∀ k,yq v6 k→H2.next≤k:=fun k hk=>(i6.lt hk).1
  have hput:=ziB hG R6 ⟨30,yw c.funcs x.to 0,av.2.state::av.1⟩ (.inr (by obtain⟨r0,i0,z1,z2,z3,z4,z5⟩:=i6;exact⟨r0,i0,z1,z2,z3,Nat.zero_le _,z5⟩)) (fun k hk=>by have:=R2.new (hown6 k hk);exact⟨this.2.2,this.1,this.2.1⟩) (by rw[← hr]at hFr;exact hFr.r) hFa.l
  have m6:=R6.m
  unfold lc at m6
  have mb:=Rb.m
  unfold lc at mb
  have hlFb:=Rb.lkF hX x.to hf0
  have gbb:(H2.alloc (.cells [.int .i64 av.2.state] 0 true)).get H.next=some (.cells x.cells 0 true):=by rw[za,if_neg (by omega)];exact gb2
  have hlF6:=R6.lkF hX x.to hf0
  repeat' (first
   | (apply Rx.nl ?_;clear hK K)|apply Ry.o ?_|apply Ry.on ?_|(apply Ry.cd (fun hb hbp=>?_) (fun hb hbp=>?_)<;>try (cases hb;done))|apply Wp.seq ?_|(apply zd fun K hK=>?_)|(apply zf 3 [(3,14),(3,16),(7,14),(7,16),(9,14),(9,16),(10,14),(10,16),(13,14)] fun K hK=>?_)|(apply zf 5 [(3,8),(5,8),(6,8)] fun K hK=>?_)|(apply zf 14 [(2,5),(2,6)] fun K hK=>?_)|(apply zf 22 [(5,15),(5,16),(7,15),(7,16),(8,15),(8,16),(12,15),(13,15)] fun K hK=>?_)|(apply zf 23 [(3,17),(3,19),(7,17),(7,19),(9,17),(9,19),(10,17),(10,19),(15,17),(16,17)] fun K hK=>?_)|(apply zw ?_;try intro _)|(apply zx ?_ ?_<;>clear hK K)|apply WpT.step ?_|apply zo rfl ?_|apply Wp.block ?_|apply zh ?_|apply zk ?_)
  refine WpL.call rfl eVk eAk ?_;simp only[List.cons_append,List.nil_append,List.append_nil]
  refine zr.mono ?_ hput
  intro w H7 h7
  have h7':=h7.val F6 hown6
  rw[hr]at h7'
  have n67:H6.next≤H7.next:=by obtain⟨_,_,_,_,h,_⟩:=h7;exact h
  clear h7 hput
  obtain⟨rfl,S7,lv7,R7,F7⟩:=h7'
  have gb6:H6.get H.next=some (.cells x.cells 0 true):=by rw[hf6 _ (by omega)];exact gb2
  have gb7:=FrL.box hR (F2.trans F7)
  have m7:=R7.m
  unfold lc at m7
  have hlF7:=R7.lkF hX x.to hf0
  have n7:H2.next≤H7.next:=F7.next
  obtain⟨R8,F8⟩:=R7.setS r.1
  have gb8:=FrL.box hR (F2.trans (F7.trans F8))
  have m8:=R8.m
  have hlF8:=R8.lkF hX x.to hf0
  have hlN8:=R8.lkN hX x.name
  have hv8:r.2.vars=av.2.vars:=by rw[← hr];rfl
  have hl8:ixS c.names x.name < r.2.vars.length:=by rw[hv8];exact hl
  clear hv8
  obtain⟨q,hix,hld,_⟩:=R8.setV hl8 0
  have nw8:=R8.new (Nat.le_refl _)
  have R8a:=R8.alloc (.cells [.int .i64 r.1] 0 true)
  have hput:=ziD hG R8a ((FrL.refl _ _ _ _).alloc _) ⟨24,0,[r.1]⟩ rfl (by rw[za,if_pos rfl];rfl) (Nat.le_refl _) (Nat.lt_succ_self _) nw8.2.2 nw8.1 nw8.2.1 hF rfl rfl
  have n8:(H7.set X.b (.cells (lc X { r.2 with state:=r.1 } lv7 vv) 0 true)).next=H7.next:=rfl
  dsimp only[lc]at R8 F8 gb8 m8 hlF8 hlN8 R8a hput hld n8
  rw[n8]at hput
  dsimp only[zA]
  repeat' (first
   | (apply Rx.nl ?_;clear hK K)|apply Rx.o ?_|apply Rx.on ?_|apply Wp.seq ?_|(apply zd fun K hK=>?_)|(apply zf 3 [(3,14),(3,16),(7,14),(7,16),(9,14),(9,16),(10,14),(10,16),(13,14)] fun K hK=>?_)|(apply zf 5 [(3,8),(5,8),(6,8)] fun K hK=>?_)|(apply zf 14 [(2,5),(2,6)] fun K hK=>?_)|(apply zf 22 [(5,15),(5,16),(7,15),(7,16),(8,15),(8,16),(12,15),(13,15)] fun K hK=>?_)|(apply zf 23 [(3,17),(3,19),(7,17),(7,19),(9,17),(9,19),(10,17),(10,19),(15,17),(16,17)] fun K hK=>?_)|(apply zw ?_;try intro _)|(apply zx ?_ ?_<;>clear hK K)|apply WpT.step ?_|apply zo rfl ?_|apply Wp.block ?_|apply zh ?_|apply zk ?_)
  ·exact eK
  ·refine WpL.call rfl eVk eAk ?_;simp only[List.cons_append,List.nil_append,List.append_nil]
   refine zr.mono ?_ hput
   rintro w H9 ⟨⟨rfl,S9,lv9,R9,F9⟩,n9'⟩
   simp only[zb,ze]at n9'
   have hl9:ixS c.names x.name < (zm ⟨24,0,[r.1]⟩ { r.2 with state:=r.1 }).2.vars.length:=hl8
   obtain⟨q',hix',hld',H10,hst,hq1,hq2,hq3,R10,F10,o10,n10⟩:=R9.setV hl9 (zm ⟨24,0,[r.1]⟩ { r.2 with state:=r.1 }).1
   have hqq:q'=q:=by
    rw[hix]at hix'
    simp only[Option.some.injEq,AV.ptr.injEq]at hix'
    exact hix'.1.symm
   subst hqq
   have m8a:=R8a.m
   have m9:=R9.m
   have m10:=R10.m
   have hlN8a:=R8a.lkN hX x.name
   have hlN9:=R9.lkN hX x.name
   have hlN10:=R10.lkN hX x.name
   have F89:=F2.trans (F7.trans (F8.trans F9))
   have gb9:=FrL.box hR F89
   have gb8a:=FrL.box hR (F2.trans (F7.trans (F8.alloc (.cells [.int .i64 r.1] 0 true))))
   have gb10:=FrL.box hR (F89.trans F10)
   have n9:=F9.next
   dsimp only[lc]at m8a m9 m10
   simp only[ze]at n9
   dsimp only[zA]
   repeat' (first
    | (apply Rx.nl ?_;clear hK K)|apply Rx.o ?_|apply Rx.on ?_|apply Wp.seq ?_|(apply zd fun K hK=>?_)|(apply zf 3 [(3,14),(3,16),(7,14),(7,16),(9,14),(9,16),(10,14),(10,16),(13,14)] fun K hK=>?_)|(apply zf 5 [(3,8),(5,8),(6,8)] fun K hK=>?_)|(apply zf 14 [(2,5),(2,6)] fun K hK=>?_)|(apply zf 22 [(5,15),(5,16),(7,15),(7,16),(8,15),(8,16),(12,15),(13,15)] fun K hK=>?_)|(apply zf 23 [(3,17),(3,19),(7,17),(7,19),(9,17),(9,19),(10,17),(10,19),(15,17),(16,17)] fun K hK=>?_)|(apply zw ?_;try intro _)|(apply zx ?_ ?_<;>clear hK K)|apply WpT.step ?_|apply zo rfl ?_|apply Wp.block ?_|apply zh ?_|apply zk ?_)
   refine WpL.store eV eV hst ?_
   repeat' (first
    | (apply Rx.nl ?_;clear hK K)|apply Rx.o ?_|apply Rx.on ?_|apply Wp.seq ?_|(apply zd fun K hK=>?_)|(apply zf 3 [(3,14),(3,16),(7,14),(7,16),(9,14),(9,16),(10,14),(10,16),(13,14)] fun K hK=>?_)|(apply zf 5 [(3,8),(5,8),(6,8)] fun K hK=>?_)|(apply zf 14 [(2,5),(2,6)] fun K hK=>?_)|(apply zf 22 [(5,15),(5,16),(7,15),(7,16),(8,15),(8,16),(12,15),(13,15)] fun K hK=>?_)|(apply zf 23 [(3,17),(3,19),(7,17),(7,19),(9,17),(9,19),(10,17),(10,19),(15,17),(16,17)] fun K hK=>?_)|(apply zw ?_;try intro _)|(apply zx ?_ ?_<;>clear hK K)|apply WpT.step ?_|apply zo rfl ?_|apply Wp.block ?_|apply zh ?_|apply zk ?_)
   ·exact eK
   ·all_goals (refine⟨eI,_,eR,?_⟩;try simp only[zp])
    exact⟨S9,lv9,vv,R10,F1.trans (F89.trans F10)⟩
end
end Go.Proofs.Ytpbcimfiofmoeaa
namespace Go.Proofs.Ytpbcimfiofmoeaa
set_option maxRecDepth 20000
set_option maxRecDepth 20000
open Go Go.Ab
namespace tyLoG
def tyF:=And.intro @tq2 (And.intro @tq3 (And.intro @tq9 (And.intro @zcV (And.intro @zg4 (And.intro @zcj (And.intro @za9 (And.intro @zba (And.intro @zau (And.intro @zbw (And.intro @zgd (@zh7)))))))))))
end tyLoG
open tyLoG
noncomputable def zuR:{ c:SC // slim 87 (Try.f128.body.getD .skip)=c }:=by
 refine⟨?_,?_⟩
 rotate_left
 ·simp only[Try.f128,Option.getD_some,slim,zZ,zS,z6,z7,Nat.blt,Nat.ble]
  rfl
structure RowZ (S:Nat→Prop) (vv:AV) (lo:Nat) (H:Hp) (av:AV) (l:List Int):Prop where
 r:zfF H av l lo
 n:∀ k,yq av k→¬ S k∧¬ yq vv k
theorem zfF.lt {H:Hp}{v:AV}{l:List Int}{lo:Nat} (h:zfF H v l lo) {k:Nat} (hk:yq v k):lo≤k∧k < H.next:=h.n.lt hk
theorem zfF.lo {H:Hp}{v:AV}{l:List Int}{lo lo':Nat} (h:zfF H v l lo) (hl:∀ k,yq v k→lo'≤k):zfF H v l lo':=by
 rcases h with h|⟨r,h1,h2,h3,h4⟩
 ·exact .inl h
 ·exact .inr ⟨r,h1,h2,hl r ⟨_,h1⟩,h4⟩
theorem zfF.one {H:Hp}{v:AV}{l:List Int}{lo:Nat} (h:zfF H v l lo):AV.one v=true∧v.cells=[v]:=by
 rcases h with ⟨rfl,_⟩|⟨r,rfl,_⟩<;>exact⟨rfl,rfl⟩
theorem RowZ.fr {X:Lx}{S S':Nat→Prop}{vv vv':AV}{lo:Nat}{H H':Hp}{av:AV}{l:List Int} (h:RowZ S vv lo H av l) (hb:X.b < lo) (hb2:X.rt < lo) (f:FrL X S vv H S' vv' H'):RowZ S' vv' lo H' av l:=by
 refine⟨h.r.keep f.next fun k hk=>?_,fun k hk=>?_⟩
 ·have a:=h.r.lt hk
  have b:=h.n k hk
  exact f.get k a.2 (by omega) (by omega) b.1 b.2
 ·have a:=h.r.lt hk
  have b:=h.n k hk
  refine⟨fun e=>?_,fun e=>?_⟩
  ·rcases f.sub k e with e|e
   ·exact b.1 e
   ·omega
  ·rcases f.own k e with e|e
   ·exact b.2 e
   ·omega
theorem RowZ.at {S:Nat→Prop}{vv:AV}{lo:Nat}{H:Hp}{av:AV}{l:List Int} (h:RowZ S vv lo H av l) {i:Nat}{x:Int} (hi:l[i]?=some x):∃ r,zq Try.prog 23 av (.int .i64 (i:Int))=some (.ptr r i)∧zaZ Try.prog H 3 (.ptr r i)=some (.int .i64 x)∧yq av r:=by
 have hlt:i < l.length:=by
  by_cases c:i < l.length
  ·exact c
  ·rw[List.getElem?_eq_none (by omega)]at hi;cases hi
 rcases h.r with ⟨_,rfl⟩|h2
 ·simp at hlt
 ·obtain⟨r,h3,h4⟩:=h2.b.at hlt
  rw[List.getElem?_eq_getElem hlt]at hi
  simp only[Option.some.injEq]at hi
  rw[hi]at h4
  refine⟨r,h3,h4,?_⟩
  obtain⟨q,e,_⟩:=h2
  subst e
  rw[zdU Try.underlying23 sz3 hlt]at h3
  simp only[Option.some.injEq,AV.ptr.injEq]at h3
  exact⟨_,by rw[h3.1]⟩
theorem copyI {H:Hp}{v:AV}{l:List Int}{lo:Nat} (hv:zex H v l lo) (hl:l.length < 2 ^ 38):∃ v' H',zX Try.prog false H 23 23 .nilS v=some (v',H')∧zfF H' v' l H.next∧H.next≤H'.next∧(∀ k,k < H.next→H'.get k=H.get k):=by
 by_cases hm:l=[]
 ·subst hm
  refine⟨.nilS,H,?_,.inl ⟨rfl,rfl⟩,Nat.le_refl _,fun _ _=>rfl⟩
  rcases hv with ⟨rfl,_⟩|⟨r,imm,rfl,h2,_⟩
  ·simp only[zX,Try.underlying23,sz3,bt3,zr3,show jh Try.prog 23=true by kernel_rfl,yk]
  ·have g3:=zcX h2
   simp only[List.length_nil]at g3
   simp only[zX,Try.underlying23,sz3,bt3,zr3,show jh Try.prog 23=true by kernel_rfl,List.length_nil,g3]
 ·have hx:yk H 1 v=some (l.length,l.map (.int .i64)):=by
   rcases hv with ⟨_,h⟩|⟨r,imm,rfl,h2,_⟩
   ·exact(hm h).elim
   ·exact zcX h2
  obtain⟨v',H',h1,h2,h3,h4,_⟩:=zln (v:=.nilS) (l:=[]) (lo:=H.next) (.inl ⟨rfl,rfl⟩) (Nat.le_refl _) hx hm (by simp;omega)
  rw[List.nil_append]at h2
  exact⟨v',H',h1,.inr h2,by omega,h4⟩
def PSts (tb:List En) (X:Lx) (c:Cx) (n:Nat):Prop:=∀ (l:List St) (s r:Bd),zav c n l s=some r→Fin r→zu l < 2 ^ 36→s.vars.length < 2 ^ 36→∀ {H:Hp}{S:Nat→Prop}{lv vv:AV},RepL X H S s lv vv→zr Try.prog (zK pls tb) 60 [.ptr X.b 0,.lst (l.map St.cells)] H (zbO X S vv H r)
section
variable {tb:List En} (hG:LowT tb) {X:Lx} {c:Cx} (hX:CxOk X c) {x:St} {s:Bd} {H:Hp} {S:Nat → Prop} {lv vv:AV}
set_option maxRecDepth 100000 in
set_option maxHeartbeats 8000000 in
include hG hX in
theorem lif {n:Nat} (IH:PSts tb X c n) {r:Int×Bd}{a b m:Bd} (h1:exL c n x.value s=some r) (h2:zav c n x.thn r.2=some a) (h3:zav c n x.els { a with state:=r.2.state,vars:=r.2.vars }=some b) (h4:mvL r.1 a.vars b.vars.length 0 b=some m)
 (hF:Fin (zt r.1 a.state m.state m).2) (hz:x.sz < 2 ^ 36) (hvl:s.vars.length < 2 ^ 36) (hR:RepL X H S s lv vv) :
 zr Try.prog (zK pls tb) 128 [.ptr X.b 0,.agg x.cells] H (zbO X S vv H { (zt r.1 a.state m.state m).2 with state:=(zt r.1 a.state m.state m).1 }):=by
 have hw:Plain (zK pls tb) 128:=hG.plain (by rfl)
 have hkeep:(zK pls tb).keep 128=false:=rfl
 have R1:=hR.alloc (.cells x.cells 0 true)
 have F1:=(FrL.refl X S vv H).alloc (.cells x.cells 0 true)
 have hFm:Fin m:=hF.le (yf _ _ _ _).le
 have hml:=zgn _ _ _ _ _ _ h4
 have hFb:Fin b:=hFm.le hml.1
 have e3:=(zaD c n).2.1 _ _ _ h3
 have e2:=(zaD c n).2.1 _ _ _ h2
 have hFa:Fin a:=hFb.le ⟨e3.1.l,e3.1.n⟩
 have hFr:Fin r.2:=hFa.le e2.1
 have hsz:=x.sz_eq
 have o3:=hR.o3
 have o4:=hR.o4
 have o5:=hR.o5
 have hlv:=yg c n _ _ _ h1
 have hrl:r.2.vars.length < 2 ^ 36:=by rw[hlv.v];exact hvl
 have hbl:b.vars.length < 2 ^ 36:=by rw[e3.2];exact hrl
 clear e3 e2 hml hlv
 refine zj (M:=87) (rs:=[]) (hw.call _) hw.ice hw.froz Try.func128 rfl rfl zuR.2 rfl ?_;dsimp only[zuR,zO,Nat.reduceAdd]
 repeat' (first
  | (apply Rx.nl ?_;clear hK K)|apply Rx.o ?_|apply Rx.on ?_|apply Wp.seq ?_|(apply zd fun K hK=>?_)|(apply zf 2 [(3,8),(3,11),(7,8)] fun K hK=>?_)|(apply zf 4 [(3,10),(7,10)] fun K hK=>?_)|(apply zf 10 [(3,18),(3,20),(10,18),(14,18),(17,18)] fun K hK=>?_)|(apply zw ?_;try intro _)|(apply zx ?_ ?_<;>clear hK K)|apply WpT.step ?_|apply zo rfl ?_|apply Wp.block ?_|apply zh ?_|apply zk ?_)
 refine WpL.call rfl eVk eAk ?_;simp only[List.cons_append,List.nil_append,List.append_nil]
 refine zr.mono ?_ (zaM hG hX n x.value s r h1 hFr R1 (FrL.refl _ _ _ _))
 rintro w H2 ⟨rfl,S2,lv2,R2,F2⟩
 have g2:=FrL.box hR F2
 have m2:=R2.m
 have n2:H.next+1≤H2.next:=F2.next
 obtain⟨cv,H3,a3,c3,n3,q3⟩:=copyI (H:=H2) R2.vars.n (by omega)
 have R3:RepL X H3 S2 r.2 lv2 vv:=R2.keep n3 fun k h _=>q3 k h
 have F3:FrL X S2 vv H2 S2 vv H3:=⟨n3,fun k h _ _ _ _=>q3 k h,fun _ h=>.inl h,fun _ h=>.inl h⟩
 have m3:=R3.m
 have g3:H3.get H.next=some (.cells x.cells 0 true):=by rw[q3 _ (by omega)];exact g2
 have z3:RowZ S2 vv (H.next+1) H3 cv r.2.vars:=⟨c3.lo fun k hk=>by have:=c3.lt hk;omega,fun k hk=>by
  have:=R2.new (c3.lt hk).1
  exact⟨this.1,this.2.1⟩⟩
 obtain⟨hc1,hc2⟩:=c3.one
 dsimp only[lc]at m2 m3
 dsimp only[zA]
 repeat' (first
  | (apply Rx.nl ?_;clear hK K)|apply Rx.o ?_|apply Rx.on ?_|apply Wp.seq ?_|(apply zd fun K hK=>?_)|(apply zf 2 [(3,8),(3,11),(7,8)] fun K hK=>?_)|(apply zf 4 [(3,10),(7,10)] fun K hK=>?_)|(apply zf 10 [(3,18),(3,20),(10,18),(14,18),(17,18)] fun K hK=>?_)|(apply zw ?_;try intro _)|(apply zx ?_ ?_<;>clear hK K)|apply WpT.step ?_|apply zo rfl ?_|apply Wp.block ?_|apply zh ?_|apply zk ?_)
 ·exact eK
 ·refine WpL.call rfl eVk eAk ?_;simp only[List.cons_append,List.nil_append,List.append_nil]
  refine zr.mono ?_ (IH x.thn r.2 a h2 hFa (by omega) hrl R3)
  rintro w H4 ⟨S4,lv4,vv4,R4,F4⟩
  have F04:=F2.trans (F3.trans F4)
  have g4:=FrL.box hR F04
  have z4:=z3.fr (by omega) (by omega) F4
  have m4:=R4.m
  obtain⟨R4s,F4s⟩:=R4.setS r.2.state
  have m4s:=R4s.m
  have zs:=z4.fr (X:=X) (by omega) (by omega) F4s
  have R5:=R4s.swapV (vw:=cv) (l:=r.2.vars) (zs.r.lo fun k _=>Nat.zero_le _) (fun k hk=>⟨by have:=zs.r.lt hk;omega,(zs.r.lt hk).2,(zs.n k hk).1⟩)
  have m5:=R5.m
  have hk5:∀ k,k≠X.b→((H4.set X.b (.cells (lc X { a with state:=r.2.state } lv4 vv4) 0 true)).set X.b (.cells (lc X { a with state:=r.2.state,vars:=r.2.vars } lv4 cv) 0 true)).get k=H4.get k:=fun k hk=>by rw[Hp.get_set,if_neg hk,Hp.get_set,if_neg hk]
  have F05:FrL X S vv (H.alloc (.cells x.cells 0 true)) S4 cv ((H4.set X.b (.cells (lc X { a with state:=r.2.state } lv4 vv4) 0 true)).set X.b (.cells (lc X { a with state:=r.2.state,vars:=r.2.vars } lv4 cv) 0 true)):=⟨F04.next,fun k h1 h2 h3 h4 h5=>by rw[hk5 k h2];exact F04.get k h1 h2 h3 h4 h5,F04.sub,fun k hk=>.inr (z4.r.lt hk).1⟩
  have g5:=FrL.box hR F05
  have y5:RowZ S4 cv 0 ((H4.set X.b (.cells (lc X { a with state:=r.2.state } lv4 vv4) 0 true)).set X.b (.cells (lc X { a with state:=r.2.state,vars:=r.2.vars } lv4 cv) 0 true)) vv4 a.vars:=⟨R4.vars.keep (Nat.le_refl _) fun k hk=>hk5 k (by have:=(R4.vS k hk).1;omega),fun k hk=>⟨fun e=>(R4.sS k e).2.2 hk,fun e=>(z4.n k e).2 hk⟩⟩
  have y5':RowZ S4 cv (X.b+1) ((H4.set X.b (.cells (lc X { a with state:=r.2.state } lv4 vv4) 0 true)).set X.b (.cells (lc X { a with state:=r.2.state,vars:=r.2.vars } lv4 cv) 0 true)) vv4 a.vars:=⟨y5.r.lo fun k hk=>(R4.vS k hk).1,y5.n⟩
  clear y5 hk5 F4s zs z4 z3 F3 F04
  dsimp only[lc]at m4 m4s m5 R5 F05 y5' g5
  dsimp only[zA]
  repeat' (first
   | (apply Rx.nl ?_;clear hK K)|apply Rx.o ?_|apply Rx.on ?_|apply Wp.seq ?_|(apply zd fun K hK=>?_)|(apply zf 2 [(3,8),(3,11),(7,8)] fun K hK=>?_)|(apply zf 4 [(3,10),(7,10)] fun K hK=>?_)|(apply zf 10 [(3,18),(3,20),(10,18),(14,18),(17,18)] fun K hK=>?_)|(apply zw ?_;try intro _)|(apply zx ?_ ?_<;>clear hK K)|apply WpT.step ?_|apply zo rfl ?_|apply Wp.block ?_|apply zh ?_|apply zk ?_)
  ·exact eK
  ·refine WpL.call rfl eVk eAk ?_;simp only[List.cons_append,List.nil_append,List.append_nil]
   refine zr.mono ?_ (IH x.els _ b h3 hFb (by omega) hrl R5)
   rintro w H6 ⟨S6,lv6,vv6,R6,F6⟩
   have F06:=F05.trans F6
   have g6:=FrL.box hR F06
   have y6:=y5'.fr (by omega) (by omega) F6
   have m6:=R6.m
   have hlen6:=R6.vars.n.len'
   have n6:H.next+1≤H6.next:=F06.next
   clear F6 F05 R5 R4s R4 y5' m5 m4s m4 g5 g4
   dsimp only[lc]at m6
   dsimp only[zA]
   repeat' (first
    | (apply Rx.nl ?_;clear hK K)|apply Rx.o ?_|apply Rx.on ?_|apply Wp.seq ?_|(apply zd fun K hK=>?_)|(apply zf 2 [(3,8),(3,11),(7,8)] fun K hK=>?_)|(apply zf 4 [(3,10),(7,10)] fun K hK=>?_)|(apply zf 10 [(3,18),(3,20),(10,18),(14,18),(17,18)] fun K hK=>?_)|(apply zw ?_;try intro _)|(apply zx ?_ ?_<;>clear hK K)|apply WpT.step ?_|apply zo rfl ?_|apply Wp.block ?_|apply zh ?_|apply zk ?_)
   refine yd [0,4,7,8,51] [] 52 b.vars.length (fun i E Hi=>∃ si Si lvi,mvL r.1 a.vars (b.vars.length - i) i si=some m∧RepL X Hi Si si lvi vv6∧FrL X S vv (H.alloc (.cells x.cells 0 true)) Si vv6 Hi∧RowZ Si vv6 (X.b+1) Hi vv4 a.vars∧si.vars.length=b.vars.length) eE ⟨b,S6,lv6,h4,R6,F06,y6,rfl⟩ ?_
   clear m6 g6 R6 F06 y6 hlen6
   rintro i E Hi hi hcE hrH hnH hsI ⟨si,Si,lvi,hJ,Ri,Fi,yi,hil⟩
   (try simp only[zi,zl,and_true,sB,sO,Nat.reduceBEq,Nat.reduceAdd,Nat.reduceLeDiff,tyF, *]at hcE)
   (try simp only[zi,zl,and_true,sB,sO,Nat.reduceBEq,Nat.reduceAdd,Nat.reduceLeDiff,tyF, *]at hrH)
   (try simp only[zb,ze,zH,Nat.zero_add,Nat.reduceAdd]at hnH)
   have mi:=Ri.m
   dsimp only[lc]at mi
   have ni:H.next+1≤Hi.next:=Fi.next
   by_cases hlt:i < b.vars.length
   ·have hlt':(i:Int) < b.vars.length:=by omega
    obtain⟨k,hk⟩:∃ k,b.vars.length - i=k+1:=⟨b.vars.length - i - 1,by omega⟩
    have hk2:b.vars.length - (i+1)=k:=by omega
    rw[hk]at hJ
    rw[hk2]
    unfold mvL at hJ
    simp only[Option.bind_eq_some_iff]at hJ
    obtain⟨xa,hxa,xb,hxb,hJ⟩:=hJ
    obtain⟨qa,hixa,hlda,hqa⟩:=yi.at hxa
    obtain⟨qb,hixb,hldb⟩:=Ri.atV hxb
    have hFx:Fin (zt r.1 xa xb si).2:=hFm.le ⟨(zgn _ _ _ _ _ _ hJ).1.l,(zgn _ _ _ _ _ _ hJ).1.n⟩
    have hx2:(zt r.1 xa xb si).2.vars=si.vars:=(yf _ _ _ _).v
    have hvx:i < (zt r.1 xa xb si).2.vars.length:=by rw[hx2];omega
    repeat' (first
     | (apply Rx.nl ?_;clear hK K)|apply Ry.o ?_|(apply Ry.cd (fun hb hbp=>?_) (fun hb hbp=>?_)<;>try (cases hb;done))|apply Wp.seq ?_|(apply zd fun K hK=>?_)|(apply zf 2 [(3,8),(3,11),(7,8)] fun K hK=>?_)|(apply zf 4 [(3,10),(7,10)] fun K hK=>?_)|(apply zf 10 [(3,18),(3,20),(10,18),(14,18),(17,18)] fun K hK=>?_)|(apply zw ?_;try intro _)|(apply zx ?_ ?_<;>clear hK K)|apply WpT.step ?_|apply zo rfl ?_|apply Wp.block ?_|apply zh ?_|apply zk ?_)
    refine WpL.call rfl eVk eAk ?_;simp only[List.cons_append,List.nil_append,List.append_nil]
    refine zr.mono ?_ (zc2 hG Ri (FrL.refl _ _ _ _) r.1 xa xb hFx)
    rintro w H7 ⟨rfl,S7,lv7,R7,F7⟩
    obtain⟨q',hix',hld',H8,hst,hq1,hq2,hq3,R8,F8,o8,n8⟩:=R7.setV hvx (zt r.1 xa xb si).1
    have hqq:q'=qb:=by
     rw[hixb]at hix'
     simp only[Option.some.injEq,AV.ptr.injEq]at hix'
     exact hix'.1.symm
    subst hqq
    have y7:=yi.fr (by omega) (by omega) F7
    have y8:=y7.fr (by omega) (by omega) F8
    obtain⟨qa7,ix7,ld7,_⟩:=y7.at hxa
    obtain⟨qa8,ix8,ld8,_⟩:=y8.at hxa
    rw[hixa]at ix7 ix8
    simp only[Option.some.injEq,AV.ptr.injEq,and_true]at ix7 ix8
    subst ix7 ix8
    have m7:=R7.m
    have m8:=R8.m
    have n7:=F7.next
    dsimp only[lc]at m7 m8
    have fin:∀ R:Prop,R→R:=fun _ h=>h
    clear fin hix' hx2
    dsimp only[zA]
    repeat' (first
     | (apply Rx.nl ?_;clear hK K)|apply Rx.o ?_|apply Rx.on ?_|apply Wp.seq ?_|(apply zd fun K hK=>?_)|(apply zf 2 [(3,8),(3,11),(7,8)] fun K hK=>?_)|(apply zf 4 [(3,10),(7,10)] fun K hK=>?_)|(apply zf 10 [(3,18),(3,20),(10,18),(14,18),(17,18)] fun K hK=>?_)|(apply zw ?_;try intro _)|(apply zx ?_ ?_<;>clear hK K)|apply WpT.step ?_|apply zo rfl ?_|apply Wp.block ?_|apply zh ?_|apply zk ?_)
    ·exact eK
    ·refine⟨by omega,eL,eL,eN,(by simp only[sB,Nat.reduceBEq, *];exact zT (n:=b.vars.length) (by omega) (by omega)),?_⟩
     exact⟨_,S7,lv7,hJ,R8,Fi.trans (F7.trans F8),y8,by rw[List.length_set,(yf _ _ _ _).v];exact hil⟩
   ·have hlt':¬ (i:Int) < b.vars.length:=by omega
    have hk:b.vars.length - i=0:=by omega
    rw[hk]at hJ
    simp only[mvL,Option.some.injEq]at hJ
    subst hJ
    repeat' (first
     | (apply Rx.nl ?_;clear hK K)|apply Ry.o ?_|(apply Ry.cd (fun hb hbp=>?_) (fun hb hbp=>?_)<;>try (cases hb;done))|apply Wp.seq ?_|(apply zd fun K hK=>?_)|(apply zf 2 [(3,8),(3,11),(7,8)] fun K hK=>?_)|(apply zf 4 [(3,10),(7,10)] fun K hK=>?_)|(apply zf 10 [(3,18),(3,20),(10,18),(14,18),(17,18)] fun K hK=>?_)|(apply zw ?_;try intro _)|(apply zx ?_ ?_<;>clear hK K)|apply WpT.step ?_|apply zo rfl ?_|apply Wp.block ?_|apply zh ?_|apply zk ?_)
    refine WpL.call rfl eVk eAk ?_;simp only[List.cons_append,List.nil_append,List.append_nil]
    refine zr.mono ?_ (zc2 hG Ri (FrL.refl _ _ _ _) r.1 a.state si.state hF)
    rintro w H7 ⟨rfl,S7,lv7,R7,F7⟩
    have m7:=R7.m
    dsimp only[lc]at m7
    dsimp only[zA]
    repeat' (first
     | (apply Rx.nl ?_;clear hK K)|apply Rx.o ?_|apply Rx.on ?_|apply Wp.seq ?_|(apply zd fun K hK=>?_)|(apply zf 2 [(3,8),(3,11),(7,8)] fun K hK=>?_)|(apply zf 4 [(3,10),(7,10)] fun K hK=>?_)|(apply zf 10 [(3,18),(3,20),(10,18),(14,18),(17,18)] fun K hK=>?_)|(apply zw ?_;try intro _)|(apply zx ?_ ?_<;>clear hK K)|apply WpT.step ?_|apply zo rfl ?_|apply Wp.block ?_|apply zh ?_|apply zk ?_)
    all_goals (refine⟨eI,_,eR,?_⟩;try simp only[zp])
    obtain⟨R8,F8⟩:=R7.setS (zt r.1 a.state si.state si).1
    exact⟨S7,lv7,vv6,R8,F1.trans (Fi.trans (F7.trans F8))⟩
end
end Go.Proofs.Ytpbcimfiofmoeaa
namespace Go.Proofs.Ytpbcimfiofmoeaa
set_option maxRecDepth 20000
set_option maxRecDepth 20000
open Go Go.Ab
namespace tyLoH
def tyF:=And.intro @tq2 (And.intro @tq3 (And.intro @tq4 (And.intro @tq9 (And.intro @zcV (And.intro @zg4 (And.intro @zcj (And.intro @za9 (And.intro @zba (And.intro @zau (And.intro @zbw (And.intro @zgd (And.intro @zh7 (And.intro @tq107 (And.intro @bI1 (@bI2)))))))))))))))
end tyLoH
open tyLoH
noncomputable def zuS:{ c:SC // slim 181 (Try.f129.body.getD .skip)=c }:=by
 refine⟨?_,?_⟩
 rotate_left
 ·simp only[Try.f129,Option.getD_some,slim,zZ,zS,z6,z7,Nat.blt,Nat.ble]
  rfl
abbrev zkh (l:List Nat):List Int:=l.map fun (i:Nat)=>(i:Int)
theorem ldBo {H:Hp}{r imm m:Nat}{b:List Bool} (hg:H.get r=some (.cells (b.map .bool) imm true)) (hm:m < b.length):zaZ Try.prog H 4 (.ptr r m)=some (.bool (b.getD m false)):=by
 rw[zh2 Try.underlying4 rfl hg,List.getElem?_map,List.getD_eq_getElem?_getD,List.getElem?_eq_getElem hm];rfl
def zdw (b:List Bool) (i:Nat):List Nat:=(List.range i).filter fun i=>b.getD i false
theorem zki (b:List Bool) (i:Nat):zdw b (i+1)=zdw b i++(if b.getD i false=true then [i]else []):=by
 unfold zdw
 rw[List.range_succ,List.filter_append]
 congr 1
 by_cases h:b.getD i false=true
 ·rw[if_pos h];simp only[List.filter_cons,h,if_true,List.filter_nil]
 ·rw[if_neg h];simp only[List.filter_cons,h,List.filter_nil];rfl
theorem zjC {b:List Bool}{i:Nat} (h:i∈yA b):i < b.length:=by
 unfold yA at h
 exact List.mem_range.1 (List.mem_filter.1 h).1
theorem zgV (b:List Bool) (i:Nat):(zdw b i).length≤i:=by
 have:=List.length_filter_le (fun i=>b.getD i false) (List.range i)
 rw[List.length_range]at this
 exact this
theorem RowL.other {S:Nat→Prop}{vv:AV}{lo:Nat}{H H':Hp}{av wv:AV}{l:List Int} (h:RowL S vv lo H av l) (hn:H.next≤H'.next) (hq:∀ k,k < H.next→¬ yq wv k→H'.get k=H.get k) (hd:∀ k,yq av k→¬ yq wv k):RowL S vv lo H' av l:=⟨h.r.keep hn fun k hk=>hq k (h.r.lt hk).2 (hd k hk),h.n⟩
theorem FrL.other {X:Lx}{S0 S:Nat→Prop}{v0 vv wv:AV}{H0 H H':Hp} (h:FrL X S0 v0 H0 S vv H) (hn:H.next≤H'.next) (hq:∀ k,k < H.next→¬ yq wv k→H'.get k=H.get k) (hw:∀ k,yq wv k→H0.next≤k):FrL X S0 v0 H0 S vv H':=
 ⟨Nat.le_trans h.next hn,fun k h1 h2 h3 h4 h5=>by rw[hq k (Nat.lt_of_lt_of_le h1 h.next) fun e=>by have:=hw k e;omega];exact h.get k h1 h2 h3 h4 h5,h.sub,h.own⟩
theorem RowL.app1 {X:Lx}{S:Nat→Prop}{s:Bd}{lv vv:AV}{lo:Nat}{H:Hp}{wv:AV}{l:List Int} (h:RowL S vv lo H wv l) (hR:RepL X H S s lv vv) (hlo:lo≤H.next) (x:Int) (hb:X.b < lo) (hl:l.length < 2 ^ 39) :
 ∃ v' H',zX Try.prog false (H.alloc (.cells [.int .i64 x] 0 true)) 23 23 wv (.sl H.next 0 1 1)=some (v',H')∧RowL S vv lo H' v' (l++[x])∧RepL X H' S s lv vv∧H.next≤H'.next∧(∀ k,k < H.next→¬ yq wv k→H'.get k=H.get k)∧(∀ k,yq v' k→yq wv k∨H.next≤k):=by
 obtain⟨v',H',a1,a2,a3,_,a5,a6,a7,_⟩:=h.app (hR.alloc (.cells [.int .i64 x] 0 true)) (by simp only[zb];omega) (Nat.le_succ _) (fun k hk=>by rw[za,if_neg (by omega)]) x (r:=H.next) (imm:=0) (by rw[za,if_pos rfl]) hb hl
 simp only[zb]at a5 a6 a7
 exact⟨v',H',a1,a2,a3,by omega,fun k h1 h2=>by rw[a6 k (by omega) h2,za,if_neg (by omega)],fun k hk=>by
  rcases a7 k hk with e|e
  ·exact .inl e
  ·exact .inr (by omega)⟩
theorem RowL.at {S:Nat→Prop}{vv:AV}{lo:Nat}{H:Hp}{av:AV}{l:List Int} (h:RowL S vv lo H av l) {i:Nat}{x:Int} (hi:l[i]?=some x):∃ r,zq Try.prog 23 av (.int .i64 (i:Int))=some (.ptr r i)∧zaZ Try.prog H 3 (.ptr r i)=some (.int .i64 x):=by
 have hlt:i < l.length:=by
  by_cases c:i < l.length
  ·exact c
  ·rw[List.getElem?_eq_none (by omega)]at hi;cases hi
 rcases h.r with ⟨_,rfl⟩|h2
 ·simp at hlt
 ·obtain⟨r,h3,h4⟩:=h2.at hlt
  rw[List.getElem?_eq_getElem hlt]at hi
  simp only[Option.some.injEq]at hi
  rw[hi]at h4
  exact⟨r,h3,h4⟩
theorem wrap3 {L j:Nat} (hL:L < 2 ^ 36) (hj:j < 2 ^ 36):IntKind.wrap .i64 (16 * (L:Int))=16 * (L:Int)∧IntKind.wrap .i64 (16 * (L:Int)+j)=16 * (L:Int)+j∧IntKind.wrap .i64 (16 * (L:Int)+j+1)=16 * (L:Int)+1+j:=by
 refine⟨zaV (by omega) (by omega),zaV (by omega) (by omega),?_⟩
 rw[zaV (by omega) (by omega)];omega
theorem zlG (base:Int) (w:Nat) (ws:List Nat) (j:Nat) (s:Bd):lvL base (w::ws) j s=lvL base ws (j+1) { (zm ⟨3,base+j,[]⟩ s).2 with vars:=(zm ⟨3,base+j,[]⟩ s).2.vars.set w (zm ⟨3,base+j,[]⟩ s).1 }:=rfl
theorem zfT (lp c:Int) (old:List Int) (w:Nat) (ws:List Nat) (j:Nat) (s:Bd):lrL lp c old (w::ws) j s=lrL lp c old ws (j+1) { (zt c (zm ⟨25,j,[lp]⟩ s).1 (old.getD w 0) (zm ⟨25,j,[lp]⟩ s).2).2 with vars:=(zt c (zm ⟨25,j,[lp]⟩ s).1 (old.getD w 0) (zm ⟨25,j,[lp]⟩ s).2).2.vars.set w (zt c (zm ⟨25,j,[lp]⟩ s).1 (old.getD w 0) (zm ⟨25,j,[lp]⟩ s).2).1 }:=rfl
theorem zd7 (c a b:Int) (s:Bd) (v:List Int):zt c a b { s with vars:=v }=((zt c a b s).1,{ (zt c a b s).2 with vars:=v }):=by
 unfold zt
 split<;>rfl
theorem zq9 (lp c:Int) (old:List Int):∀ (ws:List Nat) (j:Nat) (s:Bd) (v w:List Int),v.length=w.length→(∀ i,i∉ws→v[i]?=w[i]?)→lrL lp c old ws j { s with vars:=v }=lrL lp c old ws j { s with vars:=w }
 | [],j,s,v,w,hl,h=>by
   have:v=w:=List.ext_getElem? fun i=>h i List.not_mem_nil
   rw[this]
 | a::ws,j,s,v,w,hl,h=>by
   rw[zfT,zfT]
   have p:∀ v,zm ⟨25,j,[lp]⟩ { s with vars:=v }=((zm ⟨25,j,[lp]⟩ s).1,{ (zm ⟨25,j,[lp]⟩ s).2 with vars:=v }):=fun v=>rfl
   rw[p v,p w]
   simp only[]
   rw[zd7 c _ _ (zm ⟨25,j,[lp]⟩ s).2 v,zd7 c _ _ (zm ⟨25,j,[lp]⟩ s).2 w]
   refine zq9 lp c old ws (j+1) (zt c (zm ⟨25,j,[lp]⟩ s).1 (old.getD a 0) (zm ⟨25,j,[lp]⟩ s).2).2 (v.set a (zt c (zm ⟨25,j,[lp]⟩ s).1 (old.getD a 0) (zm ⟨25,j,[lp]⟩ s).2).1) (w.set a (zt c (zm ⟨25,j,[lp]⟩ s).1 (old.getD a 0) (zm ⟨25,j,[lp]⟩ s).2).1) (by rw[List.length_set,List.length_set,hl]) fun i hi=>?_
   rw[List.getElem?_set,List.getElem?_set,hl]
   by_cases e:a=i
   ·rw[if_pos e,if_pos e]
   ·rw[if_neg e,if_neg e]
    exact h i (by rw[List.mem_cons,not_or];exact⟨fun q=>e q.symm,hi⟩)
theorem zkj (b:List Bool):(yA b).Nodup:=List.nodup_range.filter _
section
variable {tb:List En} (hG:LowT tb) {X:Lx} {c:Cx} (hX:CxOk X c) {x:St} {s:Bd} {H:Hp} {S:Nat → Prop} {lv vv:AV}
set_option maxRecDepth 100000 in
set_option maxHeartbeats 8000000 in
include hG hX in
theorem lwh {n:Nat} (IH:PSts tb X c n) {r:Int×Bd}{b:List Bool}{t:Bd}{d:Int×Bd} (h1:exL c n x.value { s with loops:=s.loops+1 }=some r) (h2:zbh c.names n x.thn (List.replicate r.2.vars.length false)=some b)
 (h3:zav c n x.thn (lvL (16 * (s.loops:Int)+1) (yA b) 0 { (zm ⟨3,16 * (s.loops:Int),[]⟩ r.2).2 with state:=(zm ⟨3,16 * (s.loops:Int),[]⟩ r.2).1 })=some t) (h4:exL c n x.value t=some d)
 {k:Int×Bd} (hk:zm ⟨31,s.loops,r.2.state::((yA b).map fun i=>r.2.vars.getD i 0)++[d.1,d.2.state]++((yA b).map fun i=>d.2.vars.getD i 0)⟩ d.2=k)
 {m:Int×Bd} (hm:zt r.1 (zm ⟨25,0,[k.1]⟩ { k.2 with vars:=r.2.vars }).1 r.2.state (zm ⟨25,0,[k.1]⟩ { k.2 with vars:=r.2.vars }).2=m)
 (hF:Fin (lrL k.1 r.1 r.2.vars (yA b) 1 { m.2 with state:=m.1 })) (hz:x.sz < 2 ^ 36) (hvl:s.vars.length < 2 ^ 36) (hout:∀ i,i∉yA b→d.2.vars[i]?=r.2.vars[i]?) (hR:RepL X H S s lv vv) :
 zr Try.prog (zK pls tb) 129 [.ptr X.b 0,.agg x.cells] H (zbO X S vv H (lrL k.1 r.1 r.2.vars (yA b) 1 { m.2 with state:=m.1 })):=by
 have hw:Plain (zK pls tb) 129:=hG.plain (by rfl)
 have hkeep:(zK pls tb).keep 129=false:=rfl
 have R1:=hR.alloc (.cells x.cells 0 true)
 have F1:=(FrL.refl X S vv H).alloc (.cells x.cells 0 true)
 have hmm:m=((zt r.1 (zm ⟨25,0,[k.1]⟩ k.2).1 r.2.state (zm ⟨25,0,[k.1]⟩ k.2).2).1,{ (zt r.1 (zm ⟨25,0,[k.1]⟩ k.2).1 r.2.state (zm ⟨25,0,[k.1]⟩ k.2).2).2 with vars:=r.2.vars }):=by
  rw[← hm];exact zd7 _ _ _ (zm ⟨25,0,[k.1]⟩ k.2).2 r.2.vars
 have hdl0:d.2.vars.length=r.2.vars.length:=by
  rw[(yg c n _ _ _ h4).v,((zaD c n).2.1 _ _ _ h3).2,(zdv _ _ _ _).2.2.1];rfl
 generalize hm':zt r.1 (zm ⟨25,0,[k.1]⟩ k.2).1 r.2.state (zm ⟨25,0,[k.1]⟩ k.2).2=m' at hmm
 have hm'v:m'.2.vars=d.2.vars:=by rw[← hm',(yf _ _ _ _).v,← hk];rfl
 have hspec:lrL k.1 r.1 r.2.vars (yA b) 1 { m.2 with state:=m.1 }=lrL k.1 r.1 r.2.vars (yA b) 1 { m'.2 with state:=m'.1 }:=by
  have h:=zq9 k.1 r.1 r.2.vars (yA b) 1 { m'.2 with state:=m'.1 } r.2.vars d.2.vars hdl0.symm (fun i hi=>(hout i hi).symm)
  rw[hmm]
  rw[← hm'v]at h
  exact h
 rw[hspec]at hF ⊢
 clear hspec hmm hm m hout
 have hFm':Fin m'.2:=hF.le ⟨(zfc _ _ _ _ _ { m'.2 with state:=m'.1 }).1.l,(zfc _ _ _ _ _ { m'.2 with state:=m'.1 }).1.n⟩
 have hFf':Fin (zm ⟨25,0,[k.1]⟩ k.2).2:=by rw[← hm']at hFm';exact hFm'.le (yf _ _ _ _).le
 have hFk:Fin k.2:=hFf'.le (zV _ _).le
 have hFd:Fin d.2:=by rw[← hk]at hFk;exact hFk.le (zV _ _).le
 have hFt:Fin t:=hFd.le (yg c n _ _ _ h4).le
 have e3:=(zaD c n).2.1 _ _ _ h3
 have hFl:=hFt.le e3.1
 have hFp:Fin (zm ⟨3,16 * (s.loops:Int),[]⟩ r.2).2:=hFl.le ⟨(zdv _ _ _ { (zm ⟨3,16 * (s.loops:Int),[]⟩ r.2).2 with state:=(zm ⟨3,16 * (s.loops:Int),[]⟩ r.2).1 }).1.l,(zdv _ _ _ { (zm ⟨3,16 * (s.loops:Int),[]⟩ r.2).2 with state:=(zm ⟨3,16 * (s.loops:Int),[]⟩ r.2).1 }).1.n⟩
 have hFr:Fin r.2:=hFp.le (zV _ _).le
 have hlv:=yg c n _ _ _ h1
 have hrl:r.2.vars.length < 2 ^ 36:=by rw[hlv.v];exact hvl
 have hln:s.loops < 2 ^ 36:=Nat.lt_of_le_of_lt (Nat.le_succ _) (by have:=hFr.n;rw[hlv.n]at this;exact this)
 have hbl:b.length=r.2.vars.length:=by rw[zch _ _ _ _ _ h2,List.length_replicate]
 have hdl:d.2.vars.length=r.2.vars.length:=by
  rw[(yg c n _ _ _ h4).v,e3.2,(zdv _ _ _ _).2.2.1];rfl
 have hsz:=x.sz_eq
 have o3:=hR.o3
 have o4:=hR.o4
 have o5:=hR.o5
 clear hlv e3
 have m1:=R1.m
 obtain⟨R1s,F1s⟩:=R1.setN (s.loops+1)
 have m1s:=R1s.m
 have g1s:=FrL.box hR F1s
 have eL1:IntKind.wrap .i64 ((s.loops:Int)+1)=((s.loops+1:Nat):Int):=z9 (by omega)
 have F01:=F1.trans F1s
 dsimp only[lc]at m1 m1s R1s F1s g1s F01
 refine zj (M:=181) (rs:=[]) (hw.call _) hw.ice hw.froz Try.func129 rfl rfl zuS.2 rfl ?_;dsimp only[zuS,zO,Nat.reduceAdd]
 repeat' (first
  | (apply Rx.nl ?_;clear hK K)|apply Rx.o ?_|apply Rx.on ?_|apply Wp.seq ?_|(apply zd fun K hK=>?_)|(apply zf 19 [(3,11),(3,13)] fun K hK=>?_)|(apply zaG 23 [0,2,3,4,5,6,7,1,8,9] [(5,7),(5,8),(6,7),(6,8)] fun K hK=>?_)|(apply zf 30 [(5,6),(9,6),(9,10)] fun K hK=>?_)|(apply zf 34 [(3,12),(3,18),(3,20),(11,12),(17,12),(17,18)] fun K hK=>?_)|(apply zw ?_;try intro _)|(apply zx ?_ ?_<;>clear hK K)|apply WpT.step ?_|apply zo rfl ?_|apply Wp.block ?_|apply zh ?_|apply zk ?_)
 refine WpL.call rfl eVk eAk ?_;simp only[List.cons_append,List.nil_append,List.append_nil]
 refine zr.mono ?_ (zaM hG hX n x.value _ r h1 hFr R1s (FrL.refl _ _ _ _))
 rintro w H2 ⟨rfl,S2,lv2,R2,F2⟩
 have F02:=F1s.trans F2
 have g2:=FrL.box hR F02
 have m2:=R2.m
 have n2:H.next+1≤H2.next:=F02.next
 have hl2:=R2.vars.n.len'
 have hmk:∀ H:Hp,jB Try.prog H 107 (.int .i64 r.2.vars.length) (.int .i64 r.2.vars.length)=some (.sl H.next 0 r.2.vars.length 1,H.alloc (.cells ((List.replicate r.2.vars.length false).map .bool) 0 true)):=fun H=>makeB _ (by omega)
 have nw2:=R2.new (Nat.le_refl _)
 have R3:=R2.alloc (.cells ((List.replicate r.2.vars.length false).map .bool) 0 true)
 have g3:(H2.alloc (.cells ((List.replicate r.2.vars.length false).map .bool) 0 true)).get H.next=some (.cells x.cells 0 true):=by rw[za,if_neg (by omega)];exact g2
 clear R1 R1s m1 m1s g1s
 dsimp only[lc]at m2
 dsimp only[zA]
 repeat' (first
  | (apply Rx.nl ?_;clear hK K)|apply Rx.o ?_|apply Rx.on ?_|apply Wp.seq ?_|(apply zd fun K hK=>?_)|(apply zf 19 [(3,11),(3,13)] fun K hK=>?_)|(apply zaG 23 [0,2,3,4,5,6,7,1,8,9] [(5,7),(5,8),(6,7),(6,8)] fun K hK=>?_)|(apply zf 30 [(5,6),(9,6),(9,10)] fun K hK=>?_)|(apply zf 34 [(3,12),(3,18),(3,20),(11,12),(17,12),(17,18)] fun K hK=>?_)|(apply zw ?_;try intro _)|(apply zx ?_ ?_<;>clear hK K)|apply WpT.step ?_|apply zo rfl ?_|apply Wp.block ?_|apply zh ?_|apply zk ?_)
 refine WpL.call rfl eVk eAk ?_;simp only[List.cons_append,List.nil_append,List.append_nil]
 have hrep:(List.replicate r.2.vars.length false).length=r.2.vars.length:=List.length_replicate
 have hasg:=zkg hG hX (n+1) n (Nat.lt_succ_self _) x.thn _ b h2 (by omega) R3 (q:=H2.next) (by rw[za,if_pos rfl]) nw2.2.2 (Nat.lt_succ_self _) nw2.1 nw2.2.1
 rw[hrep]at hasg
 refine zr.mono ?_ hasg
 clear hasg
 rintro w H3 ⟨gb3,n3,q3⟩
 simp only[zb]at n3 q3
 have hq3:∀ k,k < H2.next→H3.get k=H2.get k:=fun k hk=>by rw[q3 k (by omega) (by omega),za,if_neg (by omega)]
 have R4:RepL X H3 S2 r.2 lv2 vv:=R2.keep (by omega) fun k hk _=>hq3 k hk
 have F03:FrL X S vv (H.alloc (.cells x.cells 0 true)) S2 vv H3:=F02.trans ⟨by omega,fun k hk _ _ _ _=>hq3 k hk,fun _ h=>.inl h,fun _ h=>.inl h⟩
 clear q3 R3 g3
 dsimp only[zA]
 repeat' (first
  | (apply Rx.nl ?_;clear hK K)|apply Rx.o ?_|apply Rx.on ?_|apply Wp.seq ?_|(apply zd fun K hK=>?_)|(apply zf 19 [(3,11),(3,13)] fun K hK=>?_)|(apply zaG 23 [0,2,3,4,5,6,7,1,8,9] [(5,7),(5,8),(6,7),(6,8)] fun K hK=>?_)|(apply zf 30 [(5,6),(9,6),(9,10)] fun K hK=>?_)|(apply zf 34 [(3,12),(3,18),(3,20),(11,12),(17,12),(17,18)] fun K hK=>?_)|(apply zw ?_;try intro _)|(apply zx ?_ ?_<;>clear hK K)|apply WpT.step ?_|apply zo rfl ?_|apply Wp.block ?_|apply zh ?_|apply zk ?_)
 refine yd [0,3,4,5,6,46] [] 47 r.2.vars.length (fun i E Hi=>∃ a,E.at 7=a∧zex Hi a (zkh (zdw b i)) (H2.next+1)∧Sm (H2.next+1) H3 Hi) eE ⟨.nilS,eE,.inl ⟨rfl,rfl⟩,⟨fun _ _=>rfl⟩⟩ ?_
 rintro i E Hi hi hcE hrH hnH hsI ⟨a,k7,ha,hsm⟩
 (try simp only[zi,zl,and_true,sB,sO,Nat.reduceBEq,Nat.reduceAdd,Nat.reduceLeDiff,tyF, *]at hcE)
 (try simp only[zi,zl,and_true,sB,sO,Nat.reduceBEq,Nat.reduceAdd,Nat.reduceLeDiff,tyF, *]at hrH)
 (try simp only[zb,ze,zH,Nat.zero_add,Nat.reduceAdd]at hnH)
 by_cases hlt:i < r.2.vars.length
 ·have hlt':(i:Int) < r.2.vars.length:=by omega
  have gbi:Hi.get H2.next=some (.cells (b.map .bool) 0 true):=by rw[hsm.get _ (by omega)];exact gb3
  have hix:=ixBo (q:=H2.next) hlt
  have hld:=ldBo gbi (m:=i) (by omega)
  have hws:=zki b i
  have hwl:=zgV b i
  cases hbi:b.getD i false with
  | true=>
    rw[hbi]at hld
    rw[hbi,if_pos rfl]at hws
    obtain⟨v5,H5,a5,s5,n5,f5,o5'⟩:=zll (H:=Hi.alloc (.cells [.int .i64 (i:Int)] 0 true)) (i:Int) (ha.keep (H':=Hi.alloc (.cells [.int .i64 (i:Int)] 0 true)) (Nat.le_succ _) fun k hk=>by rw[za,if_neg (by have:=(ha.lt hk).2;omega)]) (by simp only[zb];omega) (r:=Hi.next) (imm:=0) (by rw[za,if_pos rfl]) (by simp only[List.length_map];omega)
    have n5':Hi.next≤H5.next:=by simp only[zb]at n5;omega
    repeat' (first
     | (apply Rx.nl ?_;clear hK K)|apply Ry.o ?_|(apply Ry.cd (fun hb hbp=>?_) (fun hb hbp=>?_)<;>try (cases hb;done))|apply Wp.seq ?_|(apply zd fun K hK=>?_)|(apply zf 19 [(3,11),(3,13)] fun K hK=>?_)|(apply zaG 23 [0,2,3,4,5,6,7,1,8,9] [(5,7),(5,8),(6,7),(6,8)] fun K hK=>?_)|(apply zf 30 [(5,6),(9,6),(9,10)] fun K hK=>?_)|(apply zf 34 [(3,12),(3,18),(3,20),(11,12),(17,12),(17,18)] fun K hK=>?_)|(apply zw ?_;try intro _)|(apply zx ?_ ?_<;>clear hK K)|apply WpT.step ?_|apply zo rfl ?_|apply Wp.block ?_|apply zh ?_|apply zk ?_)
    refine⟨by omega,eL,eL,eN,(by simp only[sB,Nat.reduceBEq, *];exact zT (n:=r.2.vars.length) (by omega) (by omega)),?_⟩
    exact⟨v5,eE,.inr (by rw[hws];simpa using s5),⟨fun k hk=>by rw[f5 k hk,za,if_neg (by omega)];exact hsm.get k hk⟩⟩
  | false=>
    rw[hbi]at hld
    rw[hbi,if_neg (by simp),List.append_nil]at hws
    repeat' (first
     | (apply Rx.nl ?_;clear hK K)|apply Ry.o ?_|(apply Ry.cd (fun hb hbp=>?_) (fun hb hbp=>?_)<;>try (cases hb;done))|apply Wp.seq ?_|(apply zd fun K hK=>?_)|(apply zf 19 [(3,11),(3,13)] fun K hK=>?_)|(apply zaG 23 [0,2,3,4,5,6,7,1,8,9] [(5,7),(5,8),(6,7),(6,8)] fun K hK=>?_)|(apply zf 30 [(5,6),(9,6),(9,10)] fun K hK=>?_)|(apply zf 34 [(3,12),(3,18),(3,20),(11,12),(17,12),(17,18)] fun K hK=>?_)|(apply zw ?_;try intro _)|(apply zx ?_ ?_<;>clear hK K)|apply WpT.step ?_|apply zo rfl ?_|apply Wp.block ?_|apply zh ?_|apply zk ?_)
    refine⟨by omega,eL,eL,eN,(by simp only[sB,Nat.reduceBEq, *];exact zT (n:=r.2.vars.length) (by omega) (by omega)),?_⟩
    exact⟨a,eE,by rw[hws];exact ha,hsm⟩
 ·have hlt':¬ (i:Int) < r.2.vars.length:=by omega
  have hie:zdw b i=yA b:=by rw[yA,hbl,show i=r.2.vars.length by omega];rfl
  rw[hie]at ha
  have hwm:∀ j∈yA b,j < r.2.vars.length:=fun j hj=>by have:=zjC hj;omega
  have hwl:(yA b).length < 2 ^ 36:=by have:=zgV b b.length;have e:zdw b b.length=yA b:=rfl;rw[e]at this;omega
  have hnd:=zkj b
  generalize yA b=ws at *
  clear hie gb3 h2 hbl
  have hi3:∀ k,k < H2.next+1→Hi.get k=H3.get k:=hsm.get
  have Ri:RepL X Hi S2 r.2 lv2 vv:=R4.keep hnH fun k hk h=>by
   refine hi3 k ?_
   rcases h with h|h|h
   ·have:=nw2.2.2;omega
   ·have:=(R2.sS k h).2.1;omega
   ·have:=(R2.vS k h).2;omega
  have W:RowL S2 vv (H2.next+1) Hi a (zkh ws):=⟨ha,fun k hk=>by
   have:=R2.new (r:=k) (by have:=(ha.lt hk).1;omega)
   exact⟨this.1,this.2.1⟩⟩
  have Fi:FrL X S vv (H.alloc (.cells x.cells 0 true)) S2 vv Hi:=F02.trans ⟨by omega,fun k hk _ _ _ _=>by rw[hi3 k (by omega)];exact hq3 k hk,fun _ h=>.inl h,fun _ h=>.inl h⟩
  have gi:=FrL.box hR Fi
  have mi:=Ri.m
  have ni:H.next+1≤Hi.next:=Fi.next
  clear hsm R4 F03 F02 hi3 ha nw2 hq3 R2 m2 g2
  have ew:=(wrap3 hln (j:=0) (by omega)).1
  have Rb:=Ri.alloc (.cells [.int .i64 r.2.state] 0 true)
  have Fb:=Fi.alloc (.cells [.int .i64 r.2.state] 0 true)
  have gb:=FrL.box hR Fb
  dsimp only[lc]at mi
  repeat' (first
   | (apply Rx.nl ?_;clear hK K)|apply Ry.o ?_|(apply Ry.cd (fun hb hbp=>?_) (fun hb hbp=>?_)<;>try (cases hb;done))|apply Wp.seq ?_|(apply zd fun K hK=>?_)|(apply zf 19 [(3,11),(3,13)] fun K hK=>?_)|(apply zaG 23 [0,2,3,4,5,6,7,1,8,9] [(5,7),(5,8),(6,7),(6,8)] fun K hK=>?_)|(apply zf 30 [(5,6),(9,6),(9,10)] fun K hK=>?_)|(apply zf 34 [(3,12),(3,18),(3,20),(11,12),(17,12),(17,18)] fun K hK=>?_)|(apply zw ?_;try intro _)|(apply zx ?_ ?_<;>clear hK K)|apply WpT.step ?_|apply zo rfl ?_|apply Wp.block ?_|apply zh ?_|apply zk ?_)
  refine WpL.call rfl eVk eAk ?_;simp only[List.cons_append,List.nil_append,List.append_nil]
  refine zr.mono ?_ (zfR hG Rb (FrL.refl _ _ _ _) 3 (16 * (s.loops:Int)) hFp)
  generalize hp:zm ⟨3,16 * (s.loops:Int),[]⟩ r.2=p at *
  have hpv:p.2.vars=r.2.vars:=by rw[← hp];rfl
  rintro w H5 ⟨rfl,S5,lv5,R5,F5⟩
  have W5:RowL S5 vv (H2.next+1) H5 a (zkh ws):=RowL.fr (X:=X) (H:=Hi.alloc (.cells [.int .i64 r.2.state] 0 true)) ⟨W.r.keep (Nat.le_succ _) fun k hk=>by rw[za,if_neg (by have:=(W.r.lt hk).2;omega)],W.n⟩ (by omega) (by omega) F5
  have V5:RowL S5 vv (H2.next+1) H5 (.sl Hi.next 0 1 1) [r.2.state]:=RowL.fr (X:=X) (H:=Hi.alloc (.cells [.int .i64 r.2.state] 0 true)) (S:=S2) (vv:=vv) ⟨.inr ⟨Hi.next,0,rfl,by rw[za,if_pos rfl];rfl,Nat.zero_le _,by omega,Nat.lt_succ_self _⟩,fun k hk=>by
   have:=Ri.new (r:=k) (by rw[zgo hk];exact Nat.le_refl _)
   exact⟨this.1,this.2.1⟩⟩ (by omega) (by omega) F5
  have d5:∀ k,yq a k→¬ yq (.sl Hi.next 0 1 1) k:=fun k h1 h2=>by
   have:=(W.r.lt h1).2
   rw[zgo h2]at this;omega
  have m5:=R5.m
  obtain⟨R6,F6⟩:=R5.setS p.1
  have F06:=Fb.trans (F5.trans F6)
  have W6:=W5.fr (X:=X) (by omega) (by omega) F6
  have V6:=V5.fr (X:=X) (by omega) (by omega) F6
  have l6:=fun H'=>W5.r.len' (H':=H')
  have g6:=FrL.box hR F06
  have n6:H2.next+1≤H5.next:=by have:=F5.next;simp only[zb]at this;omega
  clear R5 F5 Rb gb W5 V5 Ri W gi mi Fi Fb
  dsimp only[lc]at m5 R6 F06 W6 V6 g6
  rw[List.length_map]at l6
  dsimp only[zA]
  repeat' (first
   | (apply Rx.nl ?_;clear hK K)|apply Rx.o ?_|apply Rx.on ?_|apply Wp.seq ?_|(apply zd fun K hK=>?_)|(apply zf 19 [(3,11),(3,13)] fun K hK=>?_)|(apply zaG 23 [0,2,3,4,5,6,7,1,8,9] [(5,7),(5,8),(6,7),(6,8)] fun K hK=>?_)|(apply zf 30 [(5,6),(9,6),(9,10)] fun K hK=>?_)|(apply zf 34 [(3,12),(3,18),(3,20),(11,12),(17,12),(17,18)] fun K hK=>?_)|(apply zw ?_;try intro _)|(apply zx ?_ ?_<;>clear hK K)|apply WpT.step ?_|apply zo rfl ?_|apply Wp.block ?_|apply zh ?_|apply zk ?_)
  have hdl1:∀ j,j < ws.length→r.2.vars[ws.getD j 0]?=some (r.2.vars.getD (ws.getD j 0) 0):=fun j hj=>by
   have:ws.getD j 0 < r.2.vars.length:=hwm _ (by rw[List.getD_eq_getElem?_getD,List.getElem?_eq_getElem hj];exact List.getElem_mem hj)
   generalize ws.getD j 0=q at *
   rw[List.getD_eq_getElem?_getD,List.getElem?_eq_getElem this];rfl
  have haw:∀ j,j < ws.length→(zkh ws)[j]?=some ((ws.getD j 0:Nat):Int):=fun j hj=>by
   rw[List.getElem?_map,List.getD_eq_getElem?_getD,List.getElem?_eq_getElem hj];rfl
  have hdr:∀ j,j < ws.length→ws.drop j=ws.getD j 0::ws.drop (j+1):=fun j hj=>by rw[List.drop_eq_getElem_cons hj,List.getD_eq_getElem?_getD,List.getElem?_eq_getElem hj];rfl
  have htk:∀ j,j < ws.length→ws.take (j+1)=ws.take j++[ws.getD j 0]:=fun j hj=>by rw[List.take_add_one,List.getD_eq_getElem?_getD,List.getElem?_eq_getElem hj];rfl
  have hnt:∀ j,j < ws.length→ws.getD j 0∉ws.take j:=fun j hj hm=>by
   have h:=hnd
   rw[← List.take_append_drop j ws,hdr j hj,List.nodup_append]at h
   exact h.2.2 _ hm _ List.mem_cons_self rfl
  refine yd [0,3,4,5,7,71,72] [] 73 ws.length (fun j E Hj=>∃ wv sj Sj lvj,E.at 9=wv∧lvL (16 * (s.loops:Int)+1) (ws.drop j) j sj=lvL (16 * (s.loops:Int)+1) ws 0 { p.2 with state:=p.1 } ∧ sj.loops=r.2.loops∧sj.vars.length=r.2.vars.length∧(∀ i,i∉ws.take j→sj.vars[i]?=r.2.vars[i]?)∧RepL X Hj Sj sj lvj vv∧FrL X S vv (H.alloc (.cells x.cells 0 true)) Sj vv Hj∧RowL Sj vv (H2.next+1) Hj a (zkh ws)∧RowL Sj vv (H2.next+1) Hj wv (r.2.state::(ws.take j).map fun i=>r.2.vars.getD i 0)∧∀ k,yq a k→¬ yq wv k) eE ⟨_,_,S5,lv5,eE,by rw[List.drop_zero],by rw[← hp];rfl,by rw[← hp];rfl,fun i _=>by rw[← hp];rfl,R6,F06,W6,V6,d5⟩ ?_
  clear R6 F06 W6 V6 d5 m5 g6
  rintro j E Hj hj hcE hrH hnH hsI ⟨wv,sj,Sj,lvj,k9,hJ,hjl,hjv,hjo,Rj,Fj,Aj,Wj,dj⟩
  (try simp only[zi,zl,and_true,sB,sO,Nat.reduceBEq,Nat.reduceAdd,Nat.reduceLeDiff,tyF, *]at hcE)
  (try simp only[zi,zl,and_true,sB,sO,Nat.reduceBEq,Nat.reduceAdd,Nat.reduceLeDiff,tyF, *]at hrH)
  (try simp only[zb,ze,zH,Nat.zero_add,Nat.reduceAdd]at hnH)
  have mj:=Rj.m
  dsimp only[lc]at mj
  have nj:H2.next+1≤Hj.next:=Nat.le_trans n6 hnH
  by_cases hlt:j < ws.length
  ·have hlt':(j:Int) < ws.length:=by omega
   have hwj:=haw j hlt
   have hvj:=hdl1 j hlt
   have hnj:=hnt j hlt
   have htj:=htk j hlt
   have hwl1:ws.getD j 0 < sj.vars.length:=by rw[hjv];exact hwm _ (by rw[List.getD_eq_getElem?_getD,List.getElem?_eq_getElem hlt];exact List.getElem_mem hlt)
   rw[hdr j hlt]at hJ
   rw[zlG]at hJ
   rw[← hjo _ hnj]at hvj
   rw[htj]
   generalize ws.getD j 0=w at *
   generalize hy:r.2.vars.getD w 0=y at *
   obtain⟨qa,ixa,lda⟩:=Aj.at hwj
   obtain⟨qv,ixv,ldv⟩:=Rj.atV hvj
   obtain⟨e1,e2,e3⟩:=wrap3 hln (j:=j) (by omega)
   obtain⟨v',H',a1,W',R',n',q',own'⟩:=Wj.app1 Rj nj y (by omega) (by simp only[List.length_cons,List.length_map,List.length_take];omega)
   have A':=Aj.other n' q' dj
   have F':=Fj.other n' q' (fun k hk=>by have:=(Wj.r.lt hk).1;simp only[zb];omega)
   have d':∀ k,yq a k→¬ yq v' k:=fun k h1 h2=>by
    rcases own' k h2 with e|e
    ·exact dj k h1 e
    ·have:=(Aj.r.lt h1).2;omega
   have m':=R'.m
   have hFx:Fin (zm ⟨3,16 * (s.loops:Int)+1+j,[]⟩ sj).2:=hFl.le (by rw[← hJ];exact((Le.refl _).setV _).trans (zdv _ _ _ _).1)
   have hput:=zfR hG R' (FrL.refl _ _ _ _) 3 (16 * (s.loops:Int)+1+j) hFx
   dsimp only[lc]at m'
   clear dj Aj Wj q' own' Rj hvj
   repeat' (first
    | (apply Rx.nl ?_;clear hK K)|apply Ry.o ?_|(apply Ry.cd (fun hb hbp=>?_) (fun hb hbp=>?_)<;>try (cases hb;done))|apply Wp.seq ?_|(apply zd fun K hK=>?_)|(apply zf 19 [(3,11),(3,13)] fun K hK=>?_)|(apply zaG 23 [0,2,3,4,5,6,7,1,8,9] [(5,7),(5,8),(6,7),(6,8)] fun K hK=>?_)|(apply zf 30 [(5,6),(9,6),(9,10)] fun K hK=>?_)|(apply zf 34 [(3,12),(3,18),(3,20),(11,12),(17,12),(17,18)] fun K hK=>?_)|(apply zw ?_;try intro _)|(apply zx ?_ ?_<;>clear hK K)|apply WpT.step ?_|apply zo rfl ?_|apply Wp.block ?_|apply zh ?_|apply zk ?_)
   refine WpL.call rfl eVk eAk ?_;simp only[List.cons_append,List.nil_append,List.append_nil]
   refine zr.mono ?_ hput
   generalize hpu:zm ⟨3,16 * (s.loops:Int)+1+j,[]⟩ sj=pu at *
   have hpuv:pu.2.vars=sj.vars:=by rw[← hpu];rfl
   have hpul:pu.2.loops=sj.loops:=by rw[← hpu];rfl
   have hwl2:w < pu.2.vars.length:=by rw[hpuv];exact hwl1
   rintro u H7 ⟨rfl,S7,lv7,R7,F7⟩
   obtain⟨q',hix',hld',H8,hst,hq1,hq2,hq3,R8,F8,o8,n8⟩:=R7.setV hwl2 pu.1
   have hqq:q'=qv:=by
    rw[ixv]at hix'
    simp only[Option.some.injEq,AV.ptr.injEq]at hix'
    exact hix'.1.symm
   subst hqq
   have A8:=(A'.fr (X:=X) (by omega) (by omega) F7).fr (X:=X) (by omega) (by omega) F8
   have W8:=(W'.fr (X:=X) (by omega) (by omega) F7).fr (X:=X) (by omega) (by omega) F8
   have F08:=F'.trans (F7.trans F8)
   have m7:=R7.m
   have m8:=R8.m
   have n7:=F7.next
   have nj8:Hj.next≤H8.next:=by omega
   have hjv':(pu.2.vars.set w pu.1).length=r.2.vars.length:=by rw[List.length_set,hpuv];exact hjv
   have hjo':∀ i,i∉ws.take j++[w]→(pu.2.vars.set w pu.1)[i]?=r.2.vars[i]?:=fun i hi=>by
    rw[List.mem_append,not_or,List.mem_singleton]at hi
    rw[List.getElem?_set,if_neg (fun e=>hi.2 e.symm),hpuv]
    exact hjo i hi.1
   have hjl':pu.2.loops=r.2.loops:=by rw[hpul];exact hjl
   have hmap:(r.2.state::(ws.take j).map fun i=>r.2.vars.getD i 0)++[y]=r.2.state::(ws.take j++[w]).map fun i=>r.2.vars.getD i 0:=by rw[List.map_append,List.map_cons,List.map_nil,hy];rfl
   rw[hmap]at W8
   clear hpuv hpul hmap hjo hjv hjl hix' A' W' F' hpu hld'
   dsimp only[lc]at m7 m8
   dsimp only[zA]
   repeat' (first
    | (apply Rx.nl ?_;clear hK K)|apply Rx.o ?_|apply Rx.on ?_|apply Wp.seq ?_|(apply zd fun K hK=>?_)|(apply zf 19 [(3,11),(3,13)] fun K hK=>?_)|(apply zaG 23 [0,2,3,4,5,6,7,1,8,9] [(5,7),(5,8),(6,7),(6,8)] fun K hK=>?_)|(apply zf 30 [(5,6),(9,6),(9,10)] fun K hK=>?_)|(apply zf 34 [(3,12),(3,18),(3,20),(11,12),(17,12),(17,18)] fun K hK=>?_)|(apply zw ?_;try intro _)|(apply zx ?_ ?_<;>clear hK K)|apply WpT.step ?_|apply zo rfl ?_|apply Wp.block ?_|apply zh ?_|apply zk ?_)
   ·exact eK
   ·refine⟨by omega,eL,eL,eN,(by simp only[sB,Nat.reduceBEq, *];exact zT (n:=ws.length) (by omega) (by omega)),?_⟩
    exact⟨v',_,S7,lv7,eE,hJ,hjl',hjv',hjo',R8,F08,A8,W8,d'⟩
  ·have hlt':¬ (j:Int) < ws.length:=by omega
   have hd:ws.drop j=[]:=List.drop_eq_nil_of_le (by omega)
   have ht:ws.take j=ws:=List.take_of_length_le (by omega)
   rw[hd]at hJ
   rw[ht]at Wj
   have hJ:sj=lvL (16 * (s.loops:Int)+1) ws 0 { p.2 with state:=p.1 }:=hJ
   rw[← hJ]at hFl h3
   have gj:=FrL.box hR Fj
   have nj2:H.next+1≤Hj.next:=Fj.next
   clear hJ hd ht hjo
   repeat' (first
    | (apply Rx.nl ?_;clear hK K)|apply Ry.o ?_|(apply Ry.cd (fun hb hbp=>?_) (fun hb hbp=>?_)<;>try (cases hb;done))|apply Wp.seq ?_|(apply zd fun K hK=>?_)|(apply zf 19 [(3,11),(3,13)] fun K hK=>?_)|(apply zaG 23 [0,2,3,4,5,6,7,1,8,9] [(5,7),(5,8),(6,7),(6,8)] fun K hK=>?_)|(apply zf 30 [(5,6),(9,6),(9,10)] fun K hK=>?_)|(apply zf 34 [(3,12),(3,18),(3,20),(11,12),(17,12),(17,18)] fun K hK=>?_)|(apply zw ?_;try intro _)|(apply zx ?_ ?_<;>clear hK K)|apply WpT.step ?_|apply zo rfl ?_|apply Wp.block ?_|apply zh ?_|apply zk ?_)
   refine WpL.call rfl eVk eAk ?_;simp only[List.cons_append,List.nil_append,List.append_nil]
   refine zr.mono ?_ (IH x.thn sj t h3 hFt (by omega) (by omega) Rj)
   rintro u H6 ⟨S6,lv6,vv6,R6,F6⟩
   have A6:=Aj.fr (X:=X) (by omega) (by omega) F6
   have W6:=Wj.fr (X:=X) (by omega) (by omega) F6
   have F06:=Fj.trans F6
   have nj6:H2.next+1≤H6.next:=Nat.le_trans nj F6.next
   have g6:=FrL.box hR F06
   clear Rj Fj Aj Wj F6 gj mj
   dsimp only[zA]
   repeat' (first
    | (apply Rx.nl ?_;clear hK K)|apply Rx.o ?_|apply Rx.on ?_|apply Wp.seq ?_|(apply zd fun K hK=>?_)|(apply zf 19 [(3,11),(3,13)] fun K hK=>?_)|(apply zaG 23 [0,2,3,4,5,6,7,1,8,9] [(5,7),(5,8),(6,7),(6,8)] fun K hK=>?_)|(apply zf 30 [(5,6),(9,6),(9,10)] fun K hK=>?_)|(apply zf 34 [(3,12),(3,18),(3,20),(11,12),(17,12),(17,18)] fun K hK=>?_)|(apply zw ?_;try intro _)|(apply zx ?_ ?_<;>clear hK K)|apply WpT.step ?_|apply zo rfl ?_|apply Wp.block ?_|apply zh ?_|apply zk ?_)
   refine WpL.call rfl eVk eAk ?_;simp only[List.cons_append,List.nil_append,List.append_nil]
   refine zr.mono ?_ (zaM hG hX n x.value t d h4 hFd R6 (FrL.refl _ _ _ _))
   rintro u H7 ⟨rfl,S7,lv7,R7,F7⟩
   have A7:=A6.fr (X:=X) (by omega) (by omega) F7
   have W7:=W6.fr (X:=X) (by omega) (by omega) F7
   have F07:=F06.trans F7
   have m7:=R7.m
   have n7:H.next+1≤H7.next:=F07.next
   have nj7:H2.next+1≤H7.next:=Nat.le_trans nj6 F7.next
   clear R6 F06 A6 W6 F7 g6
   dsimp only[lc]at m7
   dsimp only[zA]
   have Rs:=R7.alloc (.cells [.int .i64 d.1,.int .i64 d.2.state] 0 true)
   have Ws:RowL S7 vv6 (H2.next+1) (H7.alloc (.cells [.int .i64 d.1,.int .i64 d.2.state] 0 true)) wv (r.2.state::ws.map fun i=>r.2.vars.getD i 0):=⟨W7.r.keep (Nat.le_succ _) fun k hk=>by rw[za,if_neg (by have:=(W7.r.lt hk).2;omega)],W7.n⟩
   have hwlen:(r.2.state::ws.map fun i=>r.2.vars.getD i 0).length < 2 ^ 37:=by simp only[List.length_cons,List.length_map];omega
   obtain⟨cv,H8,a8,c8,n8,q8⟩:=copyI Ws.r (by omega)
   simp only[zb]at c8 n8 q8
   have c8b:zew H8 cv (r.2.state::ws.map fun i=>r.2.vars.getD i 0) (H7.next+1):=by
    rcases c8 with ⟨_,h⟩|h
    ·simp at h
    ·exact h.b
   have g8s:H8.get H7.next=some (.cells [.int .i64 d.1,.int .i64 d.2.state] 0 true):=by rw[q8 _ (by omega),za,if_pos rfl]
   obtain⟨kv,H9,a9,c9,n9,l9,f9,o9⟩:=zlm (m:=[d.1,d.2.state]) (w:=.sl H7.next 0 2 1) (lo':=0) c8b n8 (.inr ⟨H7.next,0,rfl,g8s,by simp,Nat.zero_le _,by omega⟩) (by simp only[List.length_cons,List.length_nil]at hwlen ⊢;omega)
   have hq9:∀ k,k < H7.next→H9.get k=H7.get k:=fun k hk=>by rw[l9 k (by omega),q8 k (by omega),za,if_neg (by omega)]
   have n79:H7.next≤H9.next:=by omega
   have R9:RepL X H9 S7 d.2 lv7 vv6:=R7.keep n79 fun k h _=>hq9 k h
   have F9:FrL X S7 vv6 H7 S7 vv6 H9:=⟨n79,fun k h _ _ _ _=>hq9 k h,fun _ h=>.inl h,fun _ h=>.inl h⟩
   have A9:=A7.fr (X:=X) (by omega) (by omega) F9
   have W9:=W7.fr (X:=X) (by omega) (by omega) F9
   have K9:RowL S7 vv6 (H2.next+1) H9 kv (r.2.state::(ws.map fun i=>r.2.vars.getD i 0)++[d.1,d.2.state]):=⟨.inr (by obtain⟨r0,i0,z1,z2,z3,z4,z5⟩:=c9;exact⟨r0,i0,z1,z2,z3,by omega,z5⟩),fun k hk=>by
    have:=R7.new (r:=k) (by have:=(c9.lt hk).1;omega)
    exact⟨this.1,this.2.1⟩⟩
   have dA9:∀ k,yq a k→¬ yq kv k:=fun k h1 h2=>by have:=(A7.r.lt h1).2;have:=(c9.lt h2).1;omega
   have dW9:∀ k,yq wv k→¬ yq kv k:=fun k h1 h2=>by have:=(W7.r.lt h1).2;have:=(c9.lt h2).1;omega
   have F09:=F07.trans F9
   have m9:=R9.m
   have l9a:=fun H'=>A9.r.len' (H':=H')
   rw[List.length_map]at l9a
   dsimp only[lc]at m9
   have ms:=Rs.m
   have m8x:=ms
   rw[← q8 _ (by have:=R7.o5;omega)]at m8x
   dsimp only[lc]at ms m8x
   clear R7 F07 A7 W7 F9 Rs Ws hq9
   repeat' (first
    | (apply Rx.nl ?_;clear hK K)|apply Rx.o ?_|apply Rx.on ?_|apply Wp.seq ?_|(apply zd fun K hK=>?_)|(apply zf 19 [(3,11),(3,13)] fun K hK=>?_)|(apply zaG 23 [0,2,3,4,5,6,7,1,8,9] [(5,7),(5,8),(6,7),(6,8)] fun K hK=>?_)|(apply zf 30 [(5,6),(9,6),(9,10)] fun K hK=>?_)|(apply zf 34 [(3,12),(3,18),(3,20),(11,12),(17,12),(17,18)] fun K hK=>?_)|(apply zw ?_;try intro _)|(apply zx ?_ ?_<;>clear hK K)|apply WpT.step ?_|apply zo rfl ?_|apply Wp.block ?_|apply zh ?_|apply zk ?_)
   ·exact eK
   ·clear a8 a9 c8 c8b g8s l9 f9 o9 q8 hwlen c9
    have hdv:∀ w,w < r.2.vars.length→d.2.vars[w]?=some (d.2.vars.getD w 0):=fun w hw=>by
     rw[List.getD_eq_getElem?_getD,List.getElem?_eq_getElem (by omega)];rfl
    have hwj0:∀ j,j < ws.length→ws.getD j 0 < r.2.vars.length:=fun j hlt=>hwm _ (by rw[List.getD_eq_getElem?_getD,List.getElem?_eq_getElem hlt];exact List.getElem_mem hlt)
    refine yd [0,4,5,7,9,119,120] [] 121 ws.length (fun j E Hj=>∃ kj,E.at 13=kj∧RepL X Hj S7 d.2 lv7 vv6∧FrL X S vv (H.alloc (.cells x.cells 0 true)) S7 vv6 Hj∧RowL S7 vv6 (H2.next+1) Hj a (zkh ws)∧RowL S7 vv6 (H2.next+1) Hj wv (r.2.state::ws.map fun i=>r.2.vars.getD i 0)∧RowL S7 vv6 (H2.next+1) Hj kj (r.2.state::(ws.map fun i=>r.2.vars.getD i 0)++[d.1,d.2.state]++((ws.take j).map fun i=>d.2.vars.getD i 0))∧(∀ k,yq a k→¬ yq kj k)∧∀ k,yq wv k→¬ yq kj k) eE ⟨kv,eE,R9,F09,A9,W9,by rw[List.take_zero,List.map_nil,List.append_nil];exact K9,dA9,dW9⟩ ?_
    clear R9 F09 A9 W9 K9 dA9 dW9 m9
    rintro j E Hj hj hcE hrH hnH hsI ⟨kj,k13,Rj,Fj,Aj,Wj,Kj,dAj,dWj⟩
    (try simp only[zi,zl,and_true,sB,sO,Nat.reduceBEq,Nat.reduceAdd,Nat.reduceLeDiff,tyF, *]at hcE)
    (try simp only[zi,zl,and_true,sB,sO,Nat.reduceBEq,Nat.reduceAdd,Nat.reduceLeDiff,tyF, *]at hrH)
    (try simp only[zb,ze,zH,Nat.zero_add,Nat.reduceAdd]at hnH)
    have mj:=Rj.m
    dsimp only[lc]at mj
    have nj:H2.next+1≤Hj.next:=by omega
    by_cases hlt:j < ws.length
    ·have hlt':(j:Int) < ws.length:=by omega
     have hwj:=haw j hlt
     have hvj:=hdv _ (hwj0 j hlt)
     have htj:=htk j hlt
     rw[htj]
     generalize ws.getD j 0=w at *
     generalize hy:d.2.vars.getD w 0=y at *
     obtain⟨qa,ixa,lda⟩:=Aj.at hwj
     obtain⟨qv,ixv,ldv⟩:=Rj.atV hvj
     obtain⟨v',H',a1,K',R',n',q',own'⟩:=Kj.app1 Rj nj y (by omega) (by simp only[List.length_append,List.length_cons,List.length_map,List.length_take,List.length_nil];omega)
     have A':=Aj.other n' q' dAj
     have W':=Wj.other n' q' dWj
     have F':=Fj.other n' q' (fun k hk=>by have:=(Kj.r.lt hk).1;simp only[zb];omega)
     have dA':∀ k,yq a k→¬ yq v' k:=fun k h1 h2=>by
      rcases own' k h2 with e|e
      ·exact dAj k h1 e
      ·have:=(Aj.r.lt h1).2;omega
     have dW':∀ k,yq wv k→¬ yq v' k:=fun k h1 h2=>by
      rcases own' k h2 with e|e
      ·exact dWj k h1 e
      ·have:=(Wj.r.lt h1).2;omega
     have hmap:(r.2.state::(ws.map fun i=>r.2.vars.getD i 0)++[d.1,d.2.state]++((ws.take j).map fun i=>d.2.vars.getD i 0))++[y]=r.2.state::(ws.map fun i=>r.2.vars.getD i 0)++[d.1,d.2.state]++((ws.take j++[w]).map fun i=>d.2.vars.getD i 0):=by rw[List.map_append,List.map_cons,List.map_nil,hy];simp
     rw[hmap]at K'
     clear hmap dAj dWj Aj Wj Kj q' own' Rj hvj
     repeat' (first
      | (apply Rx.nl ?_;clear hK K)|apply Ry.o ?_|(apply Ry.cd (fun hb hbp=>?_) (fun hb hbp=>?_)<;>try (cases hb;done))|apply Wp.seq ?_|(apply zd fun K hK=>?_)|(apply zf 19 [(3,11),(3,13)] fun K hK=>?_)|(apply zaG 23 [0,2,3,4,5,6,7,1,8,9] [(5,7),(5,8),(6,7),(6,8)] fun K hK=>?_)|(apply zf 30 [(5,6),(9,6),(9,10)] fun K hK=>?_)|(apply zf 34 [(3,12),(3,18),(3,20),(11,12),(17,12),(17,18)] fun K hK=>?_)|(apply zw ?_;try intro _)|(apply zx ?_ ?_<;>clear hK K)|apply WpT.step ?_|apply zo rfl ?_|apply Wp.block ?_|apply zh ?_|apply zk ?_)
     refine⟨by omega,eL,eL,eN,(by simp only[sB,Nat.reduceBEq, *];exact zT (n:=ws.length) (by omega) (by omega)),?_⟩
     exact⟨v',eE,R',F',A',W',K',dA',dW'⟩
    ·have hlt':¬ (j:Int) < ws.length:=by omega
     have ht:ws.take j=ws:=List.take_of_length_le (by omega)
     rw[ht]at Kj
     clear ht
     have hput:=ziB hG Rj ⟨31,s.loops,r.2.state::(ws.map fun i=>r.2.vars.getD i 0)++[d.1,d.2.state]++(ws.map fun i=>d.2.vars.getD i 0)⟩ (by rcases Kj.r with h|⟨r0,i0,z1,z2,z3,z4,z5⟩;exact .inl h;exact .inr ⟨r0,i0,z1,z2,z3,Nat.zero_le _,z5⟩) (fun k hk=>⟨by have:=(Kj.r.lt hk).1;omega,Kj.n k hk⟩) (by rw[← hk]at hFk;exact hFk.r) hFd.l
     repeat' (first
      | (apply Rx.nl ?_;clear hK K)|apply Ry.o ?_|(apply Ry.cd (fun hb hbp=>?_) (fun hb hbp=>?_)<;>try (cases hb;done))|apply Wp.seq ?_|(apply zd fun K hK=>?_)|(apply zf 19 [(3,11),(3,13)] fun K hK=>?_)|(apply zaG 23 [0,2,3,4,5,6,7,1,8,9] [(5,7),(5,8),(6,7),(6,8)] fun K hK=>?_)|(apply zf 30 [(5,6),(9,6),(9,10)] fun K hK=>?_)|(apply zf 34 [(3,12),(3,18),(3,20),(11,12),(17,12),(17,18)] fun K hK=>?_)|(apply zw ?_;try intro _)|(apply zx ?_ ?_<;>clear hK K)|apply WpT.step ?_|apply zo rfl ?_|apply Wp.block ?_|apply zh ?_|apply zk ?_)
     refine WpL.call rfl eVk eAk ?_;simp only[List.cons_append,List.nil_append,List.append_nil]
     refine zr.mono ?_ hput
     rintro u H10 ⟨rfl,S10,lv10,R10,n10,q10,s10⟩
     rw[hk]at R10 ⊢
     have F10:FrL X S vv (H.alloc (.cells x.cells 0 true)) S10 vv6 H10:=⟨Nat.le_trans Fj.next n10,fun k h1 h2 h3 h4 h5=>by
      rw[q10 k (Nat.lt_of_lt_of_le h1 Fj.next) h2 h3 fun e=>by
       rcases Fj.sub k e with e|e
       ·exact h4 e
       ·omega]
      exact Fj.get k h1 h2 h3 h4 h5,fun k e=>by
      rcases s10 k e with e|e|e
      ·exact Fj.sub k e
      ·exact .inr (by have:=(Kj.r.lt e).1;simp only[zb];omega)
      ·exact .inr (Nat.le_trans Fj.next e),Fj.own⟩
     have A10:RowL S10 vv6 (H2.next+1) H10 a (zkh ws):=⟨Aj.r.keep n10 fun k hk=>q10 k (Aj.r.lt hk).2 (by have:=(Aj.r.lt hk).1;omega) (by have:=(Aj.r.lt hk).1;omega) (Aj.n k hk).1,fun k hk=>⟨fun e=>by
      rcases s10 k e with e|e|e
      ·exact(Aj.n k hk).1 e
      ·exact dAj k hk e
      ·have:=(Aj.r.lt hk).2;omega,(Aj.n k hk).2⟩⟩
     have W10:RowL S10 vv6 (H2.next+1) H10 wv (r.2.state::ws.map fun i=>r.2.vars.getD i 0):=⟨Wj.r.keep n10 fun k hk=>q10 k (Wj.r.lt hk).2 (by have:=(Wj.r.lt hk).1;omega) (by have:=(Wj.r.lt hk).1;omega) (Wj.n k hk).1,fun k hk=>⟨fun e=>by
      rcases s10 k e with e|e|e
      ·exact(Wj.n k hk).1 e
      ·exact dWj k hk e
      ·have:=(Wj.r.lt hk).2;omega,(Wj.n k hk).2⟩⟩
     clear Rj Fj Aj Wj Kj dAj dWj q10 s10 hput mj
     dsimp only[zA]
     have nw10:=R10.new (Nat.le_refl _)
     have R10a:=R10.alloc (.cells [.int .i64 k.1] 0 true)
     have hput:=ziD hG R10a ((FrL.refl _ _ _ _).alloc _) ⟨25,0,[k.1]⟩ rfl (by rw[za,if_pos rfl];rfl) (Nat.le_refl _) (Nat.lt_succ_self _) nw10.2.2 nw10.1 nw10.2.1 hFf' rfl rfl
     have hW0:(r.2.state::ws.map fun i=>r.2.vars.getD i 0)[0]?=some r.2.state:=rfl
     have W10a:RowL S10 vv6 (H2.next+1) (H10.alloc (.cells [.int .i64 k.1] 0 true)) wv (r.2.state::ws.map fun i=>r.2.vars.getD i 0):=⟨W10.r.keep (Nat.le_succ _) fun k hk=>by rw[za,if_neg (by have:=(W10.r.lt hk).2;omega)],W10.n⟩
     have A10a:RowL S10 vv6 (H2.next+1) (H10.alloc (.cells [.int .i64 k.1] 0 true)) a (zkh ws):=⟨A10.r.keep (Nat.le_succ _) fun k hk=>by rw[za,if_neg (by have:=(A10.r.lt hk).2;omega)],A10.n⟩
     obtain⟨q0,ix0,ld0⟩:=W10a.at hW0
     rw[show((0:Nat):Int)=0 from rfl]at ix0
     repeat' (first
      | (apply Rx.nl ?_;clear hK K)|apply Rx.o ?_|apply Rx.on ?_|apply Wp.seq ?_|(apply zd fun K hK=>?_)|(apply zf 19 [(3,11),(3,13)] fun K hK=>?_)|(apply zaG 23 [0,2,3,4,5,6,7,1,8,9] [(5,7),(5,8),(6,7),(6,8)] fun K hK=>?_)|(apply zf 30 [(5,6),(9,6),(9,10)] fun K hK=>?_)|(apply zf 34 [(3,12),(3,18),(3,20),(11,12),(17,12),(17,18)] fun K hK=>?_)|(apply zw ?_;try intro _)|(apply zx ?_ ?_<;>clear hK K)|apply WpT.step ?_|apply zo rfl ?_|apply Wp.block ?_|apply zh ?_|apply zk ?_)
     refine WpL.call rfl eVk eAk ?_;simp only[List.cons_append,List.nil_append,List.append_nil]
     refine zr.mono ?_ hput
     rintro u H11 ⟨⟨rfl,S11,lv11,R11,F11⟩,n11⟩
     simp only[zb]at n11
     have W11:=W10.fr (X:=X) (by omega) (by omega) F11
     have A11:=A10.fr (X:=X) (by omega) (by omega) F11
     obtain⟨q0',ix0',ld0'⟩:=W11.at hW0
     rw[show((0:Nat):Int)=0 from rfl,ix0]at ix0'
     simp only[Option.some.injEq,AV.ptr.injEq,and_true]at ix0'
     subst ix0'
     have hFm2:Fin (zt r.1 (zm ⟨25,0,[k.1]⟩ k.2).1 r.2.state (zm ⟨25,0,[k.1]⟩ k.2).2).2:=by rw[hm'];exact hFm'
     dsimp only[zA]
     repeat' (first
      | (apply Rx.nl ?_;clear hK K)|apply Rx.o ?_|apply Rx.on ?_|apply Wp.seq ?_|(apply zd fun K hK=>?_)|(apply zf 19 [(3,11),(3,13)] fun K hK=>?_)|(apply zaG 23 [0,2,3,4,5,6,7,1,8,9] [(5,7),(5,8),(6,7),(6,8)] fun K hK=>?_)|(apply zf 30 [(5,6),(9,6),(9,10)] fun K hK=>?_)|(apply zf 34 [(3,12),(3,18),(3,20),(11,12),(17,12),(17,18)] fun K hK=>?_)|(apply zw ?_;try intro _)|(apply zx ?_ ?_<;>clear hK K)|apply WpT.step ?_|apply zo rfl ?_|apply Wp.block ?_|apply zh ?_|apply zk ?_)
     refine WpL.call rfl eVk eAk ?_;simp only[List.cons_append,List.nil_append,List.append_nil]
     refine zr.mono ?_ (zc2 hG R11 (FrL.refl _ _ _ _) r.1 _ r.2.state hFm2)
     rw[hm']
     rintro u H12 ⟨rfl,S12,lv12,R12,F12⟩
     have m12:=R12.m
     obtain⟨R13,F13⟩:=R12.setS m'.1
     have F0:=F10.trans (F11.trans (F12.trans F13))
     have A13:=(A11.fr (X:=X) (by omega) (by omega) F12).fr (X:=X) (by omega) (by omega) F13
     have W13:=(W11.fr (X:=X) (by omega) (by omega) F12).fr (X:=X) (by omega) (by omega) F13
     have n12:=F12.next
     have l13:=fun H'=>A13.r.len' (H':=H')
     rw[List.length_map]at l13
     dsimp only[lc]at m12 R13 F0 A13 W13
     dsimp only[zA]
     have m13:=R13.m
     dsimp only[lc]at m13
     repeat' (first
      | (apply Rx.nl ?_;clear hK K)|apply Rx.o ?_|apply Rx.on ?_|apply Wp.seq ?_|(apply zd fun K hK=>?_)|(apply zf 19 [(3,11),(3,13)] fun K hK=>?_)|(apply zaG 23 [0,2,3,4,5,6,7,1,8,9] [(5,7),(5,8),(6,7),(6,8)] fun K hK=>?_)|(apply zf 30 [(5,6),(9,6),(9,10)] fun K hK=>?_)|(apply zf 34 [(3,12),(3,18),(3,20),(11,12),(17,12),(17,18)] fun K hK=>?_)|(apply zw ?_;try intro _)|(apply zx ?_ ?_<;>clear hK K)|apply WpT.step ?_|apply zo rfl ?_|apply Wp.block ?_|apply zh ?_|apply zk ?_)
     ·exact eK
     ·have hw13:m'.2.vars.length=r.2.vars.length:=by rw[hm'v,hdl]
      refine yd [0,5,9,16,153,154] [] 155 ws.length (fun j E Hj=>∃ sj Sj lvj,lrL k.1 r.1 r.2.vars (ws.drop j) (j+1) sj=lrL k.1 r.1 r.2.vars ws 1 { m'.2 with state:=m'.1 } ∧ sj.vars.length=r.2.vars.length∧RepL X Hj Sj sj lvj vv6∧FrL X S vv (H.alloc (.cells x.cells 0 true)) Sj vv6 Hj∧RowL Sj vv6 (H2.next+1) Hj a (zkh ws)∧RowL Sj vv6 (H2.next+1) Hj wv (r.2.state::ws.map fun i=>r.2.vars.getD i 0)) eE ⟨{ m'.2 with state:=m'.1 },S12,lv12,by rw[List.drop_zero],hw13,R13,F0,A13,W13⟩ ?_
      clear R13 F0 A13 W13 m13 m12 hw13 R12 F12 F13 hdl hdl0 hm'v hdv
      rintro i3 E3 Hi3 hi3 hcE hrH hnH hsI ⟨sj,Sj,lvj,hJ,hjv,Rj,Fj,Aj,Wj⟩
      (try simp only[zi,zl,and_true,sB,sO,Nat.reduceBEq,Nat.reduceAdd,Nat.reduceLeDiff,tyF, *]at hcE)
      (try simp only[zi,zl,and_true,sB,sO,Nat.reduceBEq,Nat.reduceAdd,Nat.reduceLeDiff,tyF, *]at hrH)
      (try simp only[zb,ze,zH,Nat.zero_add,Nat.reduceAdd]at hnH)
      have mj:=Rj.m
      dsimp only[lc]at mj
      have nj:H2.next+1≤Hi3.next:=by omega
      by_cases hlt:i3 < ws.length
      ·have hlt':(i3:Int) < ws.length:=by omega
       have hwj:=haw i3 hlt
       have hwl1:ws.getD i3 0 < sj.vars.length:=by rw[hjv];exact hwj0 i3 hlt
       have hold:(r.2.state::ws.map fun i=>r.2.vars.getD i 0)[i3+1]?=some (r.2.vars.getD (ws.getD i3 0) 0):=by
        rw[List.getElem?_cons_succ,List.getElem?_map,List.getD_eq_getElem?_getD (l:=ws),List.getElem?_eq_getElem hlt];rfl
       rw[hdr i3 hlt,zfT]at hJ
       generalize ws.getD i3 0=w at *
       generalize r.2.vars.getD w 0=y at *
       have hsx:IntKind.wrap .i64 ((i3:Int)+1)=((i3+1:Nat):Int):=z9 (by omega)
       have hFq:Fin (zt r.1 (zm ⟨25,((i3+1:Nat):Int),[k.1]⟩ sj).1 y (zm ⟨25,((i3+1:Nat):Int),[k.1]⟩ sj).2).2:=hF.le (by rw[← hJ];exact((Le.refl _).setV _).trans (zfc _ _ _ _ _ _).1)
       have hFq0:Fin (zm ⟨25,((i3+1:Nat):Int),[k.1]⟩ sj).2:=hFq.le (yf _ _ _ _).le
       have nwj:=Rj.new (Nat.le_refl _)
       have Rja:=Rj.alloc (.cells [.int .i64 k.1] 0 true)
       have hput:=ziD hG Rja ((FrL.refl _ _ _ _).alloc _) ⟨25,((i3+1:Nat):Int),[k.1]⟩ rfl (by rw[za,if_pos rfl];rfl) (Nat.le_refl _) (Nat.lt_succ_self _) nwj.2.2 nwj.1 nwj.2.1 hFq0 rfl rfl
       obtain⟨qa,ixa,lda⟩:=Aj.at hwj
       have Wja:RowL Sj vv6 (H2.next+1) (Hi3.alloc (.cells [.int .i64 k.1] 0 true)) wv (r.2.state::ws.map fun i=>r.2.vars.getD i 0):=⟨Wj.r.keep (Nat.le_succ _) fun k hk=>by rw[za,if_neg (by have:=(Wj.r.lt hk).2;omega)],Wj.n⟩
       obtain⟨qw,ixw,ldw⟩:=Wja.at hold
       have hxv:∀ v2,sj.vars[w]?=some v2→True:=fun _ _=>trivial
       clear hxv
       obtain⟨qv,ixv,ldv,_⟩:=Rj.setV hwl1 0
       have mja:=Rja.m
       dsimp only[lc]at mja
       repeat' (first
        | (apply Rx.nl ?_;clear hK K)|apply Ry.o ?_|(apply Ry.cd (fun hb hbp=>?_) (fun hb hbp=>?_)<;>try (cases hb;done))|apply Wp.seq ?_|(apply zd fun K hK=>?_)|(apply zf 19 [(3,11),(3,13)] fun K hK=>?_)|(apply zaG 23 [0,2,3,4,5,6,7,1,8,9] [(5,7),(5,8),(6,7),(6,8)] fun K hK=>?_)|(apply zf 30 [(5,6),(9,6),(9,10)] fun K hK=>?_)|(apply zf 34 [(3,12),(3,18),(3,20),(11,12),(17,12),(17,18)] fun K hK=>?_)|(apply zw ?_;try intro _)|(apply zx ?_ ?_<;>clear hK K)|apply WpT.step ?_|apply zo rfl ?_|apply Wp.block ?_|apply zh ?_|apply zk ?_)
       refine WpL.call rfl eVk eAk ?_;simp only[List.cons_append,List.nil_append,List.append_nil]
       refine zr.mono ?_ hput
       rintro u H14 ⟨⟨rfl,S14,lv14,R14,F14⟩,n14⟩
       simp only[zb]at n14
       have W14:=Wj.fr (X:=X) (by omega) (by omega) F14
       have A14:=Aj.fr (X:=X) (by omega) (by omega) F14
       obtain⟨qw',ixw',ldw'⟩:=W14.at hold
       rw[ixw]at ixw'
       simp only[Option.some.injEq,AV.ptr.injEq,and_true]at ixw'
       subst ixw'
       have m14:=R14.m
       dsimp only[lc]at m14
       dsimp only[zA]
       repeat' (first
        | (apply Rx.nl ?_;clear hK K)|apply Rx.o ?_|apply Rx.on ?_|apply Wp.seq ?_|(apply zd fun K hK=>?_)|(apply zf 19 [(3,11),(3,13)] fun K hK=>?_)|(apply zaG 23 [0,2,3,4,5,6,7,1,8,9] [(5,7),(5,8),(6,7),(6,8)] fun K hK=>?_)|(apply zf 30 [(5,6),(9,6),(9,10)] fun K hK=>?_)|(apply zf 34 [(3,12),(3,18),(3,20),(11,12),(17,12),(17,18)] fun K hK=>?_)|(apply zw ?_;try intro _)|(apply zx ?_ ?_<;>clear hK K)|apply WpT.step ?_|apply zo rfl ?_|apply Wp.block ?_|apply zh ?_|apply zk ?_)
       refine WpL.call rfl eVk eAk ?_;simp only[List.cons_append,List.nil_append,List.append_nil]
       refine zr.mono ?_ (zc2 hG R14 (FrL.refl _ _ _ _) r.1 _ y hFq)
       generalize hmq:zt r.1 (zm ⟨25,((i3+1:Nat):Int),[k.1]⟩ sj).1 y (zm ⟨25,((i3+1:Nat):Int),[k.1]⟩ sj).2=mq at *
       have hmqv:mq.2.vars=sj.vars:=by rw[← hmq,(yf _ _ _ _).v];rfl
       have hwl2:w < mq.2.vars.length:=by rw[hmqv];exact hwl1
       rintro u H15 ⟨rfl,S15,lv15,R15,F15⟩
       obtain⟨q',hix',hld',H16,hst,hq1,hq2,hq3,R16,F16,o16,n16⟩:=R15.setV hwl2 mq.1
       have hqq:q'=qv:=by
        rw[ixv]at hix'
        simp only[Option.some.injEq,AV.ptr.injEq]at hix'
        exact hix'.1.symm
       subst hqq
       have W16:=(W14.fr (X:=X) (by omega) (by omega) F15).fr (X:=X) (by omega) (by omega) F16
       have A16:=(A14.fr (X:=X) (by omega) (by omega) F15).fr (X:=X) (by omega) (by omega) F16
       have F016:=Fj.trans (F14.trans (F15.trans F16))
       have m15:=R15.m
       have m16:=R16.m
       have n15:=F15.next
       have nj16:Hi3.next≤H16.next:=by omega
       have hjv':(mq.2.vars.set w mq.1).length=r.2.vars.length:=by rw[List.length_set,hmqv];exact hjv
       clear hmqv hjv hix' hld' hmq A14 W14 Aj Wj Fj Rj hput R14
       dsimp only[lc]at m15 m16
       dsimp only[zA]
       repeat' (first
        | (apply Rx.nl ?_;clear hK K)|apply Rx.o ?_|apply Rx.on ?_|apply Wp.seq ?_|(apply zd fun K hK=>?_)|(apply zf 19 [(3,11),(3,13)] fun K hK=>?_)|(apply zaG 23 [0,2,3,4,5,6,7,1,8,9] [(5,7),(5,8),(6,7),(6,8)] fun K hK=>?_)|(apply zf 30 [(5,6),(9,6),(9,10)] fun K hK=>?_)|(apply zf 34 [(3,12),(3,18),(3,20),(11,12),(17,12),(17,18)] fun K hK=>?_)|(apply zw ?_;try intro _)|(apply zx ?_ ?_<;>clear hK K)|apply WpT.step ?_|apply zo rfl ?_|apply Wp.block ?_|apply zh ?_|apply zk ?_)
       ·exact eK
       ·refine⟨by omega,eL,eL,eN,(by simp only[sB,Nat.reduceBEq, *]),?_⟩
        exact⟨_,S15,lv15,hJ,hjv',R16,F016,A16,W16⟩
      ·have hlt':¬ (i3:Int) < ws.length:=by omega
       have hd:ws.drop i3=[]:=List.drop_eq_nil_of_le (by omega)
       rw[hd]at hJ
       have hJ:sj=lrL k.1 r.1 r.2.vars ws 1 { m'.2 with state:=m'.1 }:=hJ
       repeat' (first
        | (apply Rx.nl ?_;clear hK K)|apply Ry.o ?_|(apply Ry.cd (fun hb hbp=>?_) (fun hb hbp=>?_)<;>try (cases hb;done))|apply Wp.seq ?_|(apply zd fun K hK=>?_)|(apply zf 19 [(3,11),(3,13)] fun K hK=>?_)|(apply zaG 23 [0,2,3,4,5,6,7,1,8,9] [(5,7),(5,8),(6,7),(6,8)] fun K hK=>?_)|(apply zf 30 [(5,6),(9,6),(9,10)] fun K hK=>?_)|(apply zf 34 [(3,12),(3,18),(3,20),(11,12),(17,12),(17,18)] fun K hK=>?_)|(apply zw ?_;try intro _)|(apply zx ?_ ?_<;>clear hK K)|apply WpT.step ?_|apply zo rfl ?_|apply Wp.block ?_|apply zh ?_|apply zk ?_)
       all_goals (refine⟨eI,_,eR,?_⟩;try simp only[zp])
       rw[← hJ]
       exact⟨Sj,lvj,vv6,Rj,F1.trans Fj⟩
end
end Go.Proofs.Ytpbcimfiofmoeaa
