/- Lemmas for the last file. -/
import Derived.Deep.Slices
import Derived.Test.YtbflaciihaijgaaGreatREN
import Derived.WideKeyArgs
import Derived.WideShapes
set_option linter.all false
set_option maxHeartbeats 32000000
namespace Go.Ab
set_option maxRecDepth 20000
open Go
variable{qb:Prop}
def NV(h:qb:=by first|rfl|(have e0:a1.1=0:=aa;simp only[e0])):=h
def Gp:=@Classical.axiomOfChoice
def CQ:=@List.nodup_append
def nj:=@List.not_mem_nil
def pu:=@or_false
end Go.Ab
namespace Go.Proofs.YtbflaciihaijgaaGreat
set_option maxRecDepth 20000
open Go Go.Ab Proofs.Tryz
variable{cfg:Cfg}{r:List (aS×Int)×MS}{b N:Nat}{H:Hp}{l:qp}
section
def tyW6b.tyF:=ac @cI (ac @eL (ac @jH (ac @pS (ac @tn (ac @tp (ac @dF (ac @og (@Kd))))))))
open tyW6b
noncomputable def CR:{c:SC // aG 16 (f140.body.getD .skip)=c}:=by
 refine⟨?_,?_⟩;rotate_left
 .simp only[f140,bE,aG,bz,bq,bF,bB,Nat.blt,Nat.ble];rfl
noncomputable def xm:{c:SC // aG 22 (f183.body.getD .skip)=c}:=by
 refine⟨?_,?_⟩;rotate_left
 .simp only[f183,bE,aG,bz,bq,bF,bB,Nat.blt,Nat.ble];rfl
noncomputable def xn:{c:SC // aG 27 (f182.body.getD .skip)=c}:=by
 refine⟨?_,?_⟩;rotate_left
 .simp only[f182,bE,aG,bz,bq,bF,bB,Nat.blt,Nat.ble];rfl
def vL(hS:Std cfg)(X:Mx)(s:MS)(ov:AV)(c:Int)(H:Hp)(j:zc9 X H s ov):
 aU prog cfg 140 [.ptr X.rm 0,.int .i64 c] H fun v H'=>zc9 X H' (iy c s) ov/\FrE X H H':=by
 have Y:=j.m;unfold fy at Y;by_cases I:s.aK=0
 .refine a5 (M:=16) (rs:=[]) ((hS.plain _ rfl).call _) (hS.plain _ rfl).ao (hS.plain _ rfl).am func140 rfl rfl CR.2 rfl ?_;dsimp only[CR,a3,Nat.reduceAdd];repeat' (first
   |(apply ai ?_;clear hK K)|apply Ry.o ?_|apply bP ?_|(apply a2 (fun z V=>?_) (fun z V=>?_)<;>try(cases z;done))|apply ae ?_|(apply ah fun K hK=>?_)|apply ak ?_)
  all_goals refine qq ?_
  have Z:∀a b,FrE X H ((H.set X.rm a).set X.rm b):=fun a b=>((iz _ _).set (.inl rfl) _).set (.inl rfl) _;refine⟨j.dG (Z _ _) ?_ ?_ ?_,Z _ _⟩
  .simp only[aO,bw,fy,iy,I]
  .simp only[iy,I,bw]
  .simp only[iy,I,bw]
 .refine a5 (M:=16) (rs:=[]) ((hS.plain _ rfl).call _) (hS.plain _ rfl).ao (hS.plain _ rfl).am func140 rfl rfl CR.2 rfl ?_;dsimp only[CR,a3,Nat.reduceAdd];repeat' (first
   |(apply ai ?_;clear hK K)|apply Ry.o ?_|apply bP ?_|(apply a2 (fun z V=>?_) (fun z V=>?_)<;>try(cases z;done))|apply ae ?_|(apply ah fun K hK=>?_)|apply ak ?_)
  all_goals refine qq ?_
  rw[iy,ad I];exact⟨j,iz _ _⟩
def NW(hS:Std cfg)(X:Mx)(s:MS)(ov:AV)(H:Hp)(j:zc9 X H s ov):
 aU prog cfg 183 [.ptr X.rm 0] H fun v H'=>zc9 X H' (ed s) ov/\FrE X H H':=by
 have U:=j.m;unfold fy at U;by_cases I:s.aK=0
 .by_cases Y:s.aC=0
  .refine a5 (M:=22) (rs:=[]) ((hS.plain _ rfl).call _) (hS.plain _ rfl).ao (hS.plain _ rfl).am func183 rfl rfl xm.2 rfl ?_;dsimp only[xm,a3,Nat.reduceAdd];repeat' (first
    |(apply ai ?_;clear hK K)|apply Ry.o ?_|apply bP ?_|(apply a2 (fun z V=>?_) (fun z V=>?_)<;>try(cases z;done))|apply ae ?_|(apply ah fun K hK=>?_)|apply ak ?_|apply am ?_)
   all_goals refine qq ?_
   have Z:∀a,FrE X H (H.set X.rm a):=fun a=>(iz _ _).set (.inl rfl) _;refine⟨j.dG (Z _) ?_ ?_ ?_,Z _⟩<;>simp[ed,I,Y,fy,aO]
  .refine a5 (M:=22) (rs:=[]) ((hS.plain _ rfl).call _) (hS.plain _ rfl).ao (hS.plain _ rfl).am func183 rfl rfl xm.2 rfl ?_;dsimp only[xm,a3,Nat.reduceAdd];repeat' (first
    |(apply ai ?_;clear hK K)|apply Ry.o ?_|apply bP ?_|(apply a2 (fun z V=>?_) (fun z V=>?_)<;>try(cases z;done))|apply ae ?_|(apply ah fun K hK=>?_)|apply ak ?_|apply am ?_)
   all_goals refine qq ?_
   have Z:∀a,FrE X H (H.set X.rm a):=fun a=>(iz _ _).set (.inl rfl) _;refine⟨j.dG (Z _) ?_ ?_ ?_,Z _⟩<;>simp[ed,I,Y,fy,aO]
 .refine a5 (M:=22) (rs:=[]) ((hS.plain _ rfl).call _) (hS.plain _ rfl).ao (hS.plain _ rfl).am func183 rfl rfl xm.2 rfl ?_;dsimp only[xm,a3,Nat.reduceAdd];repeat' (first
   |(apply ai ?_;clear hK K)|apply Ry.o ?_|apply bP ?_|(apply a2 (fun z V=>?_) (fun z V=>?_)<;>try(cases z;done))|apply ae ?_|(apply ah fun K hK=>?_)|apply ak ?_|apply am ?_)
  all_goals refine qq ?_
  rw[ed,au I];exact⟨j,iz _ _⟩
def zaA(hS:Std cfg)(X:Mx)(s:MS)(ov:AV)(nm:aS)(m:AV)(a x:Int)(H:Hp)(O:zc9 X H s ov)(hL:sf X s nm m):
 aU prog cfg 182 [.ptr X.rm 0,m,.int .i64 a,.int .i64 x] H fun v H'=>zc9 X H' (od nm a x s) ov/\FrA X H H':=by
 have hlen:gj prog H 27 m=_:=hL.len underlying27;by_cases I:a<0\/((dA s.cells nm).length:Int)<=a
 .rw[Ka I];have hbad2:¬a<0->((dA s.cells nm).length:Int)<=a:=fun h=>aa;refine a5 (M:=27) (rs:=[]) ((hS.plain _ rfl).call _) (hS.plain _ rfl).ao (hS.plain _ rfl).am func182 rfl rfl xn.2 rfl ?_;dsimp only[xn,a3,Nat.reduceAdd];repeat' (first
   |(apply ai ?_;clear hK K)|apply Rx.o ?_|(apply aX (fun C Y=>?_) (fun C Y=>?_)<;>try(cases C;done))|(apply aE (fun z V=>?_) (fun z V=>?_)<;>try(cases z;done))|apply ae ?_|(apply ah fun K hK=>?_)|apply ak ?_)
  .refine qa ?_;refine a4 ?_ (vL hS X s ov 2 H O);rintro v H2 ⟨Z,o⟩;dsimp only[a0];have U:=Z.m;unfold fy at U;have F:=yR 2 s;repeat' (first
    |(apply ai ?_;clear hK K)|apply Ry.o ?_|apply bP ?_|(apply cE (fun C Y=>?_) (fun C Y=>?_)<;>try(cases C;done))|(apply a2 (fun z V=>?_) (fun z V=>?_)<;>try(cases z;done))|apply ae ?_|(apply ah fun K hK=>?_)|apply ak ?_)
   all_goals refine qq ?_
   exact⟨Z,o.f7⟩
  .refine qa ?_;refine a4 ?_ (vL hS X s ov 2 H O);rintro v H2 ⟨Z,o⟩;dsimp only[a0];have U:=Z.m;unfold fy at U;have F:=yR 2 s;repeat' (first
    |(apply ai ?_;clear hK K)|apply Ry.o ?_|apply bP ?_|(apply cE (fun C Y=>?_) (fun C Y=>?_)<;>try(cases C;done))|(apply a2 (fun z V=>?_) (fun z V=>?_)<;>try(cases z;done))|apply ae ?_|(apply ah fun K hK=>?_)|apply ak ?_)
   all_goals refine qq ?_
   exact⟨Z,o.f7⟩
 .have ha0:0<=a:=by omega
  have S:a<(dA s.cells nm).length:=aa;rw[Kb ha0 S];have h1:¬a<0:=aa;have h2:¬((dA s.cells nm).length:Int)<=a:=aa;have hm:=O.m;unfold fy at hm;by_cases h0:s.aK=0
  .rcases hL with⟨rfl,h4,_⟩|⟨j,r,nm',hr,hc,rfl,J⟩
   .rw[h4]at S;simp at S;omega
   .have C:=O.cell j r nm' _ hr hc;have A:a.toNat<(dA s.cells nm).length:=aa;have hle:a.toNat+1<=(dA s.cells nm).length:=A;refine a5 (M:=27) (rs:=[]) ((hS.plain _ rfl).call _) (hS.plain _ rfl).ao (hS.plain _ rfl).am func182 rfl rfl xn.2 rfl ?_;dsimp only[xn,a3,Nat.reduceAdd];repeat' (first
     |(apply ai ?_;clear hK K)|apply Ry.o ?_|apply bP ?_|(apply cE (fun C Y=>?_) (fun C Y=>?_)<;>try(cases C;done))|(apply a2 (fun z V=>?_) (fun z V=>?_)<;>try(cases z;done))|apply ae ?_|(apply ah fun K hK=>?_)|apply ak ?_)
    all_goals refine qq ?_
    rw[au h0,J,kP,jW,jO,Kd A];refine⟨O.dj hr hc aI,aT _,fun k hk hno=>?_⟩;rw[aO,ad (fun e=>hno (.inr (by rw[e];exact fq hr)))]
  .refine a5 (M:=27) (rs:=[]) ((hS.plain _ rfl).call _) (hS.plain _ rfl).ao (hS.plain _ rfl).am func182 rfl rfl xn.2 rfl ?_;dsimp only[xn,a3,Nat.reduceAdd];repeat' (first
    |(apply ai ?_;clear hK K)|apply Ry.o ?_|apply bP ?_|(apply cE (fun C Y=>?_) (fun C Y=>?_)<;>try(cases C;done))|(apply a2 (fun z V=>?_) (fun z V=>?_)<;>try(cases z;done))|apply ae ?_|(apply ah fun K hK=>?_)|apply ak ?_)
   all_goals refine qq ?_
   rw[ad h0];exact⟨O,FrA.refl _ _⟩
end
section
def tyW6c.tyF:=ac @dF (ac @cI (ac @cY (ac @eL (ac @jH (ac @dX (ac @dy (ac @pS (ac @tn (ac @tp (@yK))))))))))
open tyW6c
noncomputable def oB:{c:SC // aG 123 (f92.body.getD .skip)=c}:=by
 refine⟨?_,?_⟩;rotate_left
 .simp only[f92,bE,aG,bz,bq,bF,bB,Nat.blt,Nat.ble];rfl
def pw:lz prog 9=some .string:=aA
def NX:lU prog 27=some .ab:=aA
def zaB:lU prog 2=some (.int .i64 0):=aA
def zaC(X:Mx)(r:Int×MS)(ov:AV)(H:Hp)(v:AV)(H':Hp):Prop:=v=.int .i64 r.1/\zc9 X H' r.2 ov/\FrE X H H'
set_option maxRecDepth 100000 in
theorem sE{cfg:Cfg}(hS:Std cfg)(X:Mx):∀(n:Nat) (x:Ex) (vs:List (aS×Int)) (s:MS) (r:Int×MS),en n x vs s=some r ->
 ∀(rv:Nat) (ov:AV) (H:Hp),zc9 X H s ov->H.get rv=some (.map (dL vs))->rv<H.next->rv≠X.rm ->
 aU prog cfg 92 [.ptr X.rm 0,.agg x.cells,.map rv] H (zaC X r ov H)
 |0,x,vs,s,r,h,rv,ov,H,hR,hv,hvl,hvm=>by simp[en]at h
 |n+1,x,vs,s,r,h,rv,ov,H,hR,hv,hvl,hvm=>by
  have IH:=sE hS X n;have hm:=hR.m;unfold fy at hm;have e1:(X.rm == H.next)=false:=lO (tK hR.lm);have e2:(rv == H.next)=false:=lO (tK hvl);have I:zc9 X (H.alloc (.cells x.cells 0 true)) s ov:=hR.alloc _;have hv1:(H.alloc (.cells x.cells 0 true)).get rv=some (.map (dL vs)):=by rw[yG,e2];exact hv
  have F:rv<(H.alloc (.cells x.cells 0 true)).next:=bY
  have S:FrE X H (H.alloc (.cells x.cells 0 true)):=(iz _ _).alloc _;have hlook:=fun nm=>Fp (P:=prog) underlying165 pw zaB hv1 nm;have m:∀{r:Int×MS}{A:Hp},zc9 X A r.2 ov->FrE X (H.alloc (.cells x.cells 0 true)) A->A.get H.next=some (.cells x.cells 0 true)/\A.get rv=some (.map (dL vs))/\rv<A.next/\A.get X.rm=some (.cells (fy X r.2 ov) 0 true):=fun{r A} Y o=>by
   have h1:=o.next
   simp only[br]at h1;refine⟨?_,?_,aa,Y.m⟩
   .rw[o.get _ bY (by have:=hR.lm;omega),aP,au rfl]
   .rw[o.get _ F hvm];exact hv1
  unfold en at h;by_cases h0:s.aK≠0
  .rw[au h0,aH]at h;subst h;refine a5 (M:=123) (rs:=[.tmp 6]) ((hS.plain _ rfl).call _) (hS.plain _ rfl).ao (hS.plain _ rfl).am func92 rfl rfl oB.2 rfl ?_;dsimp only[oB,a3,Nat.reduceAdd];repeat' (first
    |(apply ai ?_;clear hK K)|apply Ry.o ?_|(apply a2 (fun z V=>?_) (fun z V=>?_)<;>try(cases z;done))|apply ae ?_|(apply ah fun K hK=>?_)|(apply aq 9 [(2,6),(4,6),(10,6),(10,16),(12,6),(12,16),(13,6),(13,16)] fun K hK=>?_)|(apply aM ?_;try intro _)|(apply aR ?_ ?_<;>clear hK K)|apply aL ?_|apply aj ?_|apply ak ?_|apply am ?_)
   all_goals refine qq ?_
   exact⟨rfl,I,S⟩
  rw[ad h0]at h;have h0':s.aK=0:=aa;by_cases h1:x.ag=1
  .rw[au h1,aH]at h;subst h;refine a5 (M:=123) (rs:=[.tmp 6]) ((hS.plain _ rfl).call _) (hS.plain _ rfl).ao (hS.plain _ rfl).am func92 rfl rfl oB.2 rfl ?_;dsimp only[oB,a3,Nat.reduceAdd];repeat' (first
    |(apply ai ?_;clear hK K)|apply Ry.o ?_|(apply a2 (fun z V=>?_) (fun z V=>?_)<;>try(cases z;done))|apply ae ?_|(apply ah fun K hK=>?_)|(apply aq 9 [(2,6),(4,6),(10,6),(10,16),(12,6),(12,16),(13,6),(13,16)] fun K hK=>?_)|(apply aM ?_;try intro _)|(apply aR ?_ ?_<;>clear hK K)|apply aL ?_|apply aj ?_|apply ak ?_|apply am ?_)
   all_goals refine qq ?_
   exact⟨rfl,I,S⟩
  rw[ad h1]at h;by_cases h2:x.ag=2
  .rw[au h2,aH]at h;subst h;refine a5 (M:=123) (rs:=[.tmp 6]) ((hS.plain _ rfl).call _) (hS.plain _ rfl).ao (hS.plain _ rfl).am func92 rfl rfl oB.2 rfl ?_;dsimp only[oB,a3,Nat.reduceAdd];repeat' (first
    |(apply ai ?_;clear hK K)|apply Ry.o ?_|(apply a2 (fun z V=>?_) (fun z V=>?_)<;>try(cases z;done))|apply ae ?_|(apply ah fun K hK=>?_)|(apply aq 9 [(2,6),(4,6),(10,6),(10,16),(12,6),(12,16),(13,6),(13,16)] fun K hK=>?_)|(apply aM ?_;try intro _)|(apply aR ?_ ?_<;>clear hK K)|apply aL ?_|apply aj ?_|apply ak ?_|apply am ?_)
   all_goals refine qq ?_
   exact⟨rfl,I,S⟩
  rw[ad h2]at h;by_cases h3:x.ag=3
  .rw[au h3]at h;simp only[dI]at h;obtain⟨k,hk,aw,he,h⟩:=h;refine a5 (M:=123) (rs:=[.tmp 6]) ((hS.plain _ rfl).call _) (hS.plain _ rfl).ao (hS.plain _ rfl).am func92 rfl rfl oB.2 rfl ?_;dsimp only[oB,a3,Nat.reduceAdd];repeat' (first
    |(apply ai ?_;clear hK K)|apply Ry.o ?_|(apply a2 (fun z V=>?_) (fun z V=>?_)<;>try(cases z;done))|apply ae ?_|(apply ah fun K hK=>?_)|(apply aq 9 [(2,6),(4,6),(10,6),(10,16),(12,6),(12,16),(13,6),(13,16)] fun K hK=>?_)|(apply aM ?_;try intro _)|(apply aR ?_ ?_<;>clear hK K)|apply aL ?_|apply aj ?_|apply ak ?_|apply am ?_)
   refine qa ?_;refine a4 ?_ (IH k vs s aw he rv ov _ I hv1 F hvm);rintro v A ⟨rfl,Y,o⟩;obtain⟨g1,g2,g3,g4⟩:=m Y o;unfold fy at g4;have hn2:H.next+1<=A.next:=o.next
   obtain⟨lv,hl2,hL⟩:=Y.bS (P:=prog) underlying117 pw NX x.name;have hl1:gT prog (H.alloc (.cells x.cells 0 true)) 117 (.map X.rc) (.ae x.name) false=some lv:=by
    rw[<-hl2];exact(BJ (o.get _ I.lc hR.dQ.symm) _ _ _).symm
   have hlen:∀H,gj prog H 27 lv=_:=fun H=>hL.len underlying27;dsimp only[a0];repeat' (first
    |(apply ai ?_;clear hK K)|apply Rx.o ?_|apply cW ?_|(apply aX (fun C Z=>?_) (fun C Z=>?_)<;>try(cases C;done))|(apply aE (fun z V=>?_) (fun z V=>?_)<;>try(cases z;done))|apply ae ?_|(apply ah fun K hK=>?_)|(apply aq 9 [(2,6),(4,6),(10,6),(10,16),(12,6),(12,16),(13,6),(13,16)] fun K hK=>?_)|(apply aM ?_;try intro _)|(apply aR ?_ ?_<;>clear hK K)|apply aL ?_|apply aj ?_|apply ak ?_|apply am ?_)
   .exact di
   .refine qa ?_;refine a4 ?_ (vL hS X aw.2 ov 2 A Y);rintro v H3 ⟨U,O⟩;dsimp only[a0];repeat' (first
     |(apply ai ?_;clear hK K)|apply Rx.o ?_|apply cW ?_|(apply aX (fun C Z=>?_) (fun C Z=>?_)<;>try(cases C;done))|(apply aE (fun z V=>?_) (fun z V=>?_)<;>try(cases z;done))|apply ae ?_|(apply ah fun K hK=>?_)|(apply aq 9 [(2,6),(4,6),(10,6),(10,16),(12,6),(12,16),(13,6),(13,16)] fun K hK=>?_)|(apply aM ?_;try intro _)|(apply aR ?_ ?_<;>clear hK K)|apply aL ?_|apply aj ?_|apply ak ?_|apply am ?_)
    all_goals refine qq ?_
    have z:mW aw.1 (dA aw.2.cells x.name)=true:=Ca;rw[au z,aH]at h;subst h;exact⟨rfl,U,S.trans (o.trans O)⟩
   .have ha0:0<=aw.1:=by omega
    have hal:aw.1<(dA aw.2.cells x.name).length:=aa;have z:mW aw.1 (dA aw.2.cells x.name)=false:=EW;rw[z,ad aI,aH]at h;subst h;rcases hL with⟨rfl,h4,_⟩|⟨j,r,nm',hr,hc,rfl,hset⟩
    .rw[h4]at hal;simp at hal;omega
    .have C:=Y.cell j r nm' _ hr hc;have hlt:aw.1.toNat<(dA aw.2.cells x.name).length:=aa;have hga:=yT hlt;repeat' (first
      |(apply ai ?_;clear hK K)|apply Ry.o ?_|(apply a2 (fun z V=>?_) (fun z V=>?_)<;>try(cases z;done))|apply ae ?_|(apply ah fun K hK=>?_)|(apply aq 9 [(2,6),(4,6),(10,6),(10,16),(12,6),(12,16),(13,6),(13,16)] fun K hK=>?_)|(apply aM ?_;try intro _)|(apply aR ?_ ?_<;>clear hK K)|apply aL ?_|apply aj ?_|apply ak ?_|apply am ?_)
     all_goals refine qq ?_
     exact⟨rfl,Y,S.trans o⟩
   .refine qa ?_;refine a4 ?_ (vL hS X aw.2 ov 2 A Y);rintro v H3 ⟨U,O⟩;dsimp only[a0];repeat' (first
     |(apply ai ?_;clear hK K)|apply Rx.o ?_|apply cW ?_|(apply aX (fun C Z=>?_) (fun C Z=>?_)<;>try(cases C;done))|(apply aE (fun z V=>?_) (fun z V=>?_)<;>try(cases z;done))|apply ae ?_|(apply ah fun K hK=>?_)|(apply aq 9 [(2,6),(4,6),(10,6),(10,16),(12,6),(12,16),(13,6),(13,16)] fun K hK=>?_)|(apply aM ?_;try intro _)|(apply aR ?_ ?_<;>clear hK K)|apply aL ?_|apply aj ?_|apply ak ?_|apply am ?_)
    all_goals refine qq ?_
    have z:mW aw.1 (dA aw.2.cells x.name)=true:=Ca;rw[au z,aH]at h;subst h;exact⟨rfl,U,S.trans (o.trans O)⟩
  rw[ad h3]at h;by_cases h5:x.ag=5
  .rw[au h5]at h;simp only[dI]at h;obtain⟨k,hk,aw,he,h⟩:=h;refine a5 (M:=123) (rs:=[.tmp 6]) ((hS.plain _ rfl).call _) (hS.plain _ rfl).ao (hS.plain _ rfl).am func92 rfl rfl oB.2 rfl ?_;dsimp only[oB,a3,Nat.reduceAdd];repeat' (first
    |(apply ai ?_;clear hK K)|apply Ry.o ?_|(apply a2 (fun z V=>?_) (fun z V=>?_)<;>try(cases z;done))|apply ae ?_|(apply ah fun K hK=>?_)|(apply aq 9 [(2,6),(4,6),(10,6),(10,16),(12,6),(12,16),(13,6),(13,16)] fun K hK=>?_)|(apply aM ?_;try intro _)|(apply aR ?_ ?_<;>clear hK K)|apply aL ?_|apply aj ?_|apply ak ?_|apply am ?_)
   refine qa ?_;refine a4 ?_ (IH k vs s aw he rv ov _ I hv1 F hvm);rintro v A ⟨rfl,Y,o⟩;obtain⟨g1,g2,g3,g4⟩:=m Y o;dsimp only[a0];by_cases hz:aw.1=0
   .rw[ad (by simp[hz])]at h;simp only[dI]at h;obtain⟨k2,hk2,he2⟩:=h;repeat' (first
     |(apply ai ?_;clear hK K)|apply Ry.o ?_|(apply a2 (fun z V=>?_) (fun z V=>?_)<;>try(cases z;done))|apply ae ?_|(apply ah fun K hK=>?_)|(apply aq 9 [(2,6),(4,6),(10,6),(10,16),(12,6),(12,16),(13,6),(13,16)] fun K hK=>?_)|(apply aM ?_;try intro _)|(apply aR ?_ ?_<;>clear hK K)|apply aL ?_|apply aj ?_|apply ak ?_|apply am ?_)
    refine qa ?_;refine a4 ?_ (IH k2 vs aw.2 r he2 rv ov _ Y g2 g3 hvm);rintro v H3 ⟨rfl,U,O⟩;dsimp only[a0];repeat' (first
     |(apply ai ?_;clear hK K)|apply Rx.o ?_|apply cW ?_|(apply aX (fun C Z=>?_) (fun C Z=>?_)<;>try(cases C;done))|(apply aE (fun z V=>?_) (fun z V=>?_)<;>try(cases z;done))|apply ae ?_|(apply ah fun K hK=>?_)|(apply aq 9 [(2,6),(4,6),(10,6),(10,16),(12,6),(12,16),(13,6),(13,16)] fun K hK=>?_)|(apply aM ?_;try intro _)|(apply aR ?_ ?_<;>clear hK K)|apply aL ?_|apply aj ?_|apply ak ?_|apply am ?_)
    all_goals refine qq ?_
    exact⟨rfl,U,S.trans (o.trans O)⟩
   .rw[au hz]at h;simp only[dI]at h;obtain⟨k2,hk2,he2⟩:=h;repeat' (first
     |(apply ai ?_;clear hK K)|apply Ry.o ?_|(apply a2 (fun z V=>?_) (fun z V=>?_)<;>try(cases z;done))|apply ae ?_|(apply ah fun K hK=>?_)|(apply aq 9 [(2,6),(4,6),(10,6),(10,16),(12,6),(12,16),(13,6),(13,16)] fun K hK=>?_)|(apply aM ?_;try intro _)|(apply aR ?_ ?_<;>clear hK K)|apply aL ?_|apply aj ?_|apply ak ?_|apply am ?_)
    refine qa ?_;refine a4 ?_ (IH k2 vs aw.2 r he2 rv ov _ Y g2 g3 hvm);rintro v H3 ⟨rfl,U,O⟩;dsimp only[a0];repeat' (first
     |(apply ai ?_;clear hK K)|apply Rx.o ?_|apply cW ?_|(apply aX (fun C Z=>?_) (fun C Z=>?_)<;>try(cases C;done))|(apply aE (fun z V=>?_) (fun z V=>?_)<;>try(cases z;done))|apply ae ?_|(apply ah fun K hK=>?_)|(apply aq 9 [(2,6),(4,6),(10,6),(10,16),(12,6),(12,16),(13,6),(13,16)] fun K hK=>?_)|(apply aM ?_;try intro _)|(apply aR ?_ ?_<;>clear hK K)|apply aL ?_|apply aj ?_|apply ak ?_|apply am ?_)
    all_goals refine qq ?_
    exact⟨rfl,U,S.trans (o.trans O)⟩
  rw[ad h5]at h;simp only[dI]at h;obtain⟨k,hk,aw,he,h⟩:=h;refine a5 (M:=123) (rs:=[.tmp 6]) ((hS.plain _ rfl).call _) (hS.plain _ rfl).ao (hS.plain _ rfl).am func92 rfl rfl oB.2 rfl ?_;dsimp only[oB,a3,Nat.reduceAdd];repeat' (first
   |(apply ai ?_;clear hK K)|apply Ry.o ?_|(apply a2 (fun z V=>?_) (fun z V=>?_)<;>try(cases z;done))|apply ae ?_|(apply ah fun K hK=>?_)|(apply aq 9 [(2,6),(4,6),(10,6),(10,16),(12,6),(12,16),(13,6),(13,16)] fun K hK=>?_)|(apply aM ?_;try intro _)|(apply aR ?_ ?_<;>clear hK K)|apply aL ?_|apply aj ?_|apply ak ?_|apply am ?_)
  refine qa ?_;refine a4 ?_ (IH k vs s aw he rv ov _ I hv1 F hvm);rintro v A ⟨rfl,Y,o⟩;obtain⟨g1,g2,g3,g4⟩:=m Y o;dsimp only[a0];by_cases hz:x.ak.length=1
  .rw[au hz,aH]at h;subst h;have hz':((x.ak.length:Nat):Int)=1:=aa;repeat' (first
    |(apply ai ?_;clear hK K)|apply Ry.o ?_|(apply cU ?_;first|refine aY (Xn hS _ _ _) ?_)|(apply a2 (fun z V=>?_) (fun z V=>?_)<;>try(cases z;done))|apply ae ?_|(apply ah fun K hK=>?_)|(apply aq 9 [(2,6),(4,6),(10,6),(10,16),(12,6),(12,16),(13,6),(13,16)] fun K hK=>?_)|(apply aM ?_;try intro _)|(apply aR ?_ ?_<;>clear hK K)|apply aL ?_|apply aj ?_|apply ak ?_|apply am ?_)
   all_goals refine qq ?_
   exact⟨rfl,Y,S.trans o⟩
  rw[ad hz]at h;have hz':¬((x.ak.length:Nat):Int)=1:=aa;simp only[dI]at h;obtain⟨k2,hk2,a1,he2,h⟩:=h;repeat' (first
   |(apply ai ?_;clear hK K)|apply Ry.o ?_|(apply a2 (fun z V=>?_) (fun z V=>?_)<;>try(cases z;done))|apply ae ?_|(apply ah fun K hK=>?_)|(apply aq 9 [(2,6),(4,6),(10,6),(10,16),(12,6),(12,16),(13,6),(13,16)] fun K hK=>?_)|(apply aM ?_;try intro _)|(apply aR ?_ ?_<;>clear hK K)|apply aL ?_|apply aj ?_|apply ak ?_|apply am ?_)
  refine qa ?_;refine a4 ?_ (IH k2 vs aw.2 a1 he2 rv ov _ Y g2 g3 hvm);rintro v H3 ⟨rfl,U,O⟩;have J:=o.trans O;obtain⟨g5,g6,g7,g8⟩:=m U J;dsimp only[a0];have key:(a1.1=0/\(x.op=7\/x.op=8)->r=(0,iy 1 a1.2))/\(¬(a1.1=0/\(x.op=7\/x.op=8))->r=(kY x.op aw.1 a1.1,a1.2)):=by
   split at h
   .rename_i hc;exact⟨fun _=>Cb,fun hn=>(hn hc).elim⟩
   .rename_i hc;exact⟨fun hn=>(hc hn).elim,fun _=>Cb⟩
  clear h;repeat' (first
   |(apply ai ?_;clear hK K)|apply Rx.o ?_|(apply dJ ?_;first|refine aY (Xp hS _ _ _ _) ?_)|apply cW ?_|(apply aX (fun C Z=>?_) (fun C Z=>?_)<;>try(cases C;done))|(apply aE (fun z V=>?_) (fun z V=>?_)<;>try(cases z;done))|apply ae ?_|(apply ah fun K hK=>?_)|(apply aq 9 [(2,6),(4,6),(10,6),(10,16),(12,6),(12,16),(13,6),(13,16)] fun K hK=>?_)|(apply aM ?_;try intro _)|(apply aR ?_ ?_<;>clear hK K)|apply aL ?_|apply aj ?_|apply ak ?_|apply am ?_)
  .refine qa ?_;refine a4 ?_ (vL hS X a1.2 ov 1 H3 U);rintro v H4 ⟨hR4,hf4⟩;dsimp only[a0];repeat' (first
    |(apply ai ?_;clear hK K)|apply Rx.o ?_|apply cW ?_|(apply aX (fun C Z=>?_) (fun C Z=>?_)<;>try(cases C;done))|(apply aE (fun z V=>?_) (fun z V=>?_)<;>try(cases z;done))|apply ae ?_|(apply ah fun K hK=>?_)|(apply aq 9 [(2,6),(4,6),(10,6),(10,16),(12,6),(12,16),(13,6),(13,16)] fun K hK=>?_)|(apply aM ?_;try intro _)|(apply aR ?_ ?_<;>clear hK K)|apply aL ?_|apply aj ?_|apply ak ?_|apply am ?_)
   all_goals refine qq ?_
   rw[key.1 aa];exact⟨rfl,hR4,S.trans (J.trans hf4)⟩
  .all_goals refine qq ?_
   rw[key.2 aa];exact⟨NV,U,S.trans J⟩
  .refine qa ?_;refine a4 ?_ (vL hS X a1.2 ov 1 H3 U);rintro v H4 ⟨hR4,hf4⟩;dsimp only[a0];repeat' (first
    |(apply ai ?_;clear hK K)|apply Rx.o ?_|apply cW ?_|(apply aX (fun C Z=>?_) (fun C Z=>?_)<;>try(cases C;done))|(apply aE (fun z V=>?_) (fun z V=>?_)<;>try(cases z;done))|apply ae ?_|(apply ah fun K hK=>?_)|(apply aq 9 [(2,6),(4,6),(10,6),(10,16),(12,6),(12,16),(13,6),(13,16)] fun K hK=>?_)|(apply aM ?_;try intro _)|(apply aR ?_ ?_<;>clear hK K)|apply aL ?_|apply aj ?_|apply ak ?_|apply am ?_)
   all_goals refine qq ?_
   rw[key.1 aa];exact⟨rfl,hR4,S.trans (J.trans hf4)⟩
  .all_goals refine qq ?_
   rw[key.2 aa];exact⟨NV,U,S.trans J⟩
end
section
def tyW6d.tyF:=ac @dF (ac @cI (ac @cY (ac @eL (ac @jH (ac @dR (ac @dX (ac @dy (ac @eD (ac @pS (ac @tn (ac @tp (@yK))))))))))))
open tyW6d
noncomputable def ll:{c:SC // aG 154 (f139.body.getD .skip)=c}:=by
 refine⟨?_,?_⟩;rotate_left
 .simp only[f139,bE,aG,bz,bq,bF,bB,Nat.blt,Nat.ble];rfl
def rB(X:Mx)(F:Nat)(ov:AV)(H:Hp)(r:List (aS×Int)×MS)(v:AV)(H':Hp):Prop:=∃z,zc9 X H' r.2 z/\zda X H' F r.1 z/\FrS X (·=F) ov H z H'
def Gq(cfg:Cfg)(X:Mx)(N:Nat):Prop:=∀x vs s r,lN X.p X.fi N x vs s=some r->x.sz<2^40->r.2.out.length<2^40->∀rv ov H,zc9 X H s ov->zda X H rv vs ov ->
 aU prog cfg 139 [.ptr X.rm 0,.agg x.cells,.map rv] H (rB X rv ov H r)
def xo(cfg:Cfg)(X:Mx)(N:Nat):Prop:=∀l vs s r,fE X.p X.fi N l vs s=some r->a6 l<2^40->r.2.out.length<2^40->∀rv ov H,zc9 X H s ov->zda X H rv vs ov ->
 aU prog cfg 91 [.ptr X.rm 0,.ai (l.map St.cells),.map rv] H (rB X rv ov H r)
def CS(cfg:Cfg)(X:Mx)(N:Nat):Prop:=∀k al s r,i3 X.p X.fi N k al s=some r->r.2.out.length<2^40->al.length<2^40->∀M ov H,zc9 X H s ov->mj H M al->(∀b,pe M b->b<H.next) ->
 aU prog cfg 51 [.ptr X.rm 0,.int .i64 k,M] H fun v H'=>v=.int .i64 r.1/\∃z,zc9 X H' r.2 z/\FrS X (fun _=>False) ov H z H'
def NY(H:Hp)(n:Int):dc prog H 27 1 [(0,.int .i64 n)]=some (.sl H.next 0 1 1,H.alloc (.cells [.int .i64 n] 0 true)):=aA
def sf.congr{X:Mx}{s Y:MS}{nm:aS}{S:AV}(h:sf X s nm S)(e:Y.cells=s.cells):sf X Y nm S:=by unfold sf;rw[e];exact h
section
variable {cfg:Cfg} (hS:Std cfg) (X:Mx) {x:St} {vs:List (aS × Int)} {s:MS} {rv:Nat} {ov:AV} {H:Hp}
structure zdn (X:Mx) (x:St) (vs:List (aS×Int)) (s:MS) (rv:Nat) (ov:AV) (H H1:Hp):Prop where
 R:zc9 X H1 s ov
 v:zda X H1 rv vs ov
 fr:FrS X (·=rv) ov H ov H1
 box:H1.get H.next=some (.cells x.cells 0 true)
 n:H.next+1<=H1.next
 m:H1.get X.rm=some (.cells (fy X s ov) 0 true)
def zdn.start(j:zc9 X H s ov)(U:zda X H rv vs ov):zdn X x vs s rv ov H (H.alloc (.cells x.cells 0 true)) where
 R:=j.alloc _
 v:=U.cW ((iz _ _).alloc _)
 fr:=((iz _ _).alloc _).b8 _ _
 box:=fN
 n:=aT _
 m:=(j.alloc _).m
def ua:=@zdn.start
def zdn.expr{z Z:Hp}{V K:MS}(j:zc9 X H V ov)(b:zdn X x vs s rv ov H z)(Y:zc9 X Z K ov)(f:FrE X z Z):zdn X x vs K rv ov H Z where
 R:=Y
 v:=b.v.cW f
 fr:=b.fr.trans (f.b8 _ _)
 box:=Ll
 n:=dC b.n f.next
 m:=Y.m
set_option maxRecDepth 100000 in
include hS in
def zaD(J:x.ag=1){n:Nat}{aw:Int×MS}(C:en n x.value vs s=some aw)(j:zc9 X H s ov)(U:zda X H rv vs ov):
 aU prog cfg 139 [.ptr X.rm 0,.agg x.cells,.map rv] H (rB X rv ov H (setV vs x.name aw.1,aw.2)):=by
 have F:=ua (x:=x) X j U;have e1:(X.rm == H.next)=false:=lO (tK j.lm);refine a5 (M:=154) (rs:=[]) ((hS.plain _ rfl).call _) (hS.plain _ rfl).ao (hS.plain _ rfl).am func139 rfl rfl ll.2 rfl ?_;dsimp only[ll,a3,Nat.reduceAdd];repeat' (first
  |(apply ai ?_;clear hK K)|apply Ry.o ?_|(apply a2 (fun Z V=>?_) (fun Z V=>?_)<;>try(cases Z;done))|apply ae ?_|(apply ah fun K hK=>?_)|(apply aq 3 [(2,7),(2,8),(5,7)] fun K hK=>?_)|(apply aq 5 [(4,12),(4,17),(4,18),(6,12),(6,17),(6,18),(7,12),(7,17),(7,18),(10,12),(15,12),(15,17)] fun K hK=>?_)|(apply aq 28 [(2,12),(2,13),(7,12),(9,12),(10,12)] fun K hK=>?_)|(apply aM ?_;try intro _)|(apply aR ?_ ?_<;>clear hK K)|apply aL ?_|apply bu rfl ?_|apply aj ?_)
 refine qa ?_;refine a4 ?_ (sE hS X n x.value vs s aw C rv ov _ F.R F.v.get F.v.lt F.v.nm);rintro v m ⟨rfl,Y,o⟩;have z:=F.expr X j Y o;have g2:=z.box;have A:=z.n;have hu:=yS (P:=prog) underlying165 pw z.v.get x.name aw.1;dsimp only[a0];repeat' (first
  |(apply ai ?_;clear hK K)|apply aN ?_|apply ae ?_|(apply ah fun K hK=>?_)|(apply aq 3 [(2,7),(2,8),(5,7)] fun K hK=>?_)|(apply aq 5 [(4,12),(4,17),(4,18),(6,12),(6,17),(6,18),(7,12),(7,17),(7,18),(10,12),(15,12),(15,17)] fun K hK=>?_)|(apply aq 28 [(2,12),(2,13),(7,12),(9,12),(10,12)] fun K hK=>?_)|(apply aM ?_;try intro _)|(apply aR ?_ ?_<;>clear hK K)|apply aL ?_|apply bu rfl ?_|apply aj ?_)
 .exact di
 .all_goals refine qq ?_
  obtain⟨I,S,O⟩:=z.R.setV z.v (setV vs x.name aw.1);exact⟨ov,I,S,z.fr.trans O⟩
set_option maxRecDepth 100000 in
include hS in
def zaE(hk:x.ag=2){n:Nat}{aw a1:Int×MS}(he:en n x.aL vs s=some aw)(I:en n x.value vs aw.2=some a1)(j:zc9 X H s ov)(hv:zda X H rv vs ov):
 aU prog cfg 139 [.ptr X.rm 0,.agg x.cells,.map rv] H (rB X rv ov H (vs,od x.name aw.1 a1.1 a1.2)):=by
 have F:=ua (x:=x) X j hv;have e1:(X.rm == H.next)=false:=lO (tK j.lm);have hm:=j.m;unfold fy at hm;obtain⟨S,m,hL⟩:=F.R.bS (P:=prog) underlying117 pw NX x.name;refine a5 (M:=154) (rs:=[]) ((hS.plain _ rfl).call _) (hS.plain _ rfl).ao (hS.plain _ rfl).am func139 rfl rfl ll.2 rfl ?_;dsimp only[ll,a3,Nat.reduceAdd];repeat' (first
  |(apply ai ?_;clear hK K)|apply Ry.o ?_|(apply a2 (fun hb J=>?_) (fun hb J=>?_)<;>try(cases hb;done))|apply ae ?_|(apply ah fun K hK=>?_)|(apply aq 3 [(2,7),(2,8),(5,7)] fun K hK=>?_)|(apply aq 5 [(4,12),(4,17),(4,18),(6,12),(6,17),(6,18),(7,12),(7,17),(7,18),(10,12),(15,12),(15,17)] fun K hK=>?_)|(apply aq 28 [(2,12),(2,13),(7,12),(9,12),(10,12)] fun K hK=>?_)|(apply aM ?_;try intro _)|(apply aR ?_ ?_<;>clear hK K)|apply aL ?_|apply aj ?_)
 refine qa ?_;refine a4 ?_ (sE hS X n x.aL vs s aw he rv ov _ F.R F.v.get F.v.lt F.v.nm);rintro v H2 ⟨rfl,C,o⟩;have z:=F.expr X j C o;have g2:=z.box;have m2:=z.m;unfold fy at m2;have hn2:=z.n;have hl2:gT prog H2 117 (.map X.rc) (.ae x.name) false=some S:=by
  rw[<-m];exact BJ (o.get _ F.R.lc j.dQ.symm) _ _ _
 dsimp only[a0];repeat' (first
  |(apply ai ?_;clear hK K)|apply Rx.o ?_|apply ae ?_|(apply ah fun K hK=>?_)|(apply aq 3 [(2,7),(2,8),(5,7)] fun K hK=>?_)|(apply aq 5 [(4,12),(4,17),(4,18),(6,12),(6,17),(6,18),(7,12),(7,17),(7,18),(10,12),(15,12),(15,17)] fun K hK=>?_)|(apply aq 28 [(2,12),(2,13),(7,12),(9,12),(10,12)] fun K hK=>?_)|(apply aM ?_;try intro _)|(apply aR ?_ ?_<;>clear hK K)|apply aL ?_|apply aj ?_)
 refine qa ?_;refine a4 ?_ (sE hS X n x.value vs aw.2 a1 I rv ov _ z.R z.v.get z.v.lt z.v.nm);rintro v H3 ⟨rfl,U,Z⟩;have V:=z.expr X j U Z;have g3:=V.box;have m3:=V.m;unfold fy at m3;have hn3:=Z.next
 have hl3:gT prog H3 117 (.map X.rc) (.ae x.name) false=some S:=by
  rw[<-hl2];exact BJ (Z.get _ z.R.lc j.dQ.symm) _ _ _
 have hc:a1.2.cells=s.cells:=((mq _ _ _ _ _ I).2.1).trans (mq _ _ _ _ _ he).2.1;dsimp only[a0];repeat' (first
  |(apply ai ?_;clear hK K)|apply Rx.o ?_|apply ae ?_|(apply ah fun K hK=>?_)|(apply aq 3 [(2,7),(2,8),(5,7)] fun K hK=>?_)|(apply aq 5 [(4,12),(4,17),(4,18),(6,12),(6,17),(6,18),(7,12),(7,17),(7,18),(10,12),(15,12),(15,17)] fun K hK=>?_)|(apply aq 28 [(2,12),(2,13),(7,12),(9,12),(10,12)] fun K hK=>?_)|(apply aM ?_;try intro _)|(apply aR ?_ ?_<;>clear hK K)|apply aL ?_|apply aj ?_)
 refine qa ?_;refine a4 ?_ (zaA hS X a1.2 ov x.name S aw.1 a1.1 H3 U (sf.congr hL hc));rintro v A ⟨Y,O⟩;have hn4:=O.next
 have f4:FrS X (·=rv) ov H ov A:=V.fr.trans (O.b8 _ _);have g4:A.get H.next=some (.cells x.cells 0 true):=by
  rw[(O.b8 (·=rv) ov).aj j (aT _) aa (fun e=>by have:=hv.lt;omega)];exact g3
 have m4:=Y.m;unfold fy at m4;have hl4:gT prog A 117 (.map X.rc) (.ae x.name) false=some S:=by
  rw[<-hl3];refine BJ (O.get _ V.R.lc ?_) _ _ _;rintro(e|e)
  .exact j.dQ e.symm
  .exact j.cs e
 dsimp only[a0];repeat' (first
  |(apply ai ?_;clear hK K)|apply Rx.o ?_|apply ae ?_|(apply ah fun K hK=>?_)|(apply aq 3 [(2,7),(2,8),(5,7)] fun K hK=>?_)|(apply aq 5 [(4,12),(4,17),(4,18),(6,12),(6,17),(6,18),(7,12),(7,17),(7,18),(10,12),(15,12),(15,17)] fun K hK=>?_)|(apply aq 28 [(2,12),(2,13),(7,12),(9,12),(10,12)] fun K hK=>?_)|(apply aM ?_;try intro _)|(apply aR ?_ ?_<;>clear hK K)|apply aL ?_|apply aj ?_)
 .exact di
 .all_goals refine qq ?_
  exact⟨ov,Y,V.v.gx O,f4⟩
end
end
variable{n:Nat}{v:AV}
section
def tyW6e.tyF:=ac @dF (ac @cI (ac @cY (ac @eL (ac @jH (ac @dR (ac @dX (ac @dy (ac @eD (ac @pS (ac @tn (ac @tp (ac @yK (@NY)))))))))))))
open tyW6e
section
variable {cfg:Cfg} (hS:Std cfg) (X:Mx) {x:St} {vs:List (aS × Int)} {s:MS} {rv:Nat} {ov:AV} {H:Hp}
set_option maxRecDepth 100000 in
include hS in
def zaF(hk:x.ag=3){aw:Int×MS}(C:en n x.value vs s=some aw)(h2:(if aw.1≠0 then fE X.p X.fi n x.a1 vs aw.2 else fE X.p X.fi n x.bh vs aw.2)=some r)
 (S:xo cfg X n) (hz:x.sz<2^40) (J:r.2.out.length<2^40) (j:zc9 X H s ov) (hv:zda X H rv vs ov) :
 aU prog cfg 139 [.ptr X.rm 0,.agg x.cells,.map rv] H (rB X rv ov H r):=by
 have F:=ua (x:=x) X j hv;have e1:(X.rm == H.next)=false:=lO (tK j.lm);have hsz:=x.aJ;refine a5 (M:=154) (rs:=[]) ((hS.plain _ rfl).call _) (hS.plain _ rfl).ao (hS.plain _ rfl).am func139 rfl rfl ll.2 rfl ?_;dsimp only[ll,a3,Nat.reduceAdd];repeat' (first
  |(apply ai ?_;clear hK K)|apply Ry.o ?_|(apply a2 (fun z V=>?_) (fun z V=>?_)<;>try(cases z;done))|apply ae ?_|(apply ah fun K hK=>?_)|apply aj ?_)
 refine qa ?_;refine a4 ?_ (sE hS X n x.value vs s aw C rv ov _ F.R F.v.get F.v.lt F.v.nm);rintro v I ⟨rfl,Y,o⟩;have Z:=F.expr X j Y o;have g2:=Z.box;dsimp only[a0];by_cases hc:aw.1=0
 .rw[ad (by simp[hc])]at h2;repeat' (first
   |(apply ai ?_;clear hK K)|apply Ry.o ?_|(apply a2 (fun z V=>?_) (fun z V=>?_)<;>try(cases z;done))|apply ae ?_|(apply ah fun K hK=>?_)|apply aj ?_)
  refine qa ?_;refine a4 ?_ (S x.bh vs aw.2 r h2 aa J rv ov I Z.R Z.v);rintro v H3 ⟨m,U,A,O⟩;dsimp only[a0];repeat' (first
   |(apply ai ?_;clear hK K)|apply ae ?_|(apply ah fun K hK=>?_)|apply aj ?_)
  all_goals refine qq ?_
  exact⟨m,U,A,Z.fr.trans O⟩
 .rw[au hc]at h2;repeat' (first
   |(apply ai ?_;clear hK K)|apply Ry.o ?_|(apply a2 (fun z V=>?_) (fun z V=>?_)<;>try(cases z;done))|apply ae ?_|(apply ah fun K hK=>?_)|apply aj ?_)
  refine qa ?_;refine a4 ?_ (S x.a1 vs aw.2 r h2 aa J rv ov I Z.R Z.v);rintro v H3 ⟨m,U,A,O⟩;dsimp only[a0];repeat' (first
   |(apply ai ?_;clear hK K)|apply ae ?_|(apply ah fun K hK=>?_)|apply aj ?_)
  all_goals refine qq ?_
  exact⟨m,U,A,Z.fr.trans O⟩
set_option maxRecDepth 100000 in
include hS in
def zaG(hk:x.ag=5){aw:Int×MS}(he:en n x.value vs s=some aw)(ho:(gh aw.1 aw.2).out.length<2^40)(j:zc9 X H s ov)(hv:zda X H rv vs ov):
 aU prog cfg 139 [.ptr X.rm 0,.agg x.cells,.map rv] H (rB X rv ov H (vs,gh aw.1 aw.2)):=by
 have J:=ua (x:=x) X j hv;have e1:(X.rm == H.next)=false:=lO (tK j.lm);have m:cfg.aj 139=false:=hS.aj _;refine a5 (M:=154) (rs:=[]) ((hS.plain _ rfl).call _) (hS.plain _ rfl).ao (hS.plain _ rfl).am func139 rfl rfl ll.2 rfl ?_;dsimp only[ll,a3,Nat.reduceAdd];repeat' (first
  |(apply ai ?_;clear hK K)|apply Ry.o ?_|apply bP ?_|(apply a2 (fun z V=>?_) (fun z V=>?_)<;>try(cases z;done))|apply ae ?_|(apply ah fun K hK=>?_)|apply aj ?_|apply ak ?_)
 refine qa ?_;refine a4 ?_ (sE hS X n x.value vs s aw he rv ov _ J.R J.v.get J.v.lt J.v.nm);rintro v Z ⟨rfl,Y,o⟩;have U:=J.expr X j Y o;have g2:=U.box;have m2:=U.m;unfold fy at m2;dsimp only[a0];by_cases h0:aw.2.aK=0
 .have hlen:=FP aw.1 aw.2;have S:=Y.alloc (.cells [.int .i64 aw.1] 0 true);obtain⟨H6,O,I,C,F⟩:=BL (P:=prog) (t:=27) underlying27 oW rW rX S.out.ints (r':=Z.next) (x:=aw.1) fN aa;obtain⟨q1,q2⟩:=S.dM (x:=aw.1) h0 (aT _) I C F;have nb:¬iL ov X.rm:=fun⟨k,e⟩=>by
   rcases Y.out with⟨A,_⟩|⟨ro,A,_,_,h4,_⟩
   .rw[A]at e;simp at e
   .rw[A]at e;simp only[AV.sl.injEq]at e;exact h4 (.inl e.1)
  have m6:H6.get X.rm=some (.cells (fy X aw.2 ov) 0 true):=by rw[F _ S.lm nb];exact S.m
  have e2:(X.rm == Z.next)=false:=lO (tK Y.lm);have happ2:dh prog false (Z.alloc (.cells [.int .i64 aw.1] 0 true)) 27 27 ov (.sl Z.next 0 1 1)=some (.sl (Z.next+1) 0 (aw.2.out.length+1) 1,H6):=O;unfold fy at m6;repeat' (first
   |(apply ai ?_;clear hK K)|apply Ry.o ?_|apply bP ?_|(apply a2 (fun z V=>?_) (fun z V=>?_)<;>try(cases z;done))|apply ae ?_|(apply ah fun K hK=>?_)|apply aj ?_|apply ak ?_)
  all_goals refine qq ?_
  have e3:HB.cells [AV.ai (List.map Ar.cells X.p.af),AV.ai (List.map Fu.cells X.p.funcs),AV.map X.rc,AV.map X.rf,AV.int .i64 aw.2.aC,AV.int .i64 0,AV.int .i64 aw.2.aw,AV.sl (Z.next+1) 0 (aw.2.out.length+1) 1] 0 true=.cells (fy X (gh aw.1 aw.2) (.sl (Z.next+1) 0 (aw.2.out.length+1) 1)) 0 true:=by
   simp only[fy,gh,h0,bw]
  have hfr:FrS X (·=rv) ov Z ov (Z.alloc (.cells [.int .i64 aw.1] 0 true)):=((iz _ _).alloc _).b8 _ _;first|rw[e3]|trace_state
  refine⟨_,q1,(U.v.cW ((iz _ _).alloc _)).eX q2 (fun e=>e),U.fr.trans (hfr.trans (q2.cw fun r _ e=>e.elim))⟩
 .have ho':gh aw.1 aw.2=aw.2:=by simp only[gh,h0,bH]
  repeat' (first
   |(apply ai ?_;clear hK K)|apply Ry.o ?_|apply bP ?_|(apply a2 (fun z V=>?_) (fun z V=>?_)<;>try(cases z;done))|apply ae ?_|(apply ah fun K hK=>?_)|apply aj ?_|apply ak ?_)
  all_goals refine qq ?_
  rw[ho'];exact⟨ov,Y,U.v,U.fr⟩
set_option maxRecDepth 100000 in
include hS in
def zaH(S:x.ag=7)(j:zc9 X H s ov)(U:zda X H rv vs ov):
 aU prog cfg 139 [.ptr X.rm 0,.agg x.cells,.map rv] H (rB X rv ov H (vs,iy (bA (16+x.n)) s)):=by
 have F:=ua (x:=x) X j U;refine a5 (M:=154) (rs:=[]) ((hS.plain _ rfl).call _) (hS.plain _ rfl).ao (hS.plain _ rfl).am func139 rfl rfl ll.2 rfl ?_;dsimp only[ll,a3,Nat.reduceAdd];repeat' (first
  |(apply ai ?_;clear hK K)|apply Ry.o ?_|(apply a2 (fun z V=>?_) (fun z V=>?_)<;>try(cases z;done))|apply ae ?_|(apply ah fun K hK=>?_)|apply aj ?_)
 refine qa ?_;refine a4 ?_ (vL hS X s ov _ _ F.R);rintro v O ⟨Y,o⟩;have Z:=F.expr X j Y o;dsimp only[a0];repeat' (first
  |(apply ai ?_;clear hK K)|apply ae ?_|(apply ah fun K hK=>?_)|apply aj ?_)
 all_goals refine qq ?_
 exact⟨ov,Y,Z.v,Z.fr⟩
set_option maxRecDepth 100000 in
include hS in
def zaI(h1:¬x.ag=1)(h2:¬x.ag=2)(A:¬x.ag=3)(O:¬x.ag=4)(J:¬x.ag=5)(C:¬x.ag=6)(Z:¬x.ag=7)(j:zc9 X H s ov)(U:zda X H rv vs ov):
 aU prog cfg 139 [.ptr X.rm 0,.agg x.cells,.map rv] H (rB X rv ov H (vs,s)):=by
 have F:=ua (x:=x) X j U;refine a5 (M:=154) (rs:=[]) ((hS.plain _ rfl).call _) (hS.plain _ rfl).ao (hS.plain _ rfl).am func139 rfl rfl ll.2 rfl ?_;dsimp only[ll,a3,Nat.reduceAdd];repeat' (first
  |(apply ai ?_;clear hK K)|apply Ry.o ?_|(apply a2 (fun z V=>?_) (fun z V=>?_)<;>try(cases z;done))|apply ae ?_|(apply ah fun K hK=>?_)|apply aj ?_|apply ak ?_)
 all_goals refine qq ?_
 exact⟨ov,F.R,F.v,F.fr⟩
set_option maxRecDepth 100000 in
include hS in
def zaJ(hk:x.ag=4)(h:iZ X.p X.fi n x vs s=some r)(IH:∀m,m<n->xo cfg X m)(hz:x.sz<2^40)(ho:r.2.out.length<2^40)(hR:zc9 X H s ov)(hv:zda X H rv vs ov):
 aU prog cfg 139 [.ptr X.rm 0,.agg x.cells,.map rv] H (rB X rv ov H r):=by
 have b1:=ua (x:=x) X hR hv;have hsz:=x.aJ;have box:∀{j:AV}{I:Hp},FrS X (·=rv) ov (H.alloc (.cells x.cells 0 true)) j I->I.get H.next=some (.cells x.cells 0 true):=fun{j I} f=>by
  rw[f.aj hR (aT _) (dq _) (fun e=>by have:=hv.lt;omega)];exact b1.box
 refine a5 (M:=154) (rs:=[]) ((hS.plain _ rfl).call _) (hS.plain _ rfl).ao (hS.plain _ rfl).am func139 rfl rfl ll.2 rfl ?_;dsimp only[ll,a3,Nat.reduceAdd];repeat' (first
  |(apply ai ?_;clear hK K)|apply Ry.o ?_|(apply cE (fun C Y=>?_) (fun C Y=>?_)<;>try(cases C;done))|(apply a2 (fun z V=>?_) (fun z V=>?_)<;>try(cases z;done))|apply ae ?_|(apply ah fun K hK=>?_)|apply aj ?_|apply ak ?_|apply ax ?_)
 refine uN (fun m E I=>∃o s2 j,m<=n/\iZ X.p X.fi m x o s2=some r/\E.at 0=.ptr X.rm 0/\E.at 2=.map rv/\E.at 4=.ptr H.next 0/\zc9 X I s2 j/\zda X I rv o j/\FrS X (·=rv) ov (H.alloc (.cells x.cells 0 true)) j I) ?_ (n:=n) ?_
 .rintro m E I ⟨o,s2,j,hmn,J,k0,k2,kK,hR2,S,hf2⟩;cases m with
  |zero=>simp[iZ]at J
  |succ m=>
   unfold iZ at J;simp only[dI]at J;obtain⟨aw,he,J⟩:=J;have kb:=box hf2;repeat' (first
    |(apply ai ?_;clear hK K)|apply Rx.o ?_|apply ae ?_|(apply ah fun K hK=>?_)|apply aj ?_|apply ak ?_|apply ax ?_)
   refine qa ?_;refine a4 ?_ (sE hS X m x.value o s2 aw he rv j _ hR2 S.get S.lt S.nm);rintro v H3 ⟨rfl,O,hf3⟩;have hv3:=S.cW hf3;have Z:=hf2.trans (hf3.b8 _ _);have m3:=O.m;unfold fy at m3;dsimp only[a0];by_cases hc:aw.1≠0/\aw.2.aK=0
   .obtain⟨A,hc2⟩:=hc;rw[au ⟨A,hc2⟩]at J;repeat' (first
     |(apply ai ?_;clear hK K)|apply Ry.o ?_|(apply cE (fun C Y=>?_) (fun C Y=>?_)<;>try(cases C;done))|(apply a2 (fun z V=>?_) (fun z V=>?_)<;>try(cases z;done))|apply ae ?_|(apply ah fun K hK=>?_)|apply aj ?_|apply ak ?_|apply ax ?_)
    refine qa ?_;refine a4 ?_ (NW hS X aw.2 j H3 O);rintro v H4 ⟨F,hf4⟩;have hv4:=hv3.cW hf4;have U:=Z.trans (hf4.b8 _ _);have kb4:=box U;have m4:=F.m;unfold fy at m4;dsimp only[a0];by_cases ht:(ed aw.2).aK=0
    .rw[au ht]at J;simp only[dI]at J;obtain⟨a1,hs2,J⟩:=J;repeat' (first
      |(apply ai ?_;clear hK K)|apply Ry.o ?_|(apply cE (fun C Y=>?_) (fun C Y=>?_)<;>try(cases C;done))|(apply a2 (fun z V=>?_) (fun z V=>?_)<;>try(cases z;done))|apply ae ?_|(apply ah fun K hK=>?_)|apply aj ?_|apply ak ?_|apply ax ?_)
     refine qa ?_;refine a4 ?_ (IH m aa x.a1 o _ a1 hs2 aa (wN ((wT _ _ _).2.2.1 _ _ _ _ J) ho) rv j H4 F hv4);rintro v H5 ⟨ov5,hR5,hv5,hf5⟩;dsimp only[a0];repeat' (first
      |(apply ai ?_;clear hK K)|apply Rx.o ?_|apply ae ?_|(apply ah fun K hK=>?_)|apply aj ?_|apply ak ?_|apply ax ?_)
     exact⟨m,dq m,a1.1,a1.2,ov5,aa,J,eE,eE,eE,hR5,hv5,U.trans hf5⟩
    .rw[ad ht]at J;repeat' (first
      |(apply ai ?_;clear hK K)|apply Ry.o ?_|(apply cE (fun C Y=>?_) (fun C Y=>?_)<;>try(cases C;done))|(apply a2 (fun z V=>?_) (fun z V=>?_)<;>try(cases z;done))|apply ae ?_|(apply ah fun K hK=>?_)|apply aj ?_|apply ak ?_|apply ax ?_)
     exact⟨m,dq m,o,_,j,aa,J,eE,eE,eE,F,hv4,U⟩
   .rw[ad hc]at J;simp only[aH]at J;subst J;have fr0:FrS X (·=rv) ov H ov (H.alloc (.cells x.cells 0 true)):=b1.fr;by_cases A:aw.1=0
    .repeat' (first
      |(apply ai ?_;clear hK K)|apply Ry.o ?_|(apply cE (fun C Y=>?_) (fun C Y=>?_)<;>try(cases C;done))|(apply a2 (fun z V=>?_) (fun z V=>?_)<;>try(cases z;done))|apply ae ?_|(apply ah fun K hK=>?_)|apply aj ?_|apply ak ?_|apply ax ?_)
     all_goals refine qq ?_
     exact⟨j,O,hv3,fr0.trans Z⟩
    .have hc2:¬aw.2.aK=0:=fun e=>hc ⟨A,e⟩;repeat' (first
      |(apply ai ?_;clear hK K)|apply Ry.o ?_|(apply cE (fun C Y=>?_) (fun C Y=>?_)<;>try(cases C;done))|(apply a2 (fun z V=>?_) (fun z V=>?_)<;>try(cases z;done))|apply ae ?_|(apply ah fun K hK=>?_)|apply aj ?_|apply ak ?_|apply ax ?_)
     all_goals refine qq ?_
     exact⟨j,O,hv3,fr0.trans Z⟩
 .exact⟨vs,s,ov,aT _,h,eE,eE,eE,b1.R,b1.v,BK _ _ _ _⟩
end
end
section
def tyW6f.tyF:=ac @dF (ac @cI (ac @cY (ac @fg (ac @fh (ac @eL (ac @jH (ac @dW (ac @dR (ac @dX (ac @dy (ac @ge (ac @eD (ac @pS (ac @tn (ac @tp (ac @yK (@NY)))))))))))))))))
open tyW6f
noncomputable def NZ:{c:SC // aG 27 (f91.body.getD .skip)=c}:=by
 refine⟨?_,?_⟩;rotate_left
 .simp only[f91,bE,aG,bz,bq,bF,bB,Nat.blt,Nat.ble];rfl
noncomputable def N0:{c:SC // aG 45 (f51.body.getD .skip)=c}:=by
 refine⟨?_,?_⟩;rotate_left
 .simp only[f51,bE,aG,bz,bq,bF,bB,Nat.blt,Nat.ble];rfl
def rC(b:Nat)(H:Hp)(v:AV)(l:qp):Prop:=(v=.ab/\l=[])\/∃r,v=.sl r 0 l.length 1/\H.get r=some (.cells (ints l) 0 true)/\b<=r/\r<H.next
def rC.ints(h:rC b H v l):oh H v l:=by
 rcases h with h|⟨r,j,m,_⟩
 .exact .inl h
 .exact .inr ⟨r,j,m⟩
def rC.lt(h:rC b H v l):∀k,iL v k->b<=k/\k<H.next:=fun k ⟨n,e⟩=>by
 rcases h with⟨h,_⟩|⟨r,j,m,A,O⟩
 .rw[h]at e;simp at e
 .rw[j]at e;simp only[AV.sl.injEq]at e;omega
def rC.f9(h:rC b H v l):∀k,pe v k->k<H.next:=fun k ⟨o,n,z,e⟩=>by
 rcases h with⟨h,_⟩|⟨r,j,m,A,O⟩
 .rw[h]at e;simp at e
 .rw[j]at e;simp only[AV.sl.injEq]at e;omega
def rC.mono{H':Hp}(h:rC b H v l)(I:H.next<=H'.next)(C:∀k,b<=k->k<H.next->H'.get k=H.get k):rC b H' v l:=by
 rcases h with h|⟨r,j,m,A,O⟩
 .exact .inl h
 .exact .inr ⟨r,j,by rw[C r A O];exact m,A,aa⟩
section
variable {cfg:Cfg} (hS:Std cfg) (X:Mx) {x:St} {vs:List (aS × Int)} {s:MS} {rv:Nat} {ov:AV} {H:Hp}
set_option maxRecDepth 100000 in
include hS in
def zaK(hk:x.ag=6){Y:qp×MS}(ha:kZ n x.args vs s=some Y)
 (h2:(if (ed Y.2).aK=0 then (i3 X.p X.fi n (de X.fi x.to) Y.1 (ed Y.2)).bind fun a1=>some (setV vs x.name a1.1,a1.2)else some (vs,ed Y.2))=some r)
 (IH:CS cfg X n) (hz:x.sz<2^40) (ho:r.2.out.length<2^40) (j:zc9 X H s ov) (hv:zda X H rv vs ov) :
 aU prog cfg 139 [.ptr X.rm 0,.agg x.cells,.map rv] H (rB X rv ov H r):=by
 have b1:=ua (x:=x) X j hv;have hsz:=x.aJ;have hal:=lH x.args;have hral:=(wS _ _ _ _ ha).2.2.2;have hkeep:cfg.aj 139=false:=hS.aj _;refine a5 (M:=154) (rs:=[]) ((hS.plain _ rfl).call _) (hS.plain _ rfl).ao (hS.plain _ rfl).am func139 rfl rfl ll.2 rfl ?_;dsimp only[ll,a3,Nat.reduceAdd];repeat' (first
  |(apply ai ?_;clear hK K)|apply Ry.o ?_|(apply a2 (fun z V=>?_) (fun z V=>?_)<;>try(cases z;done))|apply ae ?_|(apply ah fun K hK=>?_)|(apply aq 3 [(2,7),(2,8),(5,7)] fun K hK=>?_)|(apply aq 5 [(4,12),(4,17),(4,18),(6,12),(6,17),(6,18),(7,12),(7,17),(7,18),(10,12),(15,12),(15,17)] fun K hK=>?_)|(apply aq 28 [(2,12),(2,13),(7,12),(9,12),(10,12)] fun K hK=>?_)|(apply aM ?_;try intro _)|(apply aR ?_ ?_<;>clear hK K)|apply aL ?_|apply bu rfl ?_|apply aj ?_|apply ak ?_|apply ax ?_)
 refine jU (fun i E J=>∃s2,kZ n (x.args.drop i) vs s2=some (Y.1.drop i,Y.2)/\E.at 0=.ptr X.rm 0/\E.at 2=.map rv/\E.at 4=.ptr H.next 0/\E.at 113=.ai (x.args.map Ex.cells)/\E.at 114=.int .i64 x.args.length/\E.at 115=.int .i64 i /\
  rC (H.next+1) J (E.at 7) (Y.1.take i)/\zc9 X J s2 ov/\FrE X (H.alloc (.cells x.cells 0 true)) J) x.args.length ?_ ?_
 .rintro i E J hi ⟨s2,U,k0,k2,kK,k113,k114,k115,k7,hR2,o⟩;repeat' (first
   |(apply ai ?_;clear hK K)|apply Rx.o ?_|apply aN ?_|(apply aE (fun z V=>?_) (fun z V=>?_)<;>try(cases z;done))|apply ae ?_|(apply ah fun K hK=>?_)|(apply aq 3 [(2,7),(2,8),(5,7)] fun K hK=>?_)|(apply aq 5 [(4,12),(4,17),(4,18),(6,12),(6,17),(6,18),(7,12),(7,17),(7,18),(10,12),(15,12),(15,17)] fun K hK=>?_)|(apply aq 28 [(2,12),(2,13),(7,12),(9,12),(10,12)] fun K hK=>?_)|(apply aM ?_;try intro _)|(apply aR ?_ ?_<;>clear hK K)|apply aL ?_|apply bu rfl ?_|apply aj ?_|apply ak ?_|apply ax ?_)
  .have m:i<x.args.length:=by simpa using z
   have hgx:x.args[i]?=some x.args[i]:=bt m;have hxm:=lK (ek m);rw[fR m]at U;simp only[kZ,dI,cC]at U;obtain⟨aw,he,a1,U,hd,h22⟩:=U;repeat' (first
    |(apply ai ?_;clear hK K)|apply Rx.o ?_|apply aN ?_|(apply aE (fun z V=>?_) (fun z V=>?_)<;>try(cases z;done))|apply ae ?_|(apply ah fun K hK=>?_)|(apply aq 3 [(2,7),(2,8),(5,7)] fun K hK=>?_)|(apply aq 5 [(4,12),(4,17),(4,18),(6,12),(6,17),(6,18),(7,12),(7,17),(7,18),(10,12),(15,12),(15,17)] fun K hK=>?_)|(apply aq 28 [(2,12),(2,13),(7,12),(9,12),(10,12)] fun K hK=>?_)|(apply aM ?_;try intro _)|(apply aR ?_ ?_<;>clear hK K)|apply aL ?_|apply bu rfl ?_|apply aj ?_|apply ak ?_|apply ax ?_)
   generalize hH3:Hp.set _ J.next _=C
   have hn3:C.next=J.next+1:=by rw[<-hH3];rfl
   have hg3:∀k,k<J.next->C.get k=J.get k:=fun k hk=>by rw[<-hH3,aO,ad aa,aP,ad aa]
   have hb3:C.get J.next=some (.cells x.args[i].cells 0 true):=by rw[<-hH3,aO,au rfl]
   have S:zc9 X C s2 ov:=hR2.same aa hg3;have O:FrE X (H.alloc (.cells x.cells 0 true)) C:=o.trans ⟨aa,fun k h1 _=>hg3 k h1⟩;have A:=b1.v.cW O;have k73:=k7.mono (H':=C) aa fun k _ h=>hg3 k h;repeat' (first
    |(apply ai ?_;clear hK K)|apply Rx.o ?_|apply aN ?_|(apply aE (fun z V=>?_) (fun z V=>?_)<;>try(cases z;done))|apply ae ?_|(apply ah fun K hK=>?_)|(apply aq 3 [(2,7),(2,8),(5,7)] fun K hK=>?_)|(apply aq 5 [(4,12),(4,17),(4,18),(6,12),(6,17),(6,18),(7,12),(7,17),(7,18),(10,12),(15,12),(15,17)] fun K hK=>?_)|(apply aq 28 [(2,12),(2,13),(7,12),(9,12),(10,12)] fun K hK=>?_)|(apply aM ?_;try intro _)|(apply aR ?_ ?_<;>clear hK K)|apply aL ?_|apply bu rfl ?_|apply aj ?_|apply ak ?_|apply ax ?_)
   refine qa ?_;refine a4 ?_ (sE hS X n x.args[i] vs s2 aw he rv ov _ S A.get A.lt A.nm);rintro v I ⟨rfl,F,Z⟩;have hn4:=Z.next
   have hlm:=j.lm;have k74:=k73.mono (H':=I) Z.next fun k h1 h2=>Z.get k h2 aa
   have k75:=k74.mono (H':=I.alloc (.cells [.int .i64 aw.1] 0 true)) (eT _) fun k h1 h2=>fX;obtain⟨H6,happ,hn6,hg6,hk6⟩:=BL (P:=prog) (t:=27) underlying27 oW rW rX k75.ints (r':=I.next) (x:=aw.1) fN te;have hlt2:i<Y.1.length:=aa;have htl:(Y.1.take i).length=i:=te;rw[htl]at happ;have happ2:dh prog false (I.alloc (.cells [.int .i64 aw.1] 0 true)) 27 27 (E.at 7) (.sl I.next 0 1 1)=some (.sl (I.next+1) 0 (i+1) 1,H6):=happ;have hk6':∀k,k<H.next+1->H6.get k=I.get k:=fun k hk=>by
    rw[hk6 k (by simp only[br];have:=O.next;simp only[br]at this;omega) (fun e=>by have:=(k75.lt k e).1;omega),aP,ad (by have:=O.next;simp only[br]at this;omega)]
   have hn6':H6.next=I.next+2:=hn6
   have hR6:zc9 X H6 aw.2 ov:=by
    refine F.b4 aa fun k h1 h2=>hk6' k ?_;rcases h2 with h2|h2|h2|h2
    .have:=j.a8 h2;omega
    .have:=j.lc;omega
    .have:=j.lf;omega
    .have:=j.a9 h2;omega
   have hdrop:Y.1.drop (i+1)=a1.1:=by
    rw[<-List.tail_drop,<-hd,List.tail_cons]
   have hget:Y.1[i]?=some aw.1:=by
    rw[<-List.head?_drop,<-hd];rfl
   dsimp only[a0];repeat' (first
    |(apply ai ?_;clear hK K)|apply Rx.o ?_|apply aN ?_|(apply aE (fun z V=>?_) (fun z V=>?_)<;>try(cases z;done))|apply ae ?_|(apply ah fun K hK=>?_)|(apply aq 3 [(2,7),(2,8),(5,7)] fun K hK=>?_)|(apply aq 5 [(4,12),(4,17),(4,18),(6,12),(6,17),(6,18),(7,12),(7,17),(7,18),(10,12),(15,12),(15,17)] fun K hK=>?_)|(apply aq 28 [(2,12),(2,13),(7,12),(9,12),(10,12)] fun K hK=>?_)|(apply aM ?_;try intro _)|(apply aR ?_ ?_<;>clear hK K)|apply aL ?_|apply bu rfl ?_|apply aj ?_|apply ak ?_|apply ax ?_)
   refine⟨m,aw.2,?_,eE,eE,eE,eE,eE,?_,?_,hR6,⟨by have:=O.next;omega,fun k h1 h2=>?_⟩⟩
   .rw[hdrop,U,<-h22]
   .simp only[gc,Nat.reduceBEq,fF,ft (show i<2^62 by omega)]
   .refine .inr ⟨I.next+1,?_,?_,by have:=O.next;simp only[br]at this;omega,aa⟩
    .simp only[gc,Nat.reduceBEq,fF,nS,mF];rw[As aa]
    .rw[show Y.1.take (i+1)=Y.1.take i++[aw.1] by rw[pJ,hget];rfl];exact hg6
   .have h1':k<H.next+1:=h1
    have h3':=O.next
    rw[hk6' k h1',Z.get k aa h2];exact O.get k h1 h2
  .have hia:i=x.args.length:=by simp at z;omega
   subst hia;have hd0:Y.1.drop x.args.length=[]:=oN aa;rw[oN (aT _)]at U;simp only[kZ,cC]at U;obtain⟨_,rfl⟩:=U;rw[iR aa]at k7;clear z V;have hf2':FrS X (·=rv) ov H ov J:=b1.fr.trans (o.b8 _ _);have hv2:=b1.v.cW o;have Gl:J.get H.next=some (.cells x.cells 0 true):=by rw[o.get _ (dq _) FM];exact b1.box
   have hn2:=o.next
   simp only[br]at hn2;refine qa ?_;refine a4 ?_ (NW hS X Y.2 ov J hR2);rintro v C ⟨S,O⟩;have hn3:=O.next
   have A:=hv2.cW O;have hf3':=hf2'.trans (O.b8 _ _);have vI:C.get H.next=some (.cells x.cells 0 true):=by rw[O.get _ aa FM];exact Gl
   have hlm:=j.lm;have k73:=k7.mono (H':=C) O.next fun k h1 h2=>O.get k h2 aa
   have m3:=S.m;unfold fy at m3;dsimp only[a0];by_cases ht:(ed Y.2).aK=0
   .rw[au ht]at h2;simp only[kF]at h2;obtain⟨a1,hc,rfl⟩:=h2;have hlf:=Fp (P:=prog) underlying98 pw (show lU prog 3=some (.int .i64 0) by kernel_rfl) S.f x.to;repeat' (first
     |(apply ai ?_;clear hK K)|apply Ry.o ?_|(apply a2 (fun z V=>?_) (fun z V=>?_)<;>try(cases z;done))|apply ae ?_|(apply ah fun K hK=>?_)|(apply aq 3 [(2,7),(2,8),(5,7)] fun K hK=>?_)|(apply aq 5 [(4,12),(4,17),(4,18),(6,12),(6,17),(6,18),(7,12),(7,17),(7,18),(10,12),(15,12),(15,17)] fun K hK=>?_)|(apply aq 28 [(2,12),(2,13),(7,12),(9,12),(10,12)] fun K hK=>?_)|(apply aM ?_;try intro _)|(apply aR ?_ ?_<;>clear hK K)|apply aL ?_|apply bu rfl ?_|apply aj ?_|apply ak ?_|apply ax ?_)
    refine qa ?_;refine a4 ?_ (IH _ _ _ a1 hc ho aa (E.at 7) ov C S k73.ints.fb (fun b z=>k73.f9 b z));rintro v I ⟨rfl,ov4,F,Z⟩;have hn4:=Z.next
    have hv4:=A.eX Z (fun e=>e);have m4:=F.m;unfold fy at m4;have kb4:I.get H.next=some (.cells x.cells 0 true):=by
     rw[Z.aj j (aT _) aa (fun e=>e)];exact vI
    have hlf4:=Fp (P:=prog) underlying98 pw (show lU prog 3=some (.int .i64 0) by kernel_rfl) F.f x.to;have hu:=yS (P:=prog) underlying165 pw hv4.get x.name a1.1;dsimp only[a0];repeat' (first
     |(apply ai ?_;clear hK K)|apply Rx.o ?_|apply aN ?_|(apply aE (fun z V=>?_) (fun z V=>?_)<;>try(cases z;done))|apply ae ?_|(apply ah fun K hK=>?_)|(apply aq 3 [(2,7),(2,8),(5,7)] fun K hK=>?_)|(apply aq 5 [(4,12),(4,17),(4,18),(6,12),(6,17),(6,18),(7,12),(7,17),(7,18),(10,12),(15,12),(15,17)] fun K hK=>?_)|(apply aq 28 [(2,12),(2,13),(7,12),(9,12),(10,12)] fun K hK=>?_)|(apply aM ?_;try intro _)|(apply aR ?_ ?_<;>clear hK K)|apply aL ?_|apply bu rfl ?_|apply aj ?_|apply ak ?_|apply ax ?_)
    .exact di
    .all_goals refine qq ?_
     obtain⟨q1,q2,q3⟩:=F.setV hv4 (setV vs x.name a1.1);exact⟨ov4,q1,q2,(hf3'.trans (Z.cw fun r _ e=>e.elim)).trans q3⟩
   .rw[ad ht,aH]at h2;subst h2;repeat' (first
     |(apply ai ?_;clear hK K)|apply Ry.o ?_|(apply a2 (fun z V=>?_) (fun z V=>?_)<;>try(cases z;done))|apply ae ?_|(apply ah fun K hK=>?_)|(apply aq 3 [(2,7),(2,8),(5,7)] fun K hK=>?_)|(apply aq 5 [(4,12),(4,17),(4,18),(6,12),(6,17),(6,18),(7,12),(7,17),(7,18),(10,12),(15,12),(15,17)] fun K hK=>?_)|(apply aq 28 [(2,12),(2,13),(7,12),(9,12),(10,12)] fun K hK=>?_)|(apply aM ?_;try intro _)|(apply aR ?_ ?_<;>clear hK K)|apply aL ?_|apply bu rfl ?_|apply aj ?_|apply ak ?_|apply ax ?_)
    all_goals refine qq ?_
    exact⟨ov,S,A,hf3'⟩
 .refine⟨s,ha,eE,eE,eE,eE,eE,eE,.inl ⟨eE,rfl⟩,b1.R,iz _ _⟩
set_option maxRecDepth 100000 in
include hS in
def zaL(IH:∀m,m<N->Gq cfg X m):xo cfg X N:=by
 intro l vs s r h hz ho rv ov H hR hv;have hlen:=mS l;refine a5 (M:=27) (rs:=[]) ((hS.plain _ rfl).call _) (hS.plain _ rfl).ao (hS.plain _ rfl).am func91 rfl rfl NZ.2 rfl ?_;dsimp only[NZ,a3,Nat.reduceAdd];repeat' (first
  |(apply ai ?_;clear hK K)|apply Rx.o ?_|apply ae ?_|(apply ah fun K hK=>?_)|apply aj ?_|apply ak ?_|apply ax ?_)
 refine jU (fun i E F=>∃m o A j,m<=N/\fE X.p X.fi m (l.drop i) o A=some r/\E.at 0=.ptr X.rm 0/\E.at 1=.ai (l.map St.cells)/\E.at 2=.map rv/\E.at 6=.int .i64 i/\zc9 X F A j/\zda X F rv o j/\FrS X (·=rv) ov H j F) l.length ?_ ?_
 .rintro i E F hi ⟨m,o,A,j,hmN,J,k0,k1,k2,k6,Z,S,O⟩;have m2:=Z.m;unfold fy at m2;cases m with
  |zero=>simp[fE]at J
  |succ m=>
   by_cases z:i<l.length
   .have hgx:l[i]?=some l[i]:=bt z;have hxm:=l9 (ek z);rw[fR z]at J;unfold fE at J;simp only[]at J;by_cases h0:A.aK=0
    .rw[ad (by simp[h0])]at J;simp only[dI]at J;obtain⟨aw,hs1,J⟩:=J;have I:(i:Int)<(l.length:Int):=aa;repeat' (first
      |(apply ai ?_;clear hK K)|apply Ry.o ?_|(apply cE (fun C Y=>?_) (fun C Y=>?_)<;>try(cases C;done))|(apply a2 (fun U V=>?_) (fun U V=>?_)<;>try(cases U;done))|apply ae ?_|(apply ah fun K hK=>?_)|apply aj ?_|apply ak ?_|apply ax ?_)
     refine qa ?_;refine a4 ?_ (IH m aa l[i] o A aw hs1 aa (wN ((wT _ _ _).2.1 _ _ _ _ J) ho) rv j F Z S);rintro v H3 ⟨ov3,hR3,hv3,hf3⟩;dsimp only[a0];repeat' (first
      |(apply ai ?_;clear hK K)|apply Rx.o ?_|apply ae ?_|(apply ah fun K hK=>?_)|apply aj ?_|apply ak ?_|apply ax ?_)
     refine⟨z,m,aw.1,aw.2,ov3,aa,J,eE,eE,eE,?_,hR3,hv3,O.trans hf3⟩;simp only[gc,Nat.reduceBEq,fF,ft (show i<2^62 by omega)]
    .rw[au h0,aH]at J;subst J;have I:(i:Int)<(l.length:Int):=aa;repeat' (first
      |(apply ai ?_;clear hK K)|apply Ry.o ?_|(apply cE (fun C Y=>?_) (fun C Y=>?_)<;>try(cases C;done))|(apply a2 (fun U V=>?_) (fun U V=>?_)<;>try(cases U;done))|apply ae ?_|(apply ah fun K hK=>?_)|apply aj ?_|apply ak ?_|apply ax ?_)
     all_goals refine qq ?_
     exact⟨j,Z,S,O⟩
   .rw[oN aa]at J;simp only[fE,aH]at J;subst J;have I:¬(i:Int)<(l.length:Int):=aa;repeat' (first
     |(apply ai ?_;clear hK K)|apply Ry.o ?_|(apply cE (fun C Y=>?_) (fun C Y=>?_)<;>try(cases C;done))|(apply a2 (fun U V=>?_) (fun U V=>?_)<;>try(cases U;done))|apply ae ?_|(apply ah fun K hK=>?_)|apply aj ?_|apply ak ?_|apply ax ?_)
    all_goals refine qq ?_
    exact⟨j,Z,S,O⟩
 .exact⟨N,vs,s,ov,aT _,fQ,eE,eE,eE,eE,hR,hv,BK _ _ _ _⟩
end
end
section
def tyW6g.tyF:=ac @dF (ac @cI (ac @cY (ac @fg (ac @fh (ac @eL (ac @jH (ac @dW (ac @dR (ac @dX (ac @dy (ac @ge (ac @eD (ac @pS (ac @tn (ac @tp (@yK))))))))))))))))
open tyW6g
theorem N1:∀{J:List aS}{al:qp}{vs r:List (aS×Int)},mh J al vs=some r->J.length<=al.length
 |[],_,_,_,_=>dx _
 |_::_,[],_,_,h=>by simp[mh]at h
 |p::J,a::al,vs,r,h=>by
  simp only[mh]at h;have:=N1 h;simp;omega
section
variable {cfg:Cfg} (hS:Std cfg) (X:Mx)
set_option maxRecDepth 100000 in
include hS in
theorem zaM(hpz:X.p.sz<2^40)(IH:xo cfg X N):CS cfg X (N+1):=by
 intro k al s r h ho hal av ov H U hav halt;unfold i3 at h;by_cases hk0:k<0
 .rw[au hk0]at h;simp at h
 rw[ad hk0]at h;simp only[dI]at h;obtain⟨f,hf,vs,hv,aw,hs,he⟩:=h;have hk0':0<=k:=aa;have hm:=U.m;unfold fy at hm;have hpsz:X.p.sz=1+ez X.p.af+dY X.p.funcs:=rfl;have hfm:=nX (fq hf);have hfsz:f.sz=1+f.name.length+db f.params+db f.ah+a6 f.body+f.value.sz:=rfl;have hpl:=ig f.params;have hpal:=N1 hv;refine a5 (M:=45) (rs:=[.tmp 6]) ((hS.plain _ rfl).call _) (hS.plain _ rfl).ao (hS.plain _ rfl).am func51 rfl rfl N0.2 rfl ?_;dsimp only[N0,a3,Nat.reduceAdd];repeat' (first
  |(apply ai ?_;clear hK K)|apply Rx.o ?_|apply aN ?_|(apply aE (fun z V=>?_) (fun z V=>?_)<;>try(cases z;done))|apply ae ?_|(apply ah fun K hK=>?_)|apply aj ?_|apply ak ?_|apply am ?_|apply ax ?_)
 generalize J:Hp.alloc _ (HB.map [])=H1;have hn1:H1.next=H.next+2:=tM
 have hg1:∀r,r<H.next->H1.get r=H.get r:=fun r hr=>FU
 have hbox1:H1.get H.next=some (.cells f.cells 0 true):=by rw[<-J,aP,ad gA,aO,au rfl]
 have hmap1:H1.get (H.next+1)=some (.map (dL [])):=by rw[<-J,aP,au gB];rfl
 have hR1:zc9 X H1 s ov:=U.same aa hg1;have hvo:∀Z o,Z.get (H.next+1)=some (.map (dL o))->H1.next<=Z.next->zda X Z (H.next+1) o ov:=fun Z o j m=>
  ⟨j,aa,fun e=>by have:=U.a8 e;omega,by have:=U.lc;omega,by have:=U.lf;omega,fun e=>by have:=U.a9 e;omega⟩
 repeat' (first
  |(apply ai ?_;clear hK K)|apply Rx.o ?_|apply aN ?_|(apply aE (fun z V=>?_) (fun z V=>?_)<;>try(cases z;done))|apply ae ?_|(apply ah fun K hK=>?_)|apply aj ?_|apply ak ?_|apply am ?_|apply ax ?_)
 refine jU (fun i E Z=>∃o,mh (f.params.drop i) (al.drop i) o=some vs/\E.at 0=.ptr X.rm 0/\E.at 2=av/\E.at 7=.ptr H.next 0/\E.at 8=.map (H.next+1)/\E.at 21=cD f.params/\E.at 22=.int .i64 f.params.length/\E.at 23=.int .i64 i /\
  Z.get (H.next+1)=some (.map (dL o))/\H1.next<=Z.next/\∀r,r<H1.next->r≠H.next+1->Z.get r=H1.get r) f.params.length ?_ ?_
 .rintro i E Z hi ⟨o,Y,k0,k2,k7,k8,k21,k22,k23,I,A,C⟩;repeat' (first
   |(apply ai ?_;clear hK K)|apply Rx.o ?_|apply aN ?_|(apply aE (fun z V=>?_) (fun z V=>?_)<;>try(cases z;done))|apply ae ?_|(apply ah fun K hK=>?_)|apply aj ?_|apply ak ?_|apply am ?_|apply ax ?_)
  .have hlt:i<f.params.length:=by simpa using z
   have O:i<al.length:=aa;have hgx:f.params[i]?=some f.params[i]:=bt hlt;rw[fR hlt,fR O]at Y;simp only[mh]at Y;obtain⟨a,hia,hld⟩:=hav.at (P:=prog) (t:=27) underlying27 underlying2 oW O;have hld2:=hld Z fun r hr=>by
    have:=halt r hr;rw[C r aa aa];exact hg1 r this
   have hu:=yS (P:=prog) underlying165 pw I f.params[i] (al.getD i 0);have hgd:al[i]=al.getD i 0:=by rw[iY,bt O,bE]
   rw[hgd]at Y;repeat' (first
    |(apply ai ?_;clear hK K)|apply Rx.o ?_|apply aN ?_|(apply aE (fun z V=>?_) (fun z V=>?_)<;>try(cases z;done))|apply ae ?_|(apply ah fun K hK=>?_)|apply aj ?_|apply ak ?_|apply am ?_|apply ax ?_)
   refine⟨hlt,_,Y,eE,eE,eE,eE,eE,eE,?_,iG,A,fun r j m=>?_⟩
   .simp only[gc,Nat.reduceBEq,fF,ft (show i<2^62 by omega)]
   .rw[aO,ad m];exact C r j m
  .have hie:f.params.length<=i:=by simp at z;omega
   rw[oN hie]at Y;simp only[mh,aH]at Y;subst Y;clear hie z V;have hbox2:Z.get H.next=some (.cells f.cells 0 true):=by rw[C _ aa aa];exact hbox1
   have hR2:zc9 X Z s ov:=hR1.b4 A fun r j m=>C r j (by
    rcases m with m|m|m|m
    .have:=U.a8 m;omega
    .have:=U.lc;omega
    .have:=U.lf;omega
    .have:=U.a9 m;omega)
   have hv2:=hvo Z o I A;have f02:FrS X (fun _=>False) ov H ov Z:=⟨aa,fun r j m h3 h4=>by rw[C r aa aa];exact hg1 r j,fun r h=>.inl h⟩;repeat' (first
    |(apply ai ?_;clear hK K)|apply Rx.o ?_|apply aN ?_|(apply aE (fun z V=>?_) (fun z V=>?_)<;>try(cases z;done))|apply ae ?_|(apply ah fun K hK=>?_)|apply aj ?_|apply ak ?_|apply am ?_|apply ax ?_)
   refine qa ?_;refine a4 ?_ (IH f.body o s aw hs aa (by rw[<-(mq _ _ _ _ _ he).1];exact ho) (H.next+1) ov Z hR2 hv2);rintro v H3 ⟨ov3,hR3,F,S⟩;have hn3:=S.next
   have hbox3:H3.get H.next=some (.cells f.cells 0 true):=by rw[S.aj U (aT _) aa aa];exact hbox2
   dsimp only[a0];repeat' (first
    |(apply ai ?_;clear hK K)|apply Rx.o ?_|apply aN ?_|(apply aE (fun z V=>?_) (fun z V=>?_)<;>try(cases z;done))|apply ae ?_|(apply ah fun K hK=>?_)|apply aj ?_|apply ak ?_|apply am ?_|apply ax ?_)
   refine qa ?_;refine a4 ?_ (sE hS X N f.value aw.1 aw.2 r he (H.next+1) ov3 H3 hR3 F.get F.lt F.nm);rintro v H4 ⟨rfl,hR4,hf4⟩;have hn4:=hf4.next
   dsimp only[a0];repeat' (first
    |(apply ai ?_;clear hK K)|apply Rx.o ?_|apply aN ?_|(apply aE (fun z V=>?_) (fun z V=>?_)<;>try(cases z;done))|apply ae ?_|(apply ah fun K hK=>?_)|apply aj ?_|apply ak ?_|apply am ?_|apply ax ?_)
   all_goals refine qq ?_
   refine⟨fT,ov3,hR4,aa,fun r j m h3 h4=>?_,fun r j=>?_⟩
   .rw[hf4.get r aa (fun e=>m (.inl e)),S.get r aa m h3 aa];exact f02.get r j m h3 h4
   .rcases S.out r j with e|e
    .exact .inl e
    .exact .inr aa
 .refine⟨[],by simpa using hv,eE,eE,eE,eE,eE,eE,eE,hmap1,aT _,fun _ _ _=>rfl⟩
include hS in
def zaN(A:∀m,m<N->xo cfg X m)(I:∀m,m<N->CS cfg X m):Gq cfg X N:=by
 intro x vs s r h F M rv ov H j U;cases N with
 |zero=>simp[lN]at h
 |succ n=>
  unfold lN at h;by_cases Z:x.ag=1
  .rw[au Z]at h;simp only[kF]at h;obtain⟨aw,C,rfl⟩:=h;exact zaD hS X Z C j U
  rw[ad Z]at h;by_cases Y:x.ag=2
  .rw[au Y]at h;simp only[kF]at h;obtain⟨aw,C,a1,z,rfl⟩:=h;exact zaE hS X Y C z j U
  rw[ad Y]at h;by_cases V:x.ag=3
  .rw[au V]at h;simp only[dI]at h;obtain⟨aw,C,h⟩:=h;exact zaF hS X V C h (A n (dq n)) F M j U
  rw[ad V]at h;by_cases O:x.ag=4
  .rw[au O]at h;exact zaJ hS X O h (fun m hm=>A m aa) F M j U
  rw[ad O]at h;by_cases J:x.ag=5
  .rw[au J]at h;simp only[kF]at h;obtain⟨aw,C,rfl⟩:=h;exact zaG hS X J C M j U
  rw[ad J]at h;by_cases S:x.ag=6
  .rw[au S]at h;simp only[dI]at h;obtain⟨ra,o,h⟩:=h;exact zaK hS X S o h (I n (dq n)) F M j U
  rw[ad S]at h;by_cases K:x.ag=7
  .rw[au K,aH]at h;subst h;exact zaH hS X K j U
  rw[ad K,aH]at h;subst h;exact zaI hS X Z Y V O J S K j U
include hS in
def zaO(U:X.p.sz<2^40)(N:Nat):Gq cfg X N/\xo cfg X N/\CS cfg X N:=by
 induction N using Nat.strongRecOn with
 |_ N S=>
  refine⟨zaN hS X (fun m M=>(S m M).2.1) (fun m M=>(S m M).2.2),zaL hS X (fun m M=>(S m M).1),?_⟩;cases N with
  |zero=>intro k al s r h;simp[i3]at h
  |succ n=>exact zaM hS X U (S n (dq n)).2.1
end
end
section
def tyW6h.tyF:=ac @dF (ac @cI (ac @cY (ac @fg (ac @fh (ac @eL (ac @jH (ac @rZ (ac @pR (ac @dW (ac @dR (ac @dy (ac @ge (ac @iW (ac @pS (ac @tn (@tp))))))))))))))))
open tyW6h
noncomputable def ub:{c:SC // aG 124 (f23.body.getD .skip)=c}:=by
 refine⟨?_,?_⟩;rotate_left
 .simp only[f23,bE,aG,bz,bq,bF,bB,Nat.blt,Nat.ble];rfl
def zaP(p:Pr)(f:Int)(U rf:Nat):cQ prog 119 [(0,.agg p.cells),(3,.int .i64 f),(1,.map U),(2,.map rf)]=some (.agg [.ai (p.af.map Ar.cells),.ai (p.funcs.map Fu.cells),.map U,.map rf,.int .i64 f,.int .i64 0,.int .i64 0,.ab]):=by
 rw[Bj];kernel_rfl
def N2:cQ prog 51 []=some (.agg [.int .i64 0,.int .i64 0,.ab,.int .i64 0]):=aA
def zaQ(c:Int):cQ prog 51 [(0,.int .i64 2),(1,.int .i64 c),(2,.ab)]=some (.agg [.int .i64 2,.int .i64 c,.ab,.int .i64 0]):=aA
def zaR(c:Int)(r o n z:Nat):cQ prog 51 [(0,.int .i64 2),(1,.int .i64 c),(2,.sl r o n z)]=some (.agg [.int .i64 2,.int .i64 c,.sl r o n z,.int .i64 0]):=aA
def zaS:cQ prog 51 [(0,.int .i64 3),(2,.ab)]=some (.agg [.int .i64 3,.int .i64 0,.ab,.int .i64 0]):=aA
def zaT(r o n z:Nat):cQ prog 51 [(0,.int .i64 3),(2,.sl r o n z)]=some (.agg [.int .i64 3,.int .i64 0,.sl r o n z,.int .i64 0]):=aA
def zaU(v:Int):cQ prog 51 [(0,.int .i64 1),(3,.int .i64 v),(2,.ab)]=some (.agg [.int .i64 1,.int .i64 0,.ab,.int .i64 v]):=aA
def zaV(v:Int)(r o n z:Nat):cQ prog 51 [(0,.int .i64 1),(3,.int .i64 v),(2,.sl r o n z)]=some (.agg [.int .i64 1,.int .i64 0,.sl r o n z,.int .i64 v]):=aA
theorem jJ(a b c d:AV):cH 4 [a,b,c,d]=some (.agg [a,b,c,d]):=rfl
end
end Go.Proofs.YtbflaciihaijgaaGreat
namespace Go.Ab
set_option maxRecDepth 20000
open Go Go.WideShapes Go.Deep Go.RowKit Go.ChangeShapes
variable{t:TypeId}{v:Value}
def oC(W:World):Nat->Nat->qH:=fun b o=>W.cell? ⟨b,o,none⟩
def zaW(W:World):∀b o v,oC W b o=some v->W.cell? ⟨b,o,none⟩=some v:=fun _ _ _ h=>h
section
variable {H:Type} {enc:TypeId × Value -> H} {P:Program} {W:World}
theorem zaX{r:Reach}{b0:Nat}{e:TypeId}{k:IntKind}{d:DataW H}{ps:List MemPlace}{sp:Nat->Bool}{U:Bool}(ht:P.underlying t=some (.slice e))(he:P.underlying e=some (.int k))(hc:P.cellsOf e=1)(I:Value.okWide P W r b0 t v)(hd:DataW.Trod enc P W 0 sp U t v d ps)(β:Nat->Option (Nat×Nat×Nat))(ρ:Nat->Int):
 ∃l:qp,VR ⟨β,oC W,ρ⟩ (.ai (l.map fun n=>[AV.int k n])) v/\l.length<=maxLen/\∀n∈l,(Lit.int k n).wf=true:=by
 obtain⟨gM,ng,O,rfl⟩:=okWide_slice ht I;obtain⟨fuel,hf⟩:=hd;rcases open_slice1 ht hc hf with⟨h,_⟩|⟨a,len,cap,m,n,V,D,Pl,h,hb,hl,hm,hmm,hx,hV⟩
 .simp[Value.cells]at h;obtain⟨rfl,rfl,rfl⟩:=h;exact⟨[],.cb _ _,dx _,fun _ h=>absurd h aI⟩
 .simp[Value.cells]at h;obtain⟨rfl,rfl,rfl⟩:=h;have hlm:ng<=m:=by rw[hmm];split<;>omega
  have A:∀i,∃n:Int,i<ng->V i=.int k n/\(Lit.int k n).wf=true:=fun i=>by
   by_cases F:i<ng
   .obtain⟨n',h1,_,h2⟩:=DataW.trod_int he (hV i aa).2;simp at h1;exact⟨n',fun _=>⟨h1,h2⟩⟩
   .exact⟨0,fun h=>absurd h F⟩
  obtain⟨N,M⟩:=Gp A;have hN:∀i,i<ng->V i=.int k (N i):=fun i h=>(M i h).1;refine⟨(List.range ng).map N,?_,ce,fun n C=>by
   obtain⟨i,F,rfl⟩:=l3.1 C;exact(M i (nO.1 F)).2⟩
  by_cases h0:ng=0
  .subst h0;exact .cb _ _
  obtain⟨ab,ao,K⟩:=a;have Y:K=none:=by
   have:=(hV 0 aa).1;simp only[Addr.add,bw,World.cell?]at this;split at this
   .split at this
    .cases this
    .rename_i C;cases K with
     |none=>rfl
     |some s=>simp at C
   .cases this
  subst Y;have S:(((List.range ng).map N).map fun n=>[AV.int k n]).length=ng:=aI;have J:=VR.ai (G:=⟨β,oC W,ρ⟩) (xs:=((List.range ng).map N).map fun n=>[AV.int k n]) (b:=ab) (o:=ao) (cap:=O) (z:=1) (fun i _=>V i) ?_ ?_ ?_ (by rw[S];omega)
  .rw[S]at J;exact J
  .intro i row hr;rw[ev]at hr;cases hq:((List.range ng).map N)[i]? with
   |none=>rw[hq]at hr;simp at hr
   |some q=>rw[hq]at hr;simp only[iT]at hr;rw[<-hr];rfl
  .intro i j F hj;rw[S]at F;have h2:=(hV i aa).1;show W.cell? ⟨ab,ao+i*1+j,none⟩=some (V i);have hj0:j=0:=aa;subst hj0;rw[<-h2]
   congr 1
   unfold Addr.add;split
   .rename_i h;subst h;rfl
   .simp
  .intro i j row c hr Z;rw[ev,ev]at hr;by_cases F:i<ng
   .rw[uC F]at hr;simp only[iT]at hr;subst hr;cases j with
    |zero=>
     simp only[kW,aH]at Z;subst Z;show VR _ _ (V i);rw[hN i F];exact .int k _
    |succ j=>simp at Z
   .rw[oS ce]at hr;simp at hr
def Gs(Z:laidOutB P=true)(hr:P.readableRec t=true)(K:t<P.types.size){j:World}{d:DataW H}{ps m:List MemPlace}
 (h:DataW.Trod enc P W 0 (fun _=>true) true t v d ps) (V:Below W.heap.size W j) (z:∀p∈m,p.block<W.heap.size) (Y:∀p∈ps,p∈m) {J:Nat->Bool} (I:∀p∈m,J p.block=true) :
 DataW.Trod enc P j 0 J true t v d ps:=
 WideElems.Trod_stays Z hr K h (fun x hx=>V.same (z x (Y x hx))) fun x hx=>I x (Y x hx)
end
end Go.Ab
namespace Go.Proofs.YtbflaciihaijgaaGreat
set_option maxRecDepth 20000
open Go Go.Ab Proofs.Tryz
variable{H:Hp}
def gG(l:qp):AV:=.ai (l.map fun n=>[.int .i64 n])
theorem N3:∀{a b:qp},(a.map fun n=>[AV.int .i64 n])=(b.map fun n=>[AV.int .i64 n])->a=b
 |[],[],_=>rfl
 |[],_::_,h=>by simp at h
 |_::_,[],h=>by simp at h
 |x::a,y::b,h=>by
  simp only[el,ew,AV.int.injEq,iw]at h;rw[h.1,N3 h.2]
def CT{a b:qp}(h:gG a=gG b):a=b:=N3 (by simpa only[gG,AV.ai.injEq]using h)
def zC(l:qp):fj (gG l):=.map fun n _=>.cons (.int _ _) .nil
def zaY{n:Nat}(h:n<=maxLen):n<2^63:=wN h cy
def zaZ:prog.cellsOf 3=1:=aA
set_option maxRecDepth 100000 in
def za0{H:Type}{enc:TypeId×Value->H}{W:World}{C:Value}{r:Reach}{A:Nat}(k0:Value.okWide prog W r A 26 C){d:DataW H}{ps:List MemPlace}{J:Nat->Bool}{S:Bool}(I:DataW.Trod enc prog W 0 J S 26 C d ps):∃l:qp,VR ⟨fun _=>none,oC W,fun _=>0⟩ (gG l) C/\l.length<2^63/\∀n∈l,-9223372036854775808<=n/\n<9223372036854775808:=by
 obtain⟨l,U,K,hr⟩:=zaX underlying26 underlying3 zaZ k0 I (fun _=>none) (fun _=>0);refine⟨l,U,zaY K,fun n Z=>?_⟩;have h:=hr n Z;have o:IntKind.min .i64=-9223372036854775808:=cy;have Y:IntKind.max .i64=9223372036854775807:=cy;simp only[Lit.wf,jj,o,Y]at h;omega
def N4{cfg:Cfg}(fit:Fit prog){ρ:Nat->Int}(o:mH cfg.cj ρ)(K:∀f j r,cfg.call f j=some r->bJ prog ρ f j r){g:FuncId}{j:qm}{r:AV}{m n:Nat}
 (J:gg j) (h:aU prog cfg g j bV fun v H'=>∃u,iceV H' m v=some u/\bW n u=r):bJ prog ρ g j r:=by
 unfold aU at h;obtain⟨v,H',Z,u,Y,A⟩:=h;refine FY n (u5 (m:=m) fit o K J ?_) A;unfold aU;exact⟨v,H',Z,Y⟩
structure zdh where
 p:Pr
 nm:aS
 al:qp
 aC:Int
variable{x:zdh}{p:Pr}
def j9(x:zdh):qm:=[.agg x.p.cells,.ae x.nm,gG x.al,.int .i64 x.aC]
def Gt(x y:zdh)(h:j9 x=j9 y):x=y:=by
 obtain⟨p,Y,al,J⟩:=x;obtain⟨z,Z,C,F⟩:=y;simp only[j9,ew,AV.agg.injEq,AV.ae.injEq,AV.int.injEq,iw]at h;obtain⟨j,rfl,A,rfl⟩:=h;rw[Pr.inj j,CT A]
def kH(p:Pr):List (aS×Int):=fI p.funcs 0 []
structure zdh.ok (x:zdh):Prop where
 v:zdd x.p
 sz:x.p.sz<2^36
 f0:0<=x.aC
 f1:x.aC<=1000
 has:fJ (kH x.p) x.nm=true
 k0:0<=de (kH x.p) x.nm
 fn:∃f,x.p.funcs[(de (kH x.p) x.nm).toNat]?=some f/\f.params.length=x.al.length
 al:x.al.length<2^36
def zdh.ok.fw(h:x.ok):∃r:Int×MS,∃n,i3 x.p (kH x.p) n (de (kH x.p) x.nm) x.al (ol x.p x.aC)=some r/\r.2.out.length<=300000:=by
 obtain⟨f,j,m⟩:=h.fn;obtain⟨n,r,A⟩:=h.v.run h.k0 j m h.f0 h.f1;exact⟨r,n,A⟩
noncomputable def Gu(x:zdh):Oc:=open Classical in
 if h:∃r:Int×MS,∃n,i3 x.p (kH x.p) n (de (kH x.p) x.nm) x.al (ol x.p x.aC)=some r/\r.2.out.length<=300000 then j0 (Classical.choose h)else ⟨0,0,[],0⟩
def ik(o:Oc):AV:=.agg [.int .i64 o.ag,.int .i64 o.aw,gG o.out,.int .i64 o.value]
theorem N5(H:Hp)(n:Nat):∀l:qp,iceL (iceV H (n+1)) (ints l)=some (ints l)
 |[]=>rfl
 |a::l=>by
  have:=N5 H n l;have e:iceV H (n+1) (.int .i64 a)=some (.int .i64 a):=rfl;simp only[ints,el,iceL,e]at this⊢;rw[this]
theorem za1(l:qp):gk 1 l.length (ints l)=l.map fun n=>[AV.int .i64 n]:=by
 induction l with
 |nil=>rfl
 |cons a l ih=>simp only[ints,el,gN,gk]at ih⊢;simp[ih]
theorem oh.iceV{H:Hp}{v:AV}{l:qp}(h:oh H v l)(n:Nat):∃u,iceV H (n+2) v=some u/\∀k,bW (k+2) u=gG l:=by
 rcases h with⟨rfl,rfl⟩|⟨r,rfl,m⟩
 .exact⟨.ab,rfl,fun k=>rfl⟩
 .refine⟨gG l,?_,fun k=>?_⟩
  .have e:Ab.iceV H (n+2) (.sl r 0 l.length 1)=match H.get r with
    |some (.cells cs _ _)=>match iceL (Ab.iceV H (n+1)) ((cs.drop 0).take (l.length*1))with
     |some M=>if M.length=l.length*1 then some (.ai (gk 1 l.length M))else none
     |none=>none
    |_=>none:=rfl
   rw[e,m];simp only[gV,jS];rw[iR (by simp[ints]),N5];simp only[og,bw,za1];rfl
  .show AV.ai ((l.map fun n=>[AV.int .i64 n]).map fun z=>z.map (bW (k+1)))=_;rw[ti];rfl
noncomputable def uc:En:=⟨38,false,bS (fun p=>p.sz<2^36) fB fun p=>.int .i64 (gK p)⟩
variable(ρ:Nat->Int)
def za2:cS prog ρ uc:=cZ fun p hp=>ZW ρ p hp
theorem Gv:Std (aF pls [uc]) where
 plain f hf:=by
  have o:Nat.beq 38 f=false:=by
   cases z:Nat.beq 38 f with
   |false=>rfl
   |true=>rw[<-ib z]at hf;exact absurd hf cy
  refine dZ (fun j=>?_) ?_
  .simp only[dD,uc,o]
  .simp only[ir,uc,o]
 aj _:=rfl
 bI:=rfl
theorem zdd.check(h:zdd p):gK p=0:=by rw[gK,h.ex,h.wf,h.du,h.un,h.ba];rfl
def tyN6h.tyF:=ac @dF (ac @cI (ac @cY (ac @fg (ac @fh (ac @eL (ac @jH (ac @rZ (ac @pR (ac @dW (ac @dR (ac @dy (ac @ge (ac @iW (ac @uV (ac @uW (ac @N2 (ac @og (@jJ))))))))))))))))))
open tyN6h
noncomputable def ud:{c:SC // aG 93 (f31.body.getD .skip)=c}:=by
 refine⟨?_,?_⟩;rotate_left
 .simp only[f31,bE,aG,bz,bq,bF,bB,Nat.blt,Nat.ble];rfl
def kI(x:zdh):Bool:=decide (gK x.p=0)&&decide (0<=x.aC)&&decide (x.aC<=1000)&&decide (0<=cm x.p.funcs x.nm 0)&&decide (j3 x.p x.nm=x.al.length)
noncomputable def gi(x:zdh):Oc:=if kI x=true then Gu x else ⟨0,0,[],0⟩
def zdd.prN(h:zdd p)(Y:p.sz<2^34)(a b c:Nat)(rs:qx):PrN ⟨p,a,b,c,rs,kH p⟩ where
 fx s hs:=h.ok.fn s hs
 pz:=Y
 b f hf:=by
   have O:=oR.1 h.un f hf;have J:=oR.1 h.ba f hf;simp only[iB,r7,tz,cN]at O;simp only[j4,r7,tz]at J;exact⟨O.1,J⟩
 v f hf:=by
   have O:=oR.1 h.un f hf;simp only[iB,r7,tz,cN]at O;exact O.2
 nd f hf:=by
  have hd:=h.du;rw[kE,B4,fP,fP]at hd;have:=oR.1 hd.2.2 f hf;exact(CQ.1 (FX _ _ (by simpa using this))).1
theorem N6(s:aS):fJ (kH p) s=bC (p.funcs.map (·.name)) s:=by
 rw[kH,LY];rfl
theorem CU:∀(l:qG) (s:aS) (i:Nat),(0<=cm l s i)↔bC (l.map (·.name)) s=true
 |[],s,i=>by simp[cm,bC]
 |f::l,s,i=>by
  rw[el,vq,cm,ky,kR];by_cases e:f.name=s
  .rw[au e];simp[e]
  .have m:0<=cm l s ((i:Int)+1)↔bC (l.map (·.name)) s=true:=CU l s (i+1);rw[ad e,m];simp[e]
def kI.ok(h:kI x=true)(M:x.p.sz<2^34)(Z:x.al.length<2^34):x.ok:=by
 simp only[kI,jj]at h;obtain⟨⟨⟨⟨j,Y⟩,V⟩,O⟩,J⟩:=h;have U:=L2 j;have A:de (kH x.p) x.nm=cm x.p.funcs x.nm 0:=U.ok.fn _ O;obtain⟨f,F,S⟩:=zd (m:=x.al.length) O J.symm;exact⟨U,aa,Y,V,by rw[N6];exact(CU _ _ 0).1 O,by rw[A];exact O,⟨f,by rw[A];exact F,S⟩,aa⟩
def za3(p:Pr)(f:Int):cQ prog 125 [(0,.agg p.cells),(3,.int .i64 f)]=some (.agg [.ai (p.af.map Ar.cells),.ai (p.funcs.map Fu.cells),.ab,.ab,.int .i64 f,.int .i64 0,.int .i64 0,.ab,.int .i64 0]):=by
 rw[Bj];kernel_rfl
def za4(H:Hp)(r n:Nat):dc prog H 107 1 [(0,.sl r 0 n 1)]=some (.sl H.next 0 1 1,H.alloc (.cells [.sl r 0 n 1] 0 true)):=aA
def za5(v:Int):cQ prog 51 [(0,.int .i64 1),(3,.int .i64 v)]=some (.agg [.int .i64 1,.int .i64 0,.ab,.int .i64 v]):=aA
structure RunT (tb:qu):Prop extends RnT tb where
 ck:∀ar,dD tb 54 ar=Gn.sp ar
abbrev qg:HB:=.cells [.int .i64 0,.int .i64 0,.ab,.int .i64 0] 0 true
structure ArN (p:Pr) (fuel:Int) (i:Nat) (H:Hp) (cv:AV) (rc:Nat) (rs:qx):Prop where
 len:rs.length=i
 nd:rs.Nodup
 b:∀r∈rs,3<=r/\r<H.next
 m:H.get 2=some (.cells [.ai (p.af.map Ar.cells),.ai (p.funcs.map Fu.cells),cv,.ab,.int .i64 fuel,.int .i64 0,.int .i64 0,.ab,.int .i64 0] 0 true)
 c:(cv=.ab/\rc=0/\rs=[])\/(cv=.sl rc 0 i 1/\H.get rc=some (.cells (i8 (fA (p.af.take i)) rs) 0 true)/\3<=rc/\rc<H.next/\rc∉rs)
 cell:∀(j r:Nat) (nm:aS) (l:qp),rs[j]?=some r->(fA (p.af.take i))[j]?=some (nm,l)->H.get r=some (.cells (ints l) 0 true)
 g0:H.get 0=some (.cells p.cells 0 true)
 g1:H.get 1=some qg
 n:3<=H.next
theorem za6{cv:AV}{U:Nat}{L:qm}(K:(cv=.ab/\L=[])\/(cv=.sl U 0 L.length 1/\H.get U=some (.cells L 0 true))){q:Nat}{y:AV}(S:H.get q=some (.cells [y] 0 true))(V:AV.one y=true)(J:L.length<2^40):
 ∃F,dh prog false H 107 107 cv (.sl q 0 1 1)=some (.sl H.next 0 (L.length+1) 1,F)/\F.next=H.next+1/\F.get H.next=some (.cells (L++[y]) 0 true)/\∀k,k<H.next->(cv=.ab\/k≠U)->F.get k=H.get k:=by
 have C:fc H 1 (.sl q 0 1 1)=some (0+1,[y]):=by
  have:=pN (H:=H) (r:=q) (o:=0) (n:=1) (z:=1) (s:=1) S rfl;rw[this];rfl
 have M:dd=70368744177664:=rfl;rcases K with⟨rfl,rfl⟩|⟨rfl,m⟩
 .refine⟨H.alloc (.cells [y] 0 true),append_nil underlying107 Ez EA EB aA C (by simp[V]) rfl jB jB,rfl,wB,fun k O _=>fX⟩
 .refine⟨(H.az U).alloc (.cells (L++[y]) 0 true),Bg underlying107 Ez EA EB aA C (by simp[V]) rfl m aa jB jB,rfl,?_,fun k O Z=>?_⟩
  .show((H.az U).alloc _).get (H.az U).next=_
   rw[aP,au rfl]
  .have Y:k≠U:=Z.resolve_left aI;rw[aP,ad kC,gm,ad Y]
set_option maxRecDepth 100000 in
theorem za7{tb:qu}(hT:RunT tb)(x:zdh)(hz:x.p.sz<2^34)(hal:x.al.length<2^34):
 aU prog (aF pls tb) 31 (j9 x) bV fun v H'=>vj H' v (gi x):=by
 have hw:zc7 (aF pls tb) 31:=hT.plain rfl;have hkeep:(aF pls tb).aj 31=false:=rfl;obtain⟨p,nm,al,J⟩:=x;simp only[]at hz hal;have hpsz:p.sz=1+ez p.af+dY p.funcs:=rfl;have hla:=lJ p.af;have hlf:=lI p.funcs;have F:∀H,aU prog (aF pls tb) 54 [.agg p.cells] H fun v H'=>v=.int .i64 (gK p)/\H'=H:=fun H=>cp (enc:=fB) (ok:=fun p=>p.sz<2^36) (out:=fun p=>.int .i64 (gK p)) pi (x:=p) (hT.ck _) aa;have hfd:=fun H=>hT.find p nm aa H;have hzo:∀H:Hp,vj H (.agg [.int .i64 0,.int .i64 0,.ab,.int .i64 0]) ⟨0,0,[],0⟩:=fun H=>⟨.ab,rfl,.inl ⟨rfl,rfl⟩,fun k ⟨_,_,_,e⟩=>by cases e⟩;have hal2:gG al=.ai (al.map fun n=>[.int .i64 n]):=rfl;have g0:((bV.alloc (.cells p.cells 0 true)).alloc qg).get 0=some (.cells p.cells 0 true):=by simp[aP,br,cR]
 rw[j9];simp only[];by_cases hc:gK p=0
 .by_cases hf:cm p.funcs nm 0<0
  .have ht:gi ⟨p,nm,al,J⟩=⟨0,0,[],0⟩:=by
    rw[gi,ad];simp only[kI,jj];omega
   rw[ht];refine a5 (M:=93) (rs:=[.cell 8 51]) (hw.call _) hw.ao hw.am func31 rfl rfl ud.2 rfl ?_;dsimp only[ud,a3,Nat.reduceAdd];repeat' (first
    |(apply ai ?_;clear hK K)|apply Ry.o ?_|apply bP ?_|(apply cU ?_;first|refine aY (F _) ?_|refine aY (hfd _) ?_)|(apply cE (fun C U=>?_) (fun C U=>?_)<;>try(cases C;done))|(apply a2 (fun O S=>?_) (fun O S=>?_)<;>try(cases O;done))|apply ae ?_|(apply ah fun K hK=>?_)|(apply aq 10 [(4,13),(6,13),(10,13),(11,13),(12,13)] fun K hK=>?_)|(apply aM ?_;try intro _)|(apply aR ?_ ?_<;>clear hK K)|apply aL ?_|apply bu rfl ?_|apply aj ?_|apply ak ?_|apply am ?_|apply ax ?_)
   refine⟨aC,_,(by(try simp only[aK,aW,Nat.reduceBEq,Nat.reduceAdd,Nat.reduceLeDiff,tyF,bU,cc,jJ, *]);first|done|with_reducible rfl),?_⟩;try simp only[aB]
   exact hzo _
  .by_cases hpn:kI ⟨p,nm,al,J⟩=true
   .have hx:=kI.ok hpn hz hal;have he:=hx.fw;have hr:gi ⟨p,nm,al,J⟩=j0 (Classical.choose he):=by rw[gi,au hpn];unfold Gu;rw[dif_pos he]
    obtain⟨n,hcall,ho⟩:=uY he;rw[hr];generalize Classical.choose he=r at *;clear hr he;simp only[]at hcall;obtain⟨hv,_,hf0,hf1,_,_,_,_⟩:=hx;simp only[]at hv hf0 hf1;have hlk:de (kH p) nm=cm p.funcs nm 0:=hv.ok.fn _ aa;rw[hlk]at hcall;have hpn2:=hpn;simp only[kI,jj]at hpn2;obtain⟨f,hfg,hfl⟩:=zd (p:=p) (nm:=nm) (m:=al.length) aa hpn2.2.symm;have hpl:(f.params.length:Int)=al.length:=aa;have hfn:¬J<0:=aa;have hfm:¬1000<J:=aa;have hk0:0<=cm p.funcs nm 0:=aa;have harr:=hv.arr;clear hpn hpn2 hlk;generalize cm p.funcs nm 0=k at *;refine a5 (M:=93) (rs:=[.cell 8 51]) (hw.call _) hw.ao hw.am func31 rfl rfl ud.2 rfl ?_;dsimp only[ud,a3,Nat.reduceAdd];have gh0:=@za3;repeat' (first
     |(apply ai ?_;clear hK K)|apply Ry.o ?_|apply bP ?_|(apply cU ?_;first|refine aY (F _) ?_|refine aY (hfd _) ?_)|(apply cE (fun C U=>?_) (fun C U=>?_)<;>try(cases C;done))|(apply a2 (fun O S=>?_) (fun O S=>?_)<;>try(cases O;done))|apply ae ?_|(apply ah fun K hK=>?_)|(apply aq 10 [(4,13),(6,13),(10,13),(11,13),(12,13)] fun K hK=>?_)|(apply aM ?_;try intro _)|(apply aR ?_ ?_<;>clear hK K)|apply aL ?_|apply bu rfl ?_|apply aj ?_|apply ak ?_|apply am ?_|apply ax ?_)
    refine dG [2,4,8,9,10] [] 11 p.af.length (fun i E H=>∃cv rc rs,ArN p J i H cv rc rs) eE ⟨.ab,0,[],?_⟩ ?_
    .refine⟨rfl,FW,fun r hr=>by simp at hr,?_,.inl ⟨rfl,rfl,rfl⟩,fun j r nm l h=>lC,?_,?_,?_⟩<;>simp[aP,br,cR]
    rintro i E Y hi hcE hrH hnH hsI ⟨cv,rc,rs,I⟩;(try simp only[bL,bK,bb,aK,aW,Nat.reduceBEq,Nat.reduceAdd,Nat.reduceLeDiff,tyF, *]at hcE);(try simp only[bL,bK,bb,aK,aW,Nat.reduceBEq,Nat.reduceAdd,Nat.reduceLeDiff,tyF, *]at hrH);(try simp only[br,bG,cR,bR,Nat.reduceAdd]at hnH);have hm2:=I.m;have hg0:=I.g0;have hn2:=I.n;by_cases hlt:i<p.af.length
    .have hlt':(i:Int)<p.af.length:=by omega
     have hgx:p.af[i]?=some p.af[i]:=bt hlt;obtain⟨ha0,ha1⟩:=harr p.af[i] (ek hlt);have hms:=Kj (P:=prog) (H:=Y) (t:=27) underlying27 oW rW rX ha0 (n:=p.af[i].len) aa;have hz3:fA (p.af.take (i+1))=fA (p.af.take i)++[(p.af[i].name,List.replicate p.af[i].len.toNat 0)]:=by
      unfold fA;rw[pJ,hgx,kT];rfl
     have hzl:(fA (p.af.take i)).length=i:=by simp[fA];omega
     generalize p.af[i]=a at *;have hLl:(i8 (fA (p.af.take i)) rs).length=i:=by rw[Lt (by rw[I.len,hzl]),I.len]
     have hcc:(cv=.ab/\i8 (fA (p.af.take i)) rs=[])\/(cv=.sl rc 0 (i8 (fA (p.af.take i)) rs).length 1/\((Y.alloc (.cells (ints (List.replicate a.len.toNat 0)) 0 true)).alloc (.cells [.sl Y.next 0 a.len.toNat 1] 0 true)).get rc=some (.cells (i8 (fA (p.af.take i)) rs) 0 true)):=by
      rcases I.c with⟨Z,V,A⟩|⟨Z,V,A,h4,h5⟩
      .exact .inl ⟨Z,by rw[A];cases fA (p.af.take i)<;>rfl⟩
      .exact .inr ⟨by rw[hLl];exact Z,by rw[aP,ad bY,aP,ad aa];exact V⟩
     obtain⟨H6,happ,hn6,hg6,hk6⟩:=za6 hcc (q:=Y.next+1) (y:=.sl Y.next 0 a.len.toNat 1) po rfl aa;rw[hLl]at happ;have happ2:dh prog false ((Y.alloc (.cells (ints (List.replicate a.len.toNat 0)) 0 true)).alloc (.cells [.sl Y.next 0 a.len.toNat 1] 0 true)) 107 107 cv (.sl (Y.next+1) 0 1 1)=some (.sl (Y.next+2) 0 (i+1) 1,H6):=happ;have hn6':H6.next=Y.next+3:=hn6
     have g66:H6.get (Y.next+2)=some (.cells (i8 (fA (p.af.take i)) rs++[.sl Y.next 0 a.len.toNat 1]) 0 true):=hg6;have k6:∀q,q<Y.next->(cv=.ab\/q≠rc)->H6.get q=Y.get q:=fun q Z V=>by
      rw[hk6 q bY V,aP,ad bY,aP,ad aa]
     have hrc:cv=.ab\/3<=rc:=by
      rcases I.c with⟨Z,_⟩|⟨_,_,A,_⟩
      .exact .inl Z
      .exact .inr A
     have m6:=(k6 2 aa (hrc.imp id fun h=>aa)).trans hm2;have p6:=(k6 0 aa (hrc.imp id fun h=>aa)).trans hg0;have n6a:Y.next+3<=H6.next:=aa
     have z0:(0 == Y.next)=false:=ay aa;have z1:(2 == Y.next)=false:=ay aa;have z2:(0 == Y.next+1)=false:=ay aa;have z3:(2 == Y.next+1)=false:=ay aa;clear hn6 hn6';have gh0:=@za4;repeat' (first
      |(apply ai ?_;clear hK K)|apply Ry.o ?_|apply bP ?_|(apply cE (fun C U=>?_) (fun C U=>?_)<;>try(cases C;done))|(apply a2 (fun O S=>?_) (fun O S=>?_)<;>try(cases O;done))|apply ae ?_|(apply ah fun K hK=>?_)|(apply aq 10 [(4,13),(6,13),(10,13),(11,13),(12,13)] fun K hK=>?_)|(apply aM ?_;try intro _)|(apply aR ?_ ?_<;>clear hK K)|apply aL ?_|apply bu rfl ?_|apply aj ?_|apply ak ?_|apply am ?_|apply ax ?_)
     .have y1:((Y.alloc (.cells (ints (List.replicate a.len.toNat 0)) 0 true)).alloc (.cells [.sl Y.next 0 a.len.toNat 1] 0 true)).get Y.next=some (.cells (ints (List.replicate a.len.toNat 0)) 0 true):=by rw[aP,ad bY,aP,au rfl]
      have y2:(Y.alloc (.cells (ints (List.replicate a.len.toNat 0)) 0 true)).get Y.next=some (.cells (ints (List.replicate a.len.toNat 0)) 0 true):=fN
      have y3:((Y.alloc (.cells (ints (List.replicate a.len.toNat 0)) 0 true)).alloc (.cells [.sl Y.next 0 a.len.toNat 1] 0 true)).get (Y.next+1)=some (.cells [.sl Y.next 0 a.len.toNat 1] 0 true):=po;exact di
     refine⟨aa,bM,bM,dr,vd,?_⟩;have hs6:∀q,q≠2->∀X,(H6.set 2 X).get q=H6.get q:=fun q h X=>by rw[aO,ad h]
     refine⟨_,Y.next+2,rs++[Y.next],{len:=by simp[I.len],nd:=?_,b:=?_,m:=iG,c:=.inr ⟨rfl,?_,aa,iE,?_⟩,cell:=?_,g0:=?_,g1:=?_,n:=iE}⟩
     .rw[CQ];refine⟨I.nd,aI,fun a ha b O=>?_⟩;simp only[wW]at O;have:=(I.b a ha).2;omega
     .intro r hr;simp only[bG];rcases nN.1 hr with hr|hr
      .have:=I.b r hr;omega
      .simp only[wW]at hr;omega
     .rw[hs6 _ aa,hz3,Lu _ _ _ _ (by rw[I.len,hzl])];simpa using g66
     .intro hr;rcases nN.1 hr with hr|hr
      .have:=I.b _ hr;omega
      .simp only[wW]at hr;omega
     .intro j r nm' l Z V;rw[hz3]at V;by_cases hj:j<i
      .rw[lY (by rw[I.len];exact hj)]at Z;rw[lY (by rw[hzl];exact hj)]at V;have hrm:=I.b r (fq Z);have hne:cv=.ab\/r≠rc:=by
        rcases I.c with⟨A,_⟩|⟨_,_,_,_,h5⟩
        .exact .inl A
        .exact .inr fun e=>h5 (by rw[<-e];exact fq Z)
       rw[hs6 _ aa,k6 r hrm.2 hne];exact I.cell j r nm' l Z V
      .rw[nJ (by rw[I.len];omega)]at Z;rw[nJ (by rw[hzl];omega)]at V;have hj0:j=i:=by
        have A:=(eu.1 Z).1;rw[I.len]at A;simp at A;omega
       subst hj0;simp only[I.len,hzl,uA,kW,cC]at Z V;rw[<-Z,hs6 _ aa,hk6 _ bY ?_,aP,ad bY,aP,au rfl,V.2];rcases I.c with⟨A,_⟩|⟨_,_,_,h5,_⟩
       .exact .inl A
       .exact .inr aa
     .rw[hs6 _ aa];exact p6
     .rw[hs6 _ aa,k6 1 aa (hrc.imp id fun h=>aa)];exact I.g1
    .have hlt':¬(i:Int)<p.af.length:=by omega
     obtain rfl:i=p.af.length:=aa;obtain⟨b7,ci,bX,bQ,dt,fD,hY,a8,a9⟩:=I;rw[yf]at dt fD;have hzl:(fA p.af).length=p.af.length:=by simp[fA]
     have hR2:zdb ⟨p,2,rc,rc,rs,kH p⟩ cv Y (ol p J) .ab J:={
      m:=bQ
      c:=by
       rcases dt with⟨Z,V,A⟩|⟨Z,V,A,h4,h5⟩
       .exact .inl ⟨Z,A⟩
       .exact .inr ⟨by rw[Z,b7],V⟩
      nm:=by simp[ol,fA,a7]
      len:=by rw[b7];exact hzl.symm
      cell:=fD
      out:=.inl ⟨rfl,rfl⟩
      fu:=fun _=>rfl
      cz:=⟨fun _=>rfl,.inl rfl⟩
      lm:=by show 2<Y.next;omega
      lc:=by
       rcases dt with⟨Z,V,A⟩|⟨Z,V,A,h4,h5⟩
       .show rc<Y.next;omega
       .exact h4
      ls:=fun r hr=>(bX r hr).2
      dQ:=by
       rcases dt with⟨Z,V,A⟩|⟨Z,V,A,h4,h5⟩
       .show 2≠rc;omega
       .show 2≠rc;omega
      ms:=fun hr=>by have:=(bX 2 hr).1;omega
      cs:=fun hr=>by
       rcases dt with⟨Z,V,A⟩|⟨Z,V,A,h4,h5⟩
       .have h4:rc∈rs:=hr;rw[A]at h4;cases h4
       .exact h5 hr
      nd:=ci
      rf:=rfl}
     repeat' (first
      |(apply ai ?_;clear hK K)|apply Ry.o ?_|apply bP ?_|(apply cE (fun C U=>?_) (fun C U=>?_)<;>try(cases C;done))|(apply a2 (fun O S=>?_) (fun O S=>?_)<;>try(cases O;done))|apply ae ?_|(apply ah fun K hK=>?_)|(apply aq 10 [(4,13),(6,13),(10,13),(11,13),(12,13)] fun K hK=>?_)|(apply aM ?_;try intro _)|(apply aR ?_ ?_<;>clear hK K)|apply aL ?_|apply bu rfl ?_|apply aj ?_|apply ak ?_|apply am ?_|apply ax ?_)
     refine qa ?_;refine a4 ?_ ((X6 hT.toRnT (cv:=cv) (hv.prN hz 2 rc rc rs) n).2 k al _ r hcall aa aa hk0 ⟨f,hfg,hfl⟩ rfl _ .ab J Y hR2 (.inr (.inl rfl)) (fun b ⟨_,_,_,e⟩=>by cases e));rintro v H3 ⟨rfl,ov3,fu3,hR3,hf3⟩;have g13:H3.get 1=some qg:=by
      rw[hf3.get 1 aa (fun e=>by
       rcases e with e|e
       .have e:(1:Nat)=2:=e;omega
       .have:=(bX 1 e).1;omega) (fun⟨_,e⟩=>by cases e) (fun e=>e)]
      exact a8
     have m3:=hR3.m;unfold nc at m3;simp only[]at m3;have hov:ov3=.ab\/∃r o n z,ov3=.sl r o n z:=by
      rcases hR3.out with⟨Z,V⟩|⟨ro,Z,_⟩
      .exact .inl Z
      .exact .inr ⟨_,_,_,_,Z⟩
     have hblt:∀k,pe ov3 k->k<H3.next:=fun k ⟨o,n,z,e⟩=>by
      rcases hR3.out with⟨Z,V⟩|⟨ro,Z,V,A,_⟩
      .rw[Z]at e;simp at e
      .rw[Z]at e;simp only[AV.sl.injEq]at e;omega
     have hints:∀H':Hp,(∀q,q≠1->q≠2->H'.get q=H3.get q)->oh H' ov3 r.2.out:=fun H' hq=>by
      rcases hR3.out with⟨Z,V⟩|⟨ro,Z,V,A,h4,h5,h6⟩
      .exact .inl ⟨Z,V⟩
      .refine .inr ⟨ro,Z,?_⟩;rcases hf3.out ro ⟨_,Z⟩with⟨_,e⟩|e
       .cases e
       .rw[hq ro aa aa];exact V
     have hcz:=hR3.cz;dsimp only[a0];by_cases h0:r.2.aK=0
     .have hee:j0 r=⟨1,0,r.2.out,r.1⟩:=by simp[j0,h0]
      rcases hov with rfl|⟨ro,oo,no,zo,rfl⟩<;>
      .have gh0:=@za5;repeat' (first
        |(apply ai ?_;clear hK K)|apply Ry.o ?_|apply bP ?_|(apply cU ?_;first|refine aY (gZ hT.toRnT hR3) ?_)|(apply cE (fun C U=>?_) (fun C U=>?_)<;>try(cases C;done))|(apply a2 (fun O S=>?_) (fun O S=>?_)<;>try(cases O;done))|apply ae ?_|(apply ah fun K hK=>?_)|(apply aq 10 [(4,13),(6,13),(10,13),(11,13),(12,13)] fun K hK=>?_)|(apply aM ?_;try intro _)|(apply aR ?_ ?_<;>clear hK K)|apply aL ?_|apply bu rfl ?_|apply aj ?_|apply ak ?_|apply am ?_|apply ax ?_)
       refine⟨aC,_,(by(try simp only[aK,aW,Nat.reduceBEq,Nat.reduceAdd,Nat.reduceLeDiff,tyF,bU,cc,jJ, *]);first|done|with_reducible rfl),?_⟩;try simp only[aB]
       rw[hee];exact⟨_,rfl,hints _ fun q Z V=>by simp only[aO,ad Z,ad V],fun k hk=>by simp only[bG];exact hblt k hk⟩
     .have hee:j0 r=⟨r.2.aK,r.2.aw,r.2.out,0⟩:=by
       rcases hcz.2 with e|e|e
       .exact(h0 e).elim
       .simp[j0,e]
       .have:=hcz.1 aa;simp[j0,e,this]
      rcases hov with rfl|⟨ro,oo,no,zo,rfl⟩<;>
      .repeat' (first
        |(apply ai ?_;clear hK K)|apply Ry.o ?_|apply bP ?_|(apply cU ?_;first|refine aY (gZ hT.toRnT hR3) ?_)|(apply cE (fun C U=>?_) (fun C U=>?_)<;>try(cases C;done))|(apply a2 (fun O S=>?_) (fun O S=>?_)<;>try(cases O;done))|apply ae ?_|(apply ah fun K hK=>?_)|(apply aq 10 [(4,13),(6,13),(10,13),(11,13),(12,13)] fun K hK=>?_)|(apply aM ?_;try intro _)|(apply aR ?_ ?_<;>clear hK K)|apply aL ?_|apply bu rfl ?_|apply aj ?_|apply ak ?_|apply am ?_|apply ax ?_)
       refine⟨aC,_,(by(try simp only[aK,aW,Nat.reduceBEq,Nat.reduceAdd,Nat.reduceLeDiff,tyF,bU,cc,jJ, *]);first|done|with_reducible rfl),?_⟩;try simp only[aB]
       rw[hee];exact⟨_,rfl,hints _ fun q Z V=>by simp only[aO,ad Z,ad V],fun k hk=>by simp only[bG];exact hblt k hk⟩
   .have ht:gi ⟨p,nm,al,J⟩=⟨0,0,[],0⟩:=by rw[gi,ad hpn]
    rw[ht];obtain⟨f,hfg,hfl⟩:=zd (p:=p) (nm:=nm) (m:=j3 p nm) aa rfl;have hpl:(f.params.length:Int)=al.length->0<=J->¬J<=1000:=fun Z V A=>by
     apply hpn;simp only[kI,jj];exact⟨⟨⟨⟨hc,V⟩,A⟩,aa⟩,aa⟩
    have hf0:0<=cm p.funcs nm 0:=aa;generalize cm p.funcs nm 0=k at *;refine a5 (M:=93) (rs:=[.cell 8 51]) (hw.call _) hw.ao hw.am func31 rfl rfl ud.2 rfl ?_;dsimp only[ud,a3,Nat.reduceAdd];repeat' (first
     |(apply ai ?_;clear hK K)|apply Ry.o ?_|apply bP ?_|(apply cU ?_;first|refine aY (F _) ?_|refine aY (hfd _) ?_)|(apply cE (fun C U=>?_) (fun C U=>?_)<;>try(cases C;done))|(apply a2 (fun O S=>?_) (fun O S=>?_)<;>try(cases O;done))|apply ae ?_|(apply ah fun K hK=>?_)|(apply aq 10 [(4,13),(6,13),(10,13),(11,13),(12,13)] fun K hK=>?_)|(apply aM ?_;try intro _)|(apply aR ?_ ?_<;>clear hK K)|apply aL ?_|apply bu rfl ?_|apply aj ?_|apply ak ?_|apply am ?_|apply ax ?_)
    .refine⟨aC,_,(by(try simp only[aK,aW,Nat.reduceBEq,Nat.reduceAdd,Nat.reduceLeDiff,tyF,bU,cc,jJ, *]);first|done|with_reducible rfl),?_⟩;try simp only[aB]
     exact hzo _
    .exfalso;clear F hfd hzo;simp only[iX,kR,tz,th]at *;omega
    .refine⟨aC,_,(by(try simp only[aK,aW,Nat.reduceBEq,Nat.reduceAdd,Nat.reduceLeDiff,tyF,bU,cc,jJ, *]);first|done|with_reducible rfl),?_⟩;try simp only[aB]
     exact hzo _
    .refine⟨aC,_,(by(try simp only[aK,aW,Nat.reduceBEq,Nat.reduceAdd,Nat.reduceLeDiff,tyF,bU,cc,jJ, *]);first|done|with_reducible rfl),?_⟩;try simp only[aB]
     exact hzo _
 .have ht:gi ⟨p,nm,al,J⟩=⟨0,0,[],0⟩:=by
   rw[gi,ad];simp only[kI,jj];omega
  rw[ht];refine a5 (M:=93) (rs:=[.cell 8 51]) (hw.call _) hw.ao hw.am func31 rfl rfl ud.2 rfl ?_;dsimp only[ud,a3,Nat.reduceAdd];repeat' (first
   |(apply ai ?_;clear hK K)|apply Ry.o ?_|apply bP ?_|(apply cU ?_;first|refine aY (F _) ?_)|(apply cE (fun C U=>?_) (fun C U=>?_)<;>try(cases C;done))|(apply a2 (fun O S=>?_) (fun O S=>?_)<;>try(cases O;done))|apply ae ?_|(apply ah fun K hK=>?_)|(apply aq 10 [(4,13),(6,13),(10,13),(11,13),(12,13)] fun K hK=>?_)|(apply aM ?_;try intro _)|(apply aR ?_ ?_<;>clear hK K)|apply aL ?_|apply bu rfl ?_|apply aj ?_|apply ak ?_|apply am ?_|apply ax ?_)
  refine⟨aC,_,(by(try simp only[aK,aW,Nat.reduceBEq,Nat.reduceAdd,Nat.reduceLeDiff,tyF,bU,cc,jJ, *]);first|done|with_reducible rfl),?_⟩;try simp only[aB]
  exact hzo _
noncomputable def zD:qu:=[FN,FO,y6,Gn]
def za8:eU prog ρ zD:=⟨Xy ρ,Xz ρ,FE ρ,zaz ρ,trivial⟩
theorem za9:RunT zD where
 pl f hf:=NU fun e C=>by
  simp only[zD,fY,nj,pu]at C;cases z:Nat.beq e.f f with
  |false=>rfl
  |true=>
   rw[<-ib z]at hf;rcases C with rfl|rfl|rfl|rfl<;>cases hf
 un _:=rfl
 bi _:=rfl
 ff _:=rfl
 ck _:=rfl
theorem N7{v:AV}{o:Oc}(h:vj H v o):∃u,iceV H 4 v=some u/\bW 4 u=ik o:=by
 obtain⟨ov,rfl,m,_⟩:=h;obtain⟨u,A,O⟩:=oh.iceV m 1;refine⟨.agg [.int .i64 o.ag,.int .i64 o.aw,u,.int .i64 o.value],?_,?_⟩
 .have e:∀a b c:Int,Ab.iceV H 4 (.agg [.int .i64 a,.int .i64 b,ov,.int .i64 c])=(match iceL (Ab.iceV H 3) [.int .i64 a,.int .i64 b,ov,.int .i64 c]with|some l=>some (.agg l)|none=>none):=fun a b c=>rfl;rw[e];simp only[iceL,A];rfl
 .show AV.agg [_,_,bW 3 u,_]=_;rw[O 1];rfl
structure zdm (x:zdh):Prop where
 sz:x.p.sz<2^34
 al:x.al.length<2^34
def zba(x:zdh)(O:zdm x):bJ prog ρ 31 (j9 x) (ik (gi x)):=
 N4 (m:=4) (n:=4) (cfg:=aF pls zD) fit (mL ρ) (fun g I r C=>eU.bS (l:=zD) (za8 ρ) g I r C) (.cons (.agg x.p.pure) (.cons (.ae _) (.cons (.map fun n _=>.cons (.int _ _) .nil) (.cons (.int _ _) .nil))))
  (a4 (fun v H' h=>N7 h) (za7 za9 x O.sz O.al))
noncomputable def N8:En:=⟨31,true,bS zdm j9 fun x=>ik (gi x)⟩
def zbb:cS prog ρ N8:=cZ fun x hx=>zba ρ x hx
end Go.Proofs.YtbflaciihaijgaaGreat
