/- Lemmas for the last file. -/
import Derived.Test.YtpbcimfiofmoeaaGreatWEV
set_option linter.all false
set_option maxHeartbeats 32000000
namespace Go.Proofs.YtpbcimfiofmoeaaGreat
set_option maxRecDepth 20000
open Go Go.Ab Proofs.Tryz
variable{X:Qx}{H H':Hp}{S S' z:Nat->Prop}{s:Bd}{M Z Y O U:AV}{v:Int×Bd}{lo i:Nat}{l:qy}{x:Int}
section
def tyQaE.tyF:=ad @cr (ad @yb (ad @cK (ad @dV (ad @dR (ad @dD (ad @DF (@eh)))))))
open tyQaE
noncomputable def U3:{c:SC // aE 52 (f165.body.getD .skip)=c}:=by
 refine⟨?_,?_⟩;rotate_left
 .simp only[f165,bN,aE,bH,bw,bM,bJ,Nat.blt,Nat.ble];rfl
def zd2.f7{z:Hp}{vv:AV}{q:Nat}(Y:zd2 X H S s M vv)(J:H.next<=z.next)(m:∀k,k<H.next->k≠q->z.get k=H.get k)(V:X.b<q)(I:¬S q)(Z:¬aN vv q)(C:¬aN X.nv q):zd2 X z S s M vv:=Y.keep J fun k U j=>m k U fun e=>by
 subst e;rcases j with j|j|j|j
 .omega
 .exact I j
 .exact Z j
 .exact C j
set_option maxRecDepth 100000 in
theorem KR{tb:qC}(hG:zd8 tb){X:Qx}{c:Cx}(hX:CxQ X c):∀(N n:Nat),n<N->∀(l:qD) (b b':qM),fC c.aF n l b=some b'->bi l<2^40->∀{H:Hp}{S:Nat->Prop}{s:Bd}{lv vv:AV}{q:Nat},zd2 X H S s lv vv->H.get q=some (.cells (b.map .bool) 0 true)->X.b<q->q<H.next->¬S q->¬aN vv q->¬aN X.nv q ->
 aR prog (au pls tb) 165 [.ptr X.b 0,.sl q 0 b.length 1,.az (l.map St.cells)] H (QA q H b')
 |0,n,hn,_,_,_,_,_,_,_,_,_,_,_,_,_,_,_,_,_,_=>by omega
 |N+1,n,hn,l,b,b',h,hz,H,S,s,lv,vv,q,hR,hg,hq1,hq2,hq3,hq4,hq5=>by
  have hw:zd0 (au pls tb) 165:=hG.plain cM;have hll:=mZ l;refine bp (M:=52) (rs:=[]) (hw.call _) hw.aG hw.aB func165 rfl rfl U3.2 rfl ?_;dsimp only[U3,bm,Nat.reduceAdd];refine dJ ?_;refine cl [0,1,2] [] 6 l.length (fun i E H2=>∃m C,m<=n/\C.length=b.length/\fC c.aF m (l.drop i) C=some b'/\H2.get q=some (.cells (C.map .bool) 0 true)/\Smq H.next q H H2) eE ⟨n,b,ay _,rfl,h,hg,⟨fun _ _ _=>rfl⟩⟩ ?_;rintro i E H2 hi hcE hrH O hsI ⟨m,C,hm,hbl,U,J,Y⟩;(try simp only[bC,aZ,aW,aG,aY,Nat.reduceBEq, *]at hcE);(try simp only[aZ, *]at hrH);(try simp only[aU,bq,ce,bR,Nat.reduceAdd]at O);have R2:zd2 X H2 S s lv vv:=hR.f7 O Y.get hq1 hq3 hq4 hq5;by_cases I:i<l.length
  .have hlt':(i:Int)<l.length:=by omega
   have hgx:l[i]?=some l[i]:=bj I;have hmem:=my (dm I);have hsz:=(l[i]).aV;cases m with
   |zero=>simp[fC]at U
   |succ m=>
   rw[gI I]at U;unfold fC at U;simp only[]at U;generalize l[i]=x at *;split at U
   .cases U
   rename_i hno;simp only[gG]at U;obtain⟨b2,j2,b3,j3,j4⟩:=U;refine zr ?_;(apply bz (fun hb hbp=>?_) (fun hb hbp=>?_)<;>try(cases hb;done));apply fA ?_;apply cW ?_;apply dX ?_;apply cW ?_;have z:=CxQ.ix hG hX R2 x.name;have V:(if x.am=1\/x.am=6 then C.set (bV c.aF x.name) true else C).length=b.length:=by split<;>simp[hbl]
   refine Oe (fun E' H'=>E'.at 0=.ptr X.b 0/\E'.at 1=.sl q 0 b.length 1/\E'.at 2=.az (l.map St.cells)/\E'.at 6=.int .i64 i/\H'.get q=some (.cells ((if x.am=1\/x.am=6 then C.set (bV c.aF x.name) true else C).map .bool) 0 true)/\H'.next=H2.next/\Smq H.next q H H') ?_ ?_
   .by_cases hk:x.am=1\/x.am=6
    .have hixl:bV c.aF x.name<C.length:=by
      by_cases c2:bV c.aF x.name<C.length
      .exact c2
      .exact absurd ⟨hk,ac⟩ hno
     have hixa:=E8 (q:=q) (n:=b.length) (m:=bV c.aF x.name) ac;have hst:=QB J hixl true;rcases hk with Z|h6
     .repeat' (first
       |(apply aj ?_;clear hK K)|apply bQ ?_|(apply iz ?_;first|refine bK (z) ?_)|(apply jy ?_ ?_<;>(intro hg hgp;try(cases hg;done)))|(apply bu ?_ ?_<;>(intro hb hbp;try(cases hb;done)))|(apply am fun K hK=>?_)|fail)
      exact⟨rfl,eE,eE,eE,eE,by rw[aM,ai rfl,ai (.inl Z)],rfl,⟨fun k Z j=>by rw[aM,af j];exact Y.get k Z j⟩⟩
     .have Z:¬x.am=1:=by omega
      repeat' (first
       |(apply aj ?_;clear hK K)|apply bQ ?_|(apply iz ?_;first|refine bK (z) ?_)|(apply jy ?_ ?_<;>(intro hg hgp;try(cases hg;done)))|(apply bu ?_ ?_<;>(intro hb hbp;try(cases hb;done)))|(apply am fun K hK=>?_)|fail)
      exact⟨rfl,eE,eE,eE,eE,Qh,rfl,⟨fun k Z j=>by rw[aM,af j];exact Y.get k Z j⟩⟩
    .have Z:¬x.am=1:=fun e=>hk (.inl e);have h6:¬x.am=6:=fun e=>hk (.inr e);rw[af hk];repeat' (first
      |(apply aj ?_;clear hK K)|apply bQ ?_|(apply jy ?_ ?_<;>(intro hg hgp;try(cases hg;done)))|(apply bu ?_ ?_<;>(intro hb hbp;try(cases hb;done)))|(apply am fun K hK=>?_)|fail)
     exact⟨rfl,eE,eE,eE,eE,J,rfl,Y⟩
   generalize (if x.am=1\/x.am=6 then C.set (bV c.aF x.name) true else C)=b1 at *;clear z;rintro E3 H3 ⟨k0,k1,k2,k6,g3,n3,s3⟩;dsimp only[lP];have R3:zd2 X H3 S s lv vv:=hR.f7 ac s3.get hq1 hq3 hq4 hq5;have n3':H2.next<=H3.next:=ac
   clear n3;refine cY fun K hK=>?_;refine qc ?_;refine aF ?_ (by rw[<-V];exact KR hG hX N m ac x.bl b1 b2 j2 ac R3 g3 hq1 ac hq3 hq4 hq5);rintro v H4 ⟨g4,n4,s4⟩;have hbl2:=vM _ _ _ _ _ j2;have s4':Smq H.next q H H4:=⟨fun k Z j=>by rw[s4 k ac j];exact s3.get k Z j⟩
   have R4:zd2 X H4 S s lv vv:=hR.f7 ac s4'.get hq1 hq3 hq4 hq5;clear s4;dsimp only[aC];refine cY fun K hK=>?_;refine qc ?_;refine aF ?_ (by rw[<-V,<-hbl2];exact KR hG hX N m ac x.bA b2 b3 j3 ac R4 g4 hq1 ac hq3 hq4 hq5);rintro v H5 ⟨g5,n5,s5⟩;have hbl3:=vM _ _ _ _ _ j3;have s5':Smq H.next q H H5:=⟨fun k Z j=>by rw[s5 k ac j];exact s4'.get k Z j⟩
   clear s5;dsimp only[aC];refine dJ ?_;refine⟨ac,a0,a0,ca,yl,?_⟩;exact⟨m,b3,ac,ac,j4,g5,s5'⟩
  .have hlt':¬(i:Int)<l.length:=by omega
   refine tA (fun hb hbp=>?_);all_goals refine qq ?_
   have hd:l.drop i=[]:=mH ac;rw[hd]at U;cases m with
   |zero=>simp[fC]at U
   |succ m=>
    cases U;exact⟨J,O,Y.get⟩
end
section
def tyQaF.tyF:=ad @dQ (ad @cr (ad @cK (ad @jn (ad @fP (ad @fW (ad @gh (ad @eL (ad @et (ad @dV (ad @dR (ad @dD (ad @eh (ad @tX (ad @E6 (@uz)))))))))))))))
open tyQaF
noncomputable def mQ:{c:SC // aE 241 (f90.body.getD .skip)=c}:=by
 refine⟨?_,?_⟩;rotate_left
 .simp only[f90,bN,aE,bH,bw,bM,bJ,Nat.blt,Nat.ble];rfl
section
variable {tb:qC} (hG:zd8 tb) {X:Qx} {c:Cx} (hX:CxQ X c) {x:St} {s:Bd} {H:Hp} {S:Nat -> Prop} {lv vv:AV}
set_option maxRecDepth 100000 in
include hG hX in
theorem zho(hk:x.am=1){n:Nat}{r:Int×Bd}(J:ec c n x.value s=some r)(V:bV c.aF x.name<r.2.vars.length)(C:Fin r.2)(I:zd2 X H S s lv vv):
 aR prog (au pls tb) 90 [.ptr X.b 0,.agg x.cells] H (pC X S vv H {r.2 with vars:=r.2.vars.set (bV c.aF x.name) r.1}):=by
 have Y:zd0 (au pls tb) 90:=hG.plain cM;have R1:=I.alloc (.cells x.cells 0 true);have F1:=(fy X S vv H).alloc (.cells x.cells 0 true);refine bp (M:=241) (rs:=[]) (Y.call _) Y.aG Y.aB func90 rfl rfl mQ.2 rfl ?_;dsimp only[mQ,bm,Nat.reduceAdd];repeat' (first
  |(apply aj ?_;clear hK K)|apply bQ ?_|(apply bu ?_ ?_<;>(intro hb hbp;try(cases hb;done)))|(apply am fun K hK=>?_)|fail)
 refine qc ?_;refine aF ?_ (tx hG hX n x.value s r J C R1);rintro v z ⟨rfl,S2,Z,m,O⟩;have g2:=fS I O;have m2:=m.m;unfold bO at m2;have U:=CxQ.ix hG hX m x.name;obtain⟨q,hix,hld,H3,hst,hq1,hq2,hq3,j,F3,o3,n3⟩:=m.setV V r.1;have n2:H.next+1<=z.next:=O.next
 have m3:=j.m;have g3:H3.get H.next=some (.cells x.cells 0 true):=Qi
 dsimp only[bO]at m3;dsimp only[aC];repeat' (first
  |(apply aj ?_;clear hK K)|apply aV ?_|(apply eu ?_;first|refine bK (U) ?_)|(apply ci 4 [(3,7),(3,10),(6,7)] fun K hK=>?_)|(apply bD ?_;try intro _)|(apply ch ?_ ?_<;>clear hK K)|fail)
 .exact cn
 .all_goals refine qq ?_
  exact⟨S2,Z,vv,j,F1.trans (O.trans F3)⟩
set_option maxRecDepth 100000 in
include hG hX in
theorem zhp(hk:x.am=2){n:Nat}{i:Int×Bd}(h1:ec c n x.a8 s=some i)(h2:ec c n x.value i.2=some v){a:Ar}(ha:c.aa[bV (c.aa.map (·.name)) x.name]?=some a)
 (z:Fin (ah ⟨28,bV (c.aa.map (·.name)) x.name,[(eO a.len i.1 v.2).ab,i.1,v.1]⟩ (eO a.len i.1 v.2)).2) (I:zd2 X H S s lv vv) :
 aR prog (au pls tb) 90 [.ptr X.b 0,.agg x.cells] H (pC X S vv H { (ah ⟨28,bV (c.aa.map (·.name)) x.name,[(eO a.len i.1 v.2).ab,i.1,v.1]⟩ (eO a.len i.1 v.2)).2 with ab:=(ah ⟨28,bV (c.aa.map (·.name)) x.name,[(eO a.len i.1 v.2).ab,i.1,v.1]⟩ (eO a.len i.1 v.2)).1}):=by
 have Y:zd0 (au pls tb) 90:=hG.plain cM;have R1:=I.alloc (.cells x.cells 0 true);have F1:=(fy X S vv H).alloc (.cells x.cells 0 true);have j:Fin (eO a.len i.1 v.2):=z.le (cC _ _).le;have J:Fin v.2:=j.le (r0 _ _ _).le;have V:Fin i.2:=J.le (dr c n _ _ _ h2).le;have U:X.p.aa[bV (c.aa.map (·.name)) x.name]?=some a:=by rw[hX.ar];exact ha
 refine bp (M:=241) (rs:=[]) (Y.call _) Y.aG Y.aB func90 rfl rfl mQ.2 rfl ?_;dsimp only[mQ,bm,Nat.reduceAdd];refine zq fun K hK=>?_;refine qc ?_;refine aF ?_ (tx hG hX n x.a8 s i h1 V R1);rintro w H2 ⟨rfl,S2,lv2,R2,O⟩;have g2:=fS I O;dsimp only[aC];refine cY fun K hK=>?_;refine qc ?_;refine aF ?_ (tx hG hX n x.value i.2 v h2 J R2);rintro w H3 ⟨rfl,S3,lv3,m,F3⟩;have g3:=fS I (O.trans F3);have C:=U2 hG hX m x.name;dsimp only[aC];repeat' (first
  |(apply aj ?_;clear hK K)|apply aV ?_|(apply eu ?_;first|refine bK (C) ?_)|(apply am fun K hK=>?_)|fail)
 refine qc ?_;refine aF ?_ (U1 hG m (bV (c.aa.map (·.name)) x.name) i.1 U j);rintro w H4 ⟨S4,lv4,R4,F4⟩;have m4:=R4.m;unfold bO at m4;dsimp only[aC];refine cY fun K hK=>?_;refine qc ?_;refine aF ?_ (lI hG (R4.alloc _) ⟨28,bV (c.aa.map (·.name)) x.name,[(eO a.len i.1 v.2).ab,i.1,v.1]⟩ rfl dZ (bT _) z rfl rfl);rintro w H5 ⟨rfl,S5,Z,R5,F5⟩;have m5:=R5.m;unfold bO at m5;dsimp only[aC];refine dJ ?_;all_goals refine qq ?_
 obtain⟨R6,F6⟩:=R5.setS (ah ⟨28,bV (c.aa.map (·.name)) x.name,[(eO a.len i.1 v.2).ab,i.1,v.1]⟩ (eO a.len i.1 v.2)).1;exact⟨S5,Z,vv,R6,F1.trans (O.trans (F3.trans (F4.trans (((fy X S4 vv H4).alloc _).trans (F5.trans F6)))))⟩
set_option maxRecDepth 100000 in
include hG hX in
theorem zhq(hk:x.am=5){n:Nat}(h1:ec c n x.value s=some v)(O:Fin (ah ⟨29,0,[v.2.ab,v.1]⟩ v.2).2)(V:zd2 X H S s lv vv):
 aR prog (au pls tb) 90 [.ptr X.b 0,.agg x.cells] H (pC X S vv H { (ah ⟨29,0,[v.2.ab,v.1]⟩ v.2).2 with ab:=(ah ⟨29,0,[v.2.ab,v.1]⟩ v.2).1}):=by
 have Z:zd0 (au pls tb) 90:=hG.plain cM;have R1:=V.alloc (.cells x.cells 0 true);have F1:=(fy X S vv H).alloc (.cells x.cells 0 true);have J:Fin v.2:=O.le (cC _ _).le;refine bp (M:=241) (rs:=[]) (Z.call _) Z.aG Z.aB func90 rfl rfl mQ.2 rfl ?_;dsimp only[mQ,bm,Nat.reduceAdd];refine zq fun K hK=>?_;refine qc ?_;refine aF ?_ (tx hG hX n x.value s v h1 J R1);rintro w m ⟨rfl,C,z,U,j⟩;have m4:=U.m;unfold bO at m4;dsimp only[aC];refine cY fun K hK=>?_;refine qc ?_;refine aF ?_ (lI hG (U.alloc _) ⟨29,0,[v.2.ab,v.1]⟩ rfl dZ (bT _) O rfl rfl);rintro w H5 ⟨rfl,S5,I,Y,F5⟩;have m5:=Y.m;unfold bO at m5;dsimp only[aC];refine dJ ?_;all_goals refine qq ?_
 obtain⟨R6,F6⟩:=Y.setS (ah ⟨29,0,[v.2.ab,v.1]⟩ v.2).1;exact⟨S5,I,vv,R6,F1.trans (j.trans (((fy X C vv m).alloc _).trans (F5.trans F6)))⟩
set_option maxRecDepth 100000 in
include hG hX in
theorem zhr(hk:x.am=7)(hF:Fin (kC (bB (16+x.n)) (ah ⟨1,0,[]⟩ s).1 (ah ⟨1,0,[]⟩ s).2))(Y:zd2 X H S s lv vv):
 aR prog (au pls tb) 90 [.ptr X.b 0,.agg x.cells] H (pC X S vv H (kC (bB (16+x.n)) (ah ⟨1,0,[]⟩ s).1 (ah ⟨1,0,[]⟩ s).2)):=by
 have C:zd0 (au pls tb) 90:=hG.plain cM;have R1:=Y.alloc (.cells x.cells 0 true);have F1:=(fy X S vv H).alloc (.cells x.cells 0 true);have z:Fin (ah ⟨1,0,[]⟩ s).2:=hF.le (rj _ _ _).le;refine bp (M:=241) (rs:=[]) (C.call _) C.aG C.aB func90 rfl rfl mQ.2 rfl ?_;dsimp only[mQ,bm,Nat.reduceAdd];refine zq fun K hK=>?_;refine qc ?_;refine aF ?_ (tw hG R1 1 0 z);rintro w m ⟨rfl,S4,lv4,O,Z⟩;have g4:=fS Y Z;have m4:=O.m;have ew:IntKind.wrap .i64 (16+x.n)=bB (16+x.n):=rfl;unfold bO at m4;dsimp only[aC];have U:=lI hG (O.alloc (.cells [.int .i64 (ah ⟨1,0,[]⟩ s).2.ab,.int .i64 (ah ⟨1,0,[]⟩ s).1] 0 true)) ⟨27,bB (16+x.n),[(ah ⟨1,0,[]⟩ s).2.ab,(ah ⟨1,0,[]⟩ s).1]⟩ rfl dZ (bT _) (hF.le ⟨rW _,ay _⟩) rfl rfl;repeat' (first
  |(apply aj ?_;clear hK K)|apply aV ?_|(apply ci 16 [(3,11),(8,11),(10,11)] fun K hK=>?_)|(apply bD ?_;try intro _)|fail)
 refine qd ?_;refine aF ?_ U;rintro w H5 ⟨rfl,S5,V,J,F5⟩;have I:=((fy X S4 vv m).alloc _).trans F5;have g5:=fS Y (Z.trans I);have n4:H.next+1<=m.next:=Z.next
 have n5:m.next+1<=H5.next:=F5.next
 have g4a:(m.alloc (.cells [.int .i64 (ah ⟨1,0,[]⟩ s).2.ab,.int .i64 (ah ⟨1,0,[]⟩ s).1] 0 true)).get H.next=some (.cells x.cells 0 true):=fS Y (Z.trans ((fy X S4 vv m).alloc _))
 have m5:H5.get X.b=some (.cells (bO X { (ah ⟨27,bB (16+x.n),[(ah ⟨1,0,[]⟩ s).2.ab,(ah ⟨1,0,[]⟩ s).1]⟩ (ah ⟨1,0,[]⟩ s).2).2 with ab:=(ah ⟨1,0,[]⟩ s).2.ab} V vv) 0 true):=J.m;have j:=(O.alloc (.cells [.int .i64 (ah ⟨1,0,[]⟩ s).2.ab,.int .i64 (ah ⟨1,0,[]⟩ s).1] 0 true)).m;have m6:=(J.setS (ah ⟨27,bB (16+x.n),[(ah ⟨1,0,[]⟩ s).2.ab,(ah ⟨1,0,[]⟩ s).1]⟩ (ah ⟨1,0,[]⟩ s).2).1).1.m;obtain⟨R6,F6⟩:=J.setS (ah ⟨27,bB (16+x.n),[(ah ⟨1,0,[]⟩ s).2.ab,(ah ⟨1,0,[]⟩ s).1]⟩ (ah ⟨1,0,[]⟩ s).2).1;have g6:=fS Y (Z.trans (I.trans F6));dsimp only[bO]at j m5 m6 g6;dsimp only[aC];repeat' (first
  |apply aV ?_|(apply bD ?_;try intro _)|(apply ch ?_ ?_<;>clear hK K)|fail)
 .exact cn
 .all_goals refine qq ?_
  exact⟨S5,V,vv,R6,F1.trans (Z.trans (I.trans F6))⟩
set_option maxRecDepth 100000 in
include hG in
theorem zhs(h1:¬x.am=1)(h2:¬x.am=2)(C:¬x.am=3)(V:¬x.am=4)(Y:¬x.am=5)(U:¬x.am=6)(J:¬x.am=7)(I:zd2 X H S s lv vv):
 aR prog (au pls tb) 90 [.ptr X.b 0,.agg x.cells] H (pC X S vv H s):=by
 have Z:zd0 (au pls tb) 90:=hG.plain cM;have z:=I.alloc (.cells x.cells 0 true);have O:=(fy X S vv H).alloc (.cells x.cells 0 true);refine bp (M:=241) (rs:=[]) (Z.call _) Z.aG Z.aB func90 rfl rfl mQ.2 rfl ?_;dsimp only[mQ,bm,Nat.reduceAdd];refine xJ ?_;all_goals refine qq ?_
 exact⟨S,lv,vv,z,O⟩
end
end
section
def tyQaG.tyF:=ad @dQ (ad @cr (ad @cK (ad @jn (ad @fP (ad @fW (ad @gh (ad @eL (ad @et (ad @dV (ad @dR (ad @dD (ad @eh (ad @tX (@vL))))))))))))))
open tyQaG
structure zd7 (X:Qx) (S:Nat->Prop) (vv:AV) (lo:Nat) (H:Hp) (av:AV) (l:qy):Prop where
 r:fY H av l lo
 n:∀k,aN av k->¬S k/\¬aN vv k/\¬aN X.nv k
def zd7.fr{vv:AV}(h:zd7 X S vv lo H Y l)(hb:X.b<lo)(f:FrQ X S vv H S' Z H'):zd7 X S' Z lo H' Y l:=by
 refine⟨h.r.keep f.next fun k z=>?_,fun k z=>?_⟩
 .have a:=h.r.lt z;have b:=h.n k z;exact f.get k a.2 ac b.1 b.2.1
 .have a:=h.r.lt z;have b:=h.n k z;refine⟨fun e=>?_,fun e=>?_,b.2.2⟩
  .rcases f.sub k e with e|e
   .exact b.1 e
   .omega
  .rcases f.own k e with e|e
   .exact b.2.1 e
   .omega
def zd7.f1{vv:AV}{Hb:Hp}(h:zd7 X S vv lo H Z l)(I:zd2 X Hb S s M vv)(Y:lo<=Hb.next)(O:H.next<=Hb.next)(hg:∀k,k<H.next->Hb.get k=H.get k)(x:Int){r imm:Nat}(C:Hb.get r=some (.cells [.int .i64 x] imm true))(hb:X.b<lo)(m:l.length<2^39):
 ∃j H',cD prog false Hb 23 23 Z (.sl r 0 1 1)=some (j,H')/\zd7 X S vv lo H' j (l++[x])/\zd2 X H' S s M vv/\Hb.next<=H'.next/\(∀k,k<Hb.next->¬aN Z k->H'.get k=Hb.get k)/\(∀k,aN j k->aN Z k\/Hb.next<=k)/\iV H' j (l++[x]) lo:=by
 have hr:fY Hb Z l lo:=h.r.keep O fun k z=>hg k (h.r.lt z).2;obtain⟨j,H',a1,V,a3,a4,J,U⟩:=D4 x hr Y C m;refine⟨j,H',a1,⟨.inr V,fun k z=>?_⟩,I.keep ac fun k h1 h2=>J k h1 fun e=>?_,ac,J,U,V⟩
 .rcases U k z with e|e
  .exact h.n k e
  .have:=I.new e;exact⟨this.1,this.2.1,fun e2=>by have:=(I.nS k e2).2.1;omega⟩
 .have b:=h.n k e;have c:=h.r.lt e
  grind
theorem zd2.fX{vv:AV}(h:zd2 X H S s M vv):gX prog H 49 (.ptr X.b 0)=some (.agg X.p.cells):=by
 rw[Av,h.m,Dz];show cq 2 (List.drop 0 (bO X s M vv))=_;rfl
def zht{tb:qC}(U:zd8 tb)(p:Pr)(V:p.funcs.length<2^60)(nm:bG)(H:Hp):aR prog (au pls tb) 108 [.agg p.cells,.aj nm] H fun v H'=>v=.int .i64 (cJ p.funcs nm 0)/\H'=H:=
 cV (enc:=xh) (ok:=fun x=>x.1.funcs.length<2^60) (out:=fun x=>.int .i64 (cJ x.1.funcs x.2 0)) Je (x:=(p,nm)) (U.ff _) V
section
variable {tb:qC} (hG:zd8 tb) {X:Qx} {c:Cx} (hX:CxQ X c) {x:St} {s:Bd} {H:Hp} {S:Nat -> Prop} {lv vv:AV}
set_option maxRecDepth 100000 in
include hG hX in
theorem zhu(U:x.am=6){n:Nat}{Z:qy×Bd}(h1:nC c n x.args s=some Z)(hl:bV c.aF x.name<Z.2.vars.length)(hz:x.sz<2^36)
 (hF:Fin (ah ⟨24,0,[(ah ⟨30,cJ c.funcs x.to 0,Z.2.ab::Z.1⟩ Z.2).1]⟩ { (ah ⟨30,cJ c.funcs x.to 0,Z.2.ab::Z.1⟩ Z.2).2 with ab:=(ah ⟨30,cJ c.funcs x.to 0,Z.2.ab::Z.1⟩ Z.2).1}).2) (V:zd2 X H S s lv vv) :
 aR prog (au pls tb) 90 [.ptr X.b 0,.agg x.cells] H (pC X S vv H (let r:=ah ⟨30,cJ c.funcs x.to 0,Z.2.ab::Z.1⟩ Z.2;let q:=ah ⟨24,0,[r.1]⟩ {r.2 with ab:=r.1};{q.2 with vars:=q.2.vars.set (bV c.aF x.name) q.1})):=by
 have hw:zd0 (au pls tb) 90:=hG.plain cM;have hkeep:(au pls tb).keep 90=false:=rfl;have R1:=V.alloc (.cells x.cells 0 true);have F1:=(fy X S vv H).alloc (.cells x.cells 0 true);have gx1:(H.alloc (.cells x.cells 0 true)).get H.next=some (.cells x.cells 0 true):=fc
 have o5:=V.o5;have hal:=mY x.args;have hsz:=x.aV;simp only[];generalize hr:ah ⟨30,cJ c.funcs x.to 0,Z.2.ab::Z.1⟩ Z.2=r at *;have hFr:Fin r.2:=hF.le ⟨(cC ⟨24,0,[r.1]⟩ {r.2 with ab:=r.1}).le.l,(cC ⟨24,0,[r.1]⟩ {r.2 with ab:=r.1}).le.n⟩;have hFa:Fin Z.2:=by rw[<-hr]at hFr;exact hFr.le (cC _ _).le
 have happl:=(sc c n _ _ _ h1).2;refine bp (M:=241) (rs:=[]) (hw.call _) hw.aG hw.aB func90 rfl rfl mQ.2 rfl ?_;dsimp only[mQ,bm,Nat.reduceAdd];refine tA (fun hb hbp=>?_);refine cl [0,3] [] 11 x.args.length (fun i E z=>∃J m s2 j lv2 a,E.at 10=a/\nC c n (x.args.drop i) s2=some (m,Z.2)/\Z.1=J++m/\zd2 X z j s2 lv2 vv/\FrQ X S vv (H.alloc (.cells x.cells 0 true)) j vv z/\zd7 X j vv (H.next+1) z a J/\J.length=i) eE ⟨[],Z.1,s,S,lv,.ag,eE,h1,rfl,R1,fy _ _ _ _,⟨.inl ⟨rfl,rfl⟩,fun k U=>(rk U).elim⟩,rfl⟩ ?_;rintro i E z hi hcE hrH hnH hsI ⟨J,m,s2,j,lv2,a,k8,hJ,Y,R2,F2,W2,C⟩;(try simp only[bC,aZ,aW,aG,aY,Nat.reduceBEq, *]at hcE);(try simp only[aZ,aY, *]at hrH);(try simp only[aU,]at hnH);have n2:H.next+1<=z.next:=hnH
 have gb2:=fS V F2;by_cases hlt:i<x.args.length
 .have hlt':(i:Int)<x.args.length:=by omega
  have hgx:x.args[i]?=some x.args[i]:=bj hlt;rw[gI hlt]at hJ;unfold nC at hJ;simp only[gG,dB]at hJ;obtain⟨e1,he1,r2,hr2,rfl,hr2'⟩:=hJ;generalize x.args[i]=y at *;have hFe:Fin e1.2:=by
   have:=(sc c n _ _ _ hr2).1.le;rw[hr2']at this;exact hFa.le this
  repeat' (first
   |(apply aj ?_;clear hK K)|apply bQ ?_|(apply bu ?_ ?_<;>(intro hb hbp;try(cases hb;done)))|(apply am fun K hK=>?_)|fail)
  refine qc ?_;refine aF ?_ (tx hG hX n y s2 e1 he1 hFe R2);rintro w H3 ⟨rfl,S3,lv3,R3,F3⟩;have W3:=W2.fr ac F3;have n3:z.next<=H3.next:=F3.next
  have R3a:=R3.alloc (.cells [.int .i64 e1.1] 0 true);obtain⟨v5,H5,a5,W5,R5,n5,q5,_,_⟩:=W3.f1 R3a cB (cG _) (fun k U=>em) e1.1 (r:=H3.next) (imm:=0) fc ac ac;have F5:FrQ X S vv (H.alloc (.cells x.cells 0 true)) S3 vv H5:=by
   have F:=F2.trans F3;refine⟨Qj,fun k h1 h2 h4 h5=>?_,F.sub,F.own⟩;rw[q5 k (by simp only[aU]at h1⊢;omega) (fun e=>by have:=W3.r.lt e;simp only[aU]at h1;omega),aD,af (by simp only[aU]at h1;omega)];exact F.get k h1 h2 h4 h5
  have n5':z.next<=H5.next:=Bn
  dsimp only[aC];refine dJ ?_;refine⟨ac,a0,a0,ca,AY,?_⟩;exact⟨J++[e1.1],r2.1,e1.2,S3,lv3,v5,eE,aX,by rw[Y];simp,R5,F5,W5,by simp[C]⟩
 .have hlt':¬(i:Int)<x.args.length:=by omega
  have hd:x.args.drop i=[]:=mH ac;rw[hd]at hJ;simp only[nC,dB]at hJ;obtain⟨hJ1,hJ2⟩:=hJ;subst hJ2;rw[<-hJ1,aS]at Y;rw[<-Y]at W2 C;clear hd C;have m2:=R2.m;unfold bO at m2;have kf:=zht hG X.p (by rw[hX.fs];exact Nat.lt_trans hX.l3 aH) x.to;rw[hX.fs]at kf;have Rb:=R2.alloc (.cells [.int .i64 Z.2.ab] 0 true);obtain⟨v6,H6,a6,i6,n6,l6,f6,q6⟩:=IP (H:=z.alloc (.cells [.int .i64 Z.2.ab] 0 true)) (v:=.sl z.next 0 1 1) (l:=[Z.2.ab]) (lo:=z.next) ⟨z.next,0,rfl,dZ,cZ _,ay _,bT _⟩ (cG _) (W2.r.keep (cG _) fun k U=>by rw[aD,af (by have:=W2.r.lt U;omega)]) aX;simp only[aU]at n6 l6 f6 q6;have hf6:∀k,k<z.next->H6.get k=z.get k:=fun k U=>by rw[l6 k U,aD,af ac]
  have R6:zd2 X H6 j Z.2 lv2 vv:=R2.keep ac fun k h1 _=>hf6 k h1;have F6:FrQ X j vv z j vv H6:=⟨ac,fun k h1 _ _ _=>hf6 k h1,fun _ h=>.inl h,fun _ h=>.inl h⟩;have I:=Gt (lo:=z.next) hG R6 ⟨30,cJ c.funcs x.to 0,Z.2.ab::Z.1⟩ (.inr i6) (by rw[hr];exact hFr);have m6:=R6.m;have mb:=Rb.m;have gbb:(z.alloc (.cells [.int .i64 Z.2.ab] 0 true)).get H.next=some (.cells x.cells 0 true):=aX
  have gb6:H6.get H.next=some (.cells x.cells 0 true):=aX
  unfold bO at m6 mb;have p2:=R2.fX;have pb:=Rb.fX;have p6:=R6.fX;repeat' (first
   |(apply aj ?_;clear hK K)|apply bQ ?_|(apply iz ?_;first|refine bK (kf _) ?_)|(apply bu ?_ ?_<;>(intro hb hbp;try(cases hb;done)))|(apply am fun K hK=>?_)|(apply Iu 23 [0,1,2,3,4,5,6,7,9,10,11,12,13,14,8,15,16,17,18,19] [(5,14),(7,14),(11,14),(11,15),(12,14),(12,15)] fun K hK=>?_)|(apply bD ?_;try intro _)|fail)
  refine qd ?_;refine aF ?_ I;intro w H7 h7;rw[hr]at h7;obtain⟨rfl,S7,lv7,R7,F7'⟩:=h7;have F7:=F6.trans F7';have n67:H6.next<=H7.next:=F7'.next
  have n7:z.next<=H7.next:=F7.next
  clear I;have gb7:=fS V (F2.trans F7);have m7:=R7.m;have p7:=R7.fX;unfold bO at m7;obtain⟨R8,F8⟩:=R7.setS r.1;have gb8:=fS V (F2.trans (F7.trans F8));have m8:=R8.m;have p8:=R8.fX;have hv8:r.2.vars=Z.2.vars:=by rw[<-hr];rfl
  have hst8:r.2.ab=Z.2.ab:=by rw[<-hr];rfl
  have hl8:bV c.aF x.name<r.2.vars.length:=by rw[hv8];exact hl
  clear hv8;obtain⟨q,hix,hld,_⟩:=R8.setV hl8 0;have O:=R8.alloc (.cells [.int .i64 r.1] 0 true);have kix:=CxQ.ix hG hX O x.name;have I:=lI hG O ⟨24,0,[r.1]⟩ rfl dZ (bT _) hF rfl rfl;have n8:(H7.set X.b (.cells (bO X {r.2 with ab:=r.1} lv7 vv) 0 true)).next=H7.next:=rfl
  have gb8a:=fS V (F2.trans (F7.trans (F8.alloc (.cells [.int .i64 r.1] 0 true))));have m8a:=O.m;dsimp only[bO]at R8 F8 gb8 gb8a m8 m8a p8 O I hld n8 kix;rw[n8]at I;rw[hst8]at m7;dsimp only[aC];repeat' (first
   |apply aV ?_|(apply eu ?_;first|refine bK (kix) ?_)|(apply Iu 24 [0,1,2,3,4,5,6,8,9,10,11,12,13,7,14,15,16] [(3,13),(3,14),(3,16),(6,13),(11,13),(11,14),(12,13),(12,14)] fun K hK=>?_)|(apply bD ?_;try intro _)|(apply ch ?_ ?_<;>clear hK K)|fail)
  .exact cn
  .refine qd ?_;refine aF ?_ I;rintro w H9 ⟨rfl,S9,lv9,R9,F9⟩;have hl9:bV c.aF x.name<(ah ⟨24,0,[r.1]⟩ {r.2 with ab:=r.1}).2.vars.length:=hl8;obtain⟨q',hix',hld',H10,hst,hq1,hq2,hq3,R10,F10,o10,n10⟩:=R9.setV hl9 (ah ⟨24,0,[r.1]⟩ {r.2 with ab:=r.1}).1;have hqq:q'=q:=by
    simp_all
   subst hqq;have m9:H9.get X.b=some (.cells (bO X { (ah ⟨24,0,[r.1]⟩ {r.2 with ab:=r.1}).2 with ab:=r.1} lv9 vv) 0 true):=R9.m;have m10:H10.get X.b=some (.cells (bO X { (ah ⟨24,0,[r.1]⟩ {r.2 with ab:=r.1}).2 with ab:=r.1} lv9 vv) 0 true):=R10.m;have F89:=F2.trans (F7.trans (F8.trans (((fy X S7 vv _).alloc _).trans F9)));have gb9:=fS V F89;have gb10:=fS V (F89.trans F10);have n9:=F9.next
   dsimp only[bO]at m9 m10;simp only[aU,bq]at n9;dsimp only[aC];refine rB ?_;refine x9 dY dY hst ?_;repeat' (first
    |(apply bD ?_;try intro _)|(apply ch ?_ ?_<;>clear hK K)|fail)
   .exact cn
   .all_goals refine qq ?_
    exact⟨S9,lv9,vv,R10,F1.trans (F89.trans F10)⟩
end
end
section
def tyQaH.tyF:=ad @dQ (ad @cr (ad @cK (ad @jn (ad @fP (ad @fW (ad @gh (ad @eL (ad @et (ad @dV (ad @dR (ad @dD (ad @eh (ad @tX (@KO))))))))))))))
open tyQaH
structure zf3 (X:Qx) (S:Nat->Prop) (vv:AV) (lo:Nat) (H:Hp) (av:AV) (l:qy):Prop where
 r:gK H av l lo
 n:∀k,aN av k->¬S k/\¬aN vv k/\¬aN X.nv k
def zf3.fr{vv:AV}(h:zf3 X S vv lo H Y l)(hb:X.b<lo)(f:FrQ X S vv H S' Z H'):zf3 X S' Z lo H' Y l:=by
 refine⟨h.r.keep f.next fun k z=>?_,fun k z=>?_⟩
 .have a:=h.r.lt z;have b:=h.n k z;exact f.get k a.2 ac b.1 b.2.1
 .have a:=h.r.lt z;have b:=h.n k z;refine⟨fun e=>?_,fun e=>?_,b.2.2⟩
  .rcases f.sub k e with e|e
   .exact b.1 e
   .omega
  .rcases f.own k e with e|e
   .exact b.2.1 e
   .omega
def zf3.at{vv:AV}(h:zf3 X S vv lo H Z l)(I:l[i]?=some x):∃r,el prog 23 Z (.int .i64 (i:Int))=some (.ptr r i)/\gX prog H 3 (.ptr r i)=some (.int .i64 x)/\aN Z r:=
 zij.at (S:=fun _=>False) (vv:=.ag) (lo:=lo) ⟨h.r,fun k _=>⟨fun e=>e,fun e=>rk e⟩⟩ I
def Gv(tb:qC)(X:Qx)(c:Cx)(n:Nat):Prop:=∀(l:qD) (s r:Bd),eY c n l s=some r->Fin r->bi l<2^36->s.vars.length<2^36->∀{H:Hp}{S:Nat->Prop}{lv vv:AV},zd2 X H S s lv vv->aR prog (au pls tb) 54 [.ptr X.b 0,.az (l.map St.cells)] H (pC X S vv H r)
section
variable {tb:qC} (hG:zd8 tb) {X:Qx} {c:Cx} (hX:CxQ X c) {x:St} {s:Bd} {H:Hp} {S:Nat -> Prop} {lv vv:AV}
set_option maxRecDepth 100000 in
include hG hX in
theorem zhv{n:Nat}(z:x.am=3)(IH:Gv tb X c n){r:Int×Bd}{a b m:Bd}(h1:ec c n x.value s=some r)(h2:eY c n x.bl r.2=some a)(h3:eY c n x.bA {a with ab:=r.2.ab,vars:=r.2.vars}=some b)(h4:lC r.1 a.vars b.vars.length 0 b=some m)
 (hF:Fin (bA r.1 a.ab m.ab m).2) (hz:x.sz<2^36) (hvl:s.vars.length<2^36) (hR:zd2 X H S s lv vv) :
 aR prog (au pls tb) 90 [.ptr X.b 0,.agg x.cells] H (pC X S vv H { (bA r.1 a.ab m.ab m).2 with ab:=(bA r.1 a.ab m.ab m).1}):=by
 have hw:zd0 (au pls tb) 90:=hG.plain cM;have hkeep:(au pls tb).keep 90=false:=rfl;have R1:=hR.alloc (.cells x.cells 0 true);have F1:=(fy X S vv H).alloc (.cells x.cells 0 true);have hFm:Fin m:=hF.le (eZ _ _ _ _).le;have hml:=ta _ _ _ _ _ _ h4;have hFb:Fin b:=hFm.le hml.1;have e3:=(jD c n).2.1 _ _ _ h3;have e2:=(jD c n).2.1 _ _ _ h2;have hFa:Fin a:=hFb.le ⟨e3.1.l,e3.1.n⟩;have hFr:Fin r.2:=hFa.le e2.1;have hsz:=x.aV;have o5:=hR.o5;have hlv:=dr c n _ _ _ h1;have hrl:r.2.vars.length<2^36:=EW;have hbl:b.vars.length<2^36:=by rw[e3.2];exact hrl
 clear e3 e2 hml hlv;refine bp (M:=241) (rs:=[]) (hw.call _) hw.aG hw.aB func90 rfl rfl mQ.2 rfl ?_;dsimp only[mQ,bm,Nat.reduceAdd];repeat' (first
  |(apply aj ?_;clear hK K)|apply bQ ?_|(apply bu ?_ ?_<;>(intro hb hbp;try(cases hb;done)))|(apply am fun K hK=>?_)|fail)
 refine qc ?_;refine aF ?_ (tx hG hX n x.value s r h1 hFr R1);rintro w H2 ⟨rfl,S2,lv2,R2,F2⟩;have g2:=fS hR F2;have m2:=R2.m;have n2:H.next+1<=H2.next:=F2.next
 obtain⟨cv,H3,a3,c3,n3,q3⟩:=KQ (H:=H2) R2.vars.n ac;have R3:zd2 X H3 S2 r.2 lv2 vv:=R2.keep ac fun k h _=>q3 k h;have F3:FrQ X S2 vv H2 S2 vv H3:=⟨ac,fun k h _ _ _=>q3 k h,fun _ h=>.inl h,fun _ h=>.inl h⟩;have m2a:=(R2.alloc qf).m;have m3:=R3.m;have g3:H3.get H.next=some (.cells x.cells 0 true):=aX
 have z3:zf3 X S2 vv (H.next+1) H3 cv r.2.vars:=⟨c3.lo fun k z=>by have:=c3.lt z;omega,fun k z=>by
  have:=R2.new (c3.lt z).1;exact⟨this.1,this.2.1,fun e=>by have:=(R2.nS k e).2.1;have:=(c3.lt z).1;omega⟩⟩
 obtain⟨hc1,hc2⟩:=c3.one;dsimp only[bO]at m2 m2a m3;dsimp only[aC];refine cY fun K hK=>?_;refine qc ?_;refine aF ?_ (IH x.bl r.2 a h2 hFa ac hrl R3);rintro w H4 ⟨S4,Y,Z,C,F4⟩;have O:=F2.trans (F3.trans F4);have g4:=fS hR O;have z4:=z3.fr ac F4;have m4:=C.m;obtain⟨R4s,F4s⟩:=C.setS r.2.ab;have m4s:=R4s.m;have zs:=z4.fr (X:=X) ac F4s;have R5:=R4s.swapV (vw:=cv) (l:=r.2.vars) (zs.r.lo fun k _=>cZ _) (fun k z=>⟨by have:=zs.r.lt z;omega,(zs.r.lt z).2,(zs.n k z).1,(zs.n k z).2.2⟩);have m5:=R5.m;have hk5:∀k,k≠X.b->((H4.set X.b (.cells (bO X {a with ab:=r.2.ab} Y Z) 0 true)).set X.b (.cells (bO X {a with ab:=r.2.ab,vars:=r.2.vars} Y cv) 0 true)).get k=H4.get k:=fun k z=>Qk;have I:FrQ X S vv (H.alloc (.cells x.cells 0 true)) S4 cv ((H4.set X.b (.cells (bO X {a with ab:=r.2.ab} Y Z) 0 true)).set X.b (.cells (bO X {a with ab:=r.2.ab,vars:=r.2.vars} Y cv) 0 true)):=⟨O.next,fun k h1 h2 h4 h5=>by rw[hk5 k h2];exact O.get k h1 h2 h4 h5,O.sub,fun k z=>.inr (z4.r.lt z).1⟩;have g5:=fS hR I;have v5:gK ((H4.set X.b (.cells (bO X {a with ab:=r.2.ab} Y Z) 0 true)).set X.b (.cells (bO X {a with ab:=r.2.ab,vars:=r.2.vars} Y cv) 0 true)) Z a.vars 0:=C.vars.keep (ay _) fun k z=>hk5 k (by have:=(C.vS k z).1;omega);have y5':zf3 X S4 cv (X.b+1) ((H4.set X.b (.cells (bO X {a with ab:=r.2.ab} Y Z) 0 true)).set X.b (.cells (bO X {a with ab:=r.2.ab,vars:=r.2.vars} Y cv) 0 true)) Z a.vars:=⟨v5.lo fun k z=>(C.vS k z).1,fun k z=>⟨fun e=>(C.sS k e).2.2 z,fun e=>(z4.n k e).2.1 z,fun e=>(C.nS k e).2.2.2 z⟩⟩;clear v5;clear hk5 F4s zs z4 z3 F3 O;dsimp only[bO]at m4 m4s m5 R5 I y5' g5;dsimp only[aC];refine cY fun K hK=>?_;refine qc ?_;refine aF ?_ (IH x.bA _ b h3 hFb ac hrl R5);rintro w H6 ⟨S6,lv6,J,R6,F6⟩;have F06:=I.trans F6;have y6:=y5'.fr ac F6;have n6:H.next+1<=H6.next:=F06.next
 clear F6 I R5 R4s C y5' m5 m4s m4 g5 g4;dsimp only[aC];refine dJ ?_;refine cl [0,3,12,15,16] [] 17 b.vars.length (fun i E Hi=>∃V Si lvi,lC r.1 a.vars (b.vars.length-i) i V=some m/\zd2 X Hi Si V lvi J/\FrQ X S vv (H.alloc (.cells x.cells 0 true)) Si J Hi/\zf3 X Si J (X.b+1) Hi Z a.vars/\V.vars.length=b.vars.length) eE ⟨b,S6,lv6,h4,R6,F06,y6,rfl⟩ ?_;clear R6 F06 y6;rintro i E Hi hi hcE hrH hnH hsI ⟨V,Si,lvi,U,Ri,Fi,yi,hil⟩;(try simp only[bC,aZ,aW,aG,aY,Nat.reduceBEq, *]at hcE);(try simp only[aZ, *]at hrH);(try simp only[aU,bq,ce,bR,Nat.reduceAdd]at hnH);have mi:=Ri.m;have hlen6:=Ri.vars.n.len';rw[hil]at hlen6;dsimp only[bO]at mi;have ni:H.next+1<=Hi.next:=Fi.next
 by_cases hlt:i<b.vars.length
 .have hlt':(i:Int)<b.vars.length:=by omega
  obtain⟨k,z⟩:∃k,b.vars.length-i=k+1:=⟨b.vars.length-i-1,ac⟩;have hk2:b.vars.length-(i+1)=k:=ac;rw[z]at U;rw[hk2];unfold lC at U;simp only[gG]at U;obtain⟨xa,hxa,xb,hxb,U⟩:=U;obtain⟨qa,hixa,hlda,hqa⟩:=yi.at hxa;obtain⟨qb,hixb,hldb⟩:=Ri.atV hxb;have hFx:Fin (bA r.1 xa xb V).2:=hFm.le ⟨(ta _ _ _ _ _ _ U).1.l,(ta _ _ _ _ _ _ U).1.n⟩;have hx2:(bA r.1 xa xb V).2.vars=V.vars:=(eZ _ _ _ _).v;have hvx:i<(bA r.1 xa xb V).2.vars.length:=by rw[hx2];omega
  repeat' (first
   |(apply aj ?_;clear hK K)|apply bQ ?_|(apply bu ?_ ?_<;>(intro hb hbp;try(cases hb;done)))|(apply am fun K hK=>?_)|(apply ci 38 [(3,18),(3,20),(10,18),(14,18),(17,18)] fun K hK=>?_)|(apply bD ?_;try intro _)|fail)
  refine qd ?_;refine aF ?_ (zp hG Ri r.1 xa xb hFx);rintro w H7 ⟨rfl,S7,lv7,R7,F7⟩;obtain⟨q',hix',hld',H8,hst,hq1,hq2,hq3,R8,F8,o8,n8⟩:=R7.setV hvx (bA r.1 xa xb V).1;have hqq:q'=qb:=by
   grind
  subst hqq;have y7:=yi.fr ac F7;have y8:=y7.fr ac F8;obtain⟨qa7,ix7,ld7,_⟩:=y7.at hxa;obtain⟨qa8,ix8,ld8,_⟩:=y8.at hxa;rw[hixa]at ix7 ix8;simp only[aQ,AV.ptr.injEq,aW]at ix7 ix8;subst ix7 ix8;have m7:=R7.m;have m8:=R8.m;have n7:=F7.next
  obtain⟨qb7,j,ldb7⟩:=R7.atV (i:=i) (x:=xb) (by rw[hx2];exact hxb);rw[hixb]at j;simp only[aQ,AV.ptr.injEq,aW]at j;subst j;dsimp only[bO]at m7 m8;clear hix' hx2;dsimp only[aC];repeat' (first
   |(apply aj ?_;clear hK K)|apply aV ?_|(apply am fun K hK=>?_)|(apply bD ?_;try intro _)|(apply ch ?_ ?_<;>clear hK K)|fail)
  .exact cn
  .refine⟨ac,a0,a0,ca,Qn,?_⟩;exact⟨_,S7,lv7,U,R8,Fi.trans (F7.trans F8),y8,Qm⟩
 .have hlt':¬(i:Int)<b.vars.length:=by omega
  have z:b.vars.length-i=0:=ac;rw[z]at U;simp only[lC,aQ]at U;subst U;refine zq fun K hK=>?_;refine qc ?_;refine aF ?_ (zp hG Ri r.1 a.ab V.ab hF);rintro w H7 ⟨rfl,S7,lv7,R7,F7⟩;have m7:=R7.m;dsimp only[bO]at m7;dsimp only[aC];refine dJ ?_;all_goals refine qq ?_
  obtain⟨R8,F8⟩:=R7.setS (bA r.1 a.ab V.ab V).1;exact⟨S7,lv7,J,R8,F1.trans (Fi.trans (F7.trans F8))⟩
end
end
variable{n:Nat}
section
def tyQaI.tyF:=ad @dQ (ad @cr (ad @yb (ad @cK (ad @jn (ad @fP (ad @eL (ad @et (ad @dV (ad @dR (ad @dD (ad @DF (ad @eh (ad @tX (ad @vL (ad @KO (@uz))))))))))))))))
open tyQaI
noncomputable def U4:{c:SC // aE 197 (f139.body.getD .skip)=c}:=by
 refine⟨?_,?_⟩;rotate_left
 .simp only[f139,bN,aE,bH,bw,bM,bJ,Nat.blt,Nat.ble];rfl
def zd7.other{vv:AV}(h:zd7 X S vv lo H Z l)(J:H.next<=H'.next)(U:∀k,k<H.next->¬aN O k->H'.get k=H.get k)(hd:∀k,aN Z k->¬aN O k):zd7 X S vv lo H' Z l:=⟨h.r.keep J fun k z=>U k (h.r.lt z).2 (hd k z),h.n⟩
def zf3.other{vv:AV}(h:zf3 X S vv lo H Z l)(J:H.next<=H'.next)(U:∀k,k<H.next->¬aN O k->H'.get k=H.get k)(hd:∀k,aN Z k->¬aN O k):zf3 X S vv lo H' Z l:=⟨h.r.keep J fun k z=>U k (h.r.lt z).2 (hd k z),h.n⟩
def zd7.same{vv:AV}(h:zd7 X S vv lo H Z l)(J:H.next<=H'.next)(U:∀k,k<H.next->H'.get k=H.get k):zd7 X S vv lo H' Z l:=⟨h.r.keep J fun k z=>U k (h.r.lt z).2,h.n⟩
def zf3.same{vv:AV}(h:zf3 X S vv lo H Z l)(J:H.next<=H'.next)(U:∀k,k<H.next->H'.get k=H.get k):zf3 X S vv lo H' Z l:=⟨h.r.keep J fun k z=>U k (h.r.lt z).2,h.n⟩
def FrQ.other{vv:AV}{bt:Hp}(h:FrQ X z U bt S vv H)(J:H.next<=H'.next)(Z:∀k,k<H.next->¬aN O k->H'.get k=H.get k)(M:∀k,aN O k->bt.next<=k):FrQ X z U bt S vv H':=
 ⟨dw h.next J,fun k m j V Y=>by rw[Z k (lh m h.next) fun e=>by have:=M k e;omega];exact h.get k m j V Y,h.sub,h.own⟩
def FrQ.same{vv:AV}{bt:Hp}(h:FrQ X z U bt S vv H)(J:H.next<=H'.next)(Z:∀k,k<H.next->H'.get k=H.get k):FrQ X z U bt S vv H':=
 ⟨dw h.next J,fun k m j V Y=>by rw[Z k (lh m h.next)];exact h.get k m j V Y,h.sub,h.own⟩
def zd7.eS{vv:AV}(h:zd7 X S vv lo H O l)(I:zd2 X H S s M vv)(Z:lo<=H.next)(x:Int)(hb:X.b<lo)(V:l.length<2^39):
 ∃j H',cD prog false (H.alloc (.cells [.int .i64 x] 0 true)) 23 23 O (.sl H.next 0 1 1)=some (j,H')/\zd7 X S vv lo H' j (l++[x])/\zd2 X H' S s M vv/\H.next<=H'.next/\(∀k,k<H.next->¬aN O k->H'.get k=H.get k)/\(∀k,aN j k->aN O k\/H.next<=k)/\H'.get H.next=some (.cells [.int .i64 x] 0 true)/\H.next+1<=H'.next:=by
 obtain⟨j,H',C,m,a3,J,Y,a7,_⟩:=h.f1 (I.alloc (.cells [.int .i64 x] 0 true)) cB (cG _) (fun k z=>em) x (r:=H.next) (imm:=0) fc hb V;simp only[aU]at J Y a7;exact⟨j,H',C,m,a3,ac,fun k h1 U=>by rw[Y k ac U,aD,af ac],fun k z=>by
  grind,by rw[Y _ ac fun e=>by have:=(h.r.lt e).2;omega,aD,ai rfl],J⟩
def zd7.gr{vv:AV}{m:qy}(h:zd7 X S vv lo H O l)(I:zd2 X H S s M vv)(C:lo<=H.next)(hm:m≠[])(hb:X.b<lo)(hl:l.length+m.length<2^40):
 ∃Y H',cD prog false (H.alloc (.cells (m.map (.int .i64)) 0 true)) 23 23 O (.sl H.next 0 m.length 1)=some (Y,H')/\zd7 X S vv lo H' Y (l++m)/\zd2 X H' S s M vv/\H.next<=H'.next/\(∀k,k<H.next->¬aN O k->H'.get k=H.get k)/\(∀k,aN Y k->aN O k\/H.next<=k):=by
 have z:∀k,k<H.next->(H.alloc (.cells (m.map (.int .i64)) 0 true)).get k=H.get k:=fun k z=>em
 have hr:fY (H.alloc (.cells (m.map (.int .i64)) 0 true)) O l lo:=h.r.keep (cG _) fun k j=>z k (h.r.lt j).2;obtain⟨Y,H',a1,a2,a3,a4,J,U⟩:=IN hr cB (sU (H:=H.alloc (.cells (m.map (.int .i64)) 0 true)) (r:=H.next) (imm:=0) (m:=m) fc) hm hl;simp only[aU]at a3 J U;have Z:∀k,k<H.next->¬aN O k->H'.get k=H.get k:=fun k V j=>by rw[J k ac j,z k V]
 refine⟨Y,H',a1,⟨.inr a2,fun k j=>?_⟩,I.keep ac fun k V j=>Z k V fun e=>?_,ac,Z,fun k j=>?_⟩
 .rcases U k j with e|e
  .exact h.n k e
  .have:=I.new (r:=k) ac;exact⟨this.1,this.2.1,fun e2=>by have:=(I.nS k e2).2.1;omega⟩
 .have b:=h.n k e;have c:=h.r.lt e;rcases j with j|j|j|j
  .omega
  .exact b.1 j
  .exact b.2.1 j
  .exact b.2.2 j
 grind
def zd7.at{vv:AV}(h:zd7 X S vv lo H Z l)(I:l[i]?=some x):∃r,el prog 23 Z (.int .i64 (i:Int))=some (.ptr r i)/\gX prog H 3 (.ptr r i)=some (.int .i64 x):=
 zd5.at (S:=fun _=>False) (vv:=.ag) (lo:=lo) ⟨h.r,fun k _=>⟨fun e=>e,fun e=>rk e⟩⟩ I
section
variable {tb:qC} (hG:zd8 tb) {X:Qx} {c:Cx} (hX:CxQ X c) {x:St} {s:Bd} {H:Hp} {S:Nat -> Prop} {lv vv:AV}
set_option maxRecDepth 100000 in
include hG hX in
theorem zhw(IH:Gv tb X c n){r:Int×Bd}{b:qM}{t:Bd}{d:Int×Bd}(h1:ec c n x.value {s with loops:=s.loops+1}=some r)(h2:fC c.aF n x.bl (List.replicate r.2.vars.length false)=some b)
 (h3:eY c n x.bl (ik (16*(s.loops:Int)+1) (eS b) 0 { (ah ⟨3,16*(s.loops:Int),[]⟩ r.2).2 with ab:=(ah ⟨3,16*(s.loops:Int),[]⟩ r.2).1})=some t) (h4:ec c n x.value t=some d)
 {k:Int×Bd} (z:ah ⟨31,s.loops,r.2.ab::((eS b).map fun i=>r.2.vars.getD i 0)++[d.1,d.2.ab]++((eS b).map fun i=>d.2.vars.getD i 0)⟩ d.2=k)
 {m:Int×Bd} (hm:bA r.1 (ah ⟨25,0,[k.1]⟩ {k.2 with vars:=r.2.vars}).1 r.2.ab (ah ⟨25,0,[k.1]⟩ {k.2 with vars:=r.2.vars}).2=m)
 (hF:Fin (fD k.1 r.1 r.2.vars (eS b) 1 {m.2 with ab:=m.1})) (hz:x.sz<2^36) (hvl:s.vars.length<2^36) (hR:zd2 X H S s lv vv) :
 aR prog (au pls tb) 139 [.ptr X.b 0,.agg x.cells] H (pC X S vv H (fD k.1 r.1 r.2.vars (eS b) 1 {m.2 with ab:=m.1})):=by
 have hw:zd0 (au pls tb) 139:=hG.plain cM;have hkeep:(au pls tb).keep 139=false:=rfl;have R1:=hR.alloc (.cells x.cells 0 true);have F1:=(fy X S vv H).alloc (.cells x.cells 0 true);have hdl0:d.2.vars.length=r.2.vars.length:=by
  rw[(dr c n _ _ _ h4).v,((jD c n).2.1 _ _ _ h3).2,(sd _ _ _ _).2.2.1];rfl
 have hmv:m.2.vars=r.2.vars:=by rw[<-hm,(eZ _ _ _ _).v];rfl
 have hFm:Fin m.2:=hF.le ⟨(tc _ _ _ _ _ {m.2 with ab:=m.1}).1.l,(tc _ _ _ _ _ {m.2 with ab:=m.1}).1.n⟩;have hFf:Fin (ah ⟨25,0,[k.1]⟩ {k.2 with vars:=r.2.vars}).2:=by rw[<-hm]at hFm;exact hFm.le (eZ _ _ _ _).le
 have hFk:Fin k.2:=hFf.le ⟨(cC ⟨25,0,[k.1]⟩ {k.2 with vars:=r.2.vars}).le.l,(cC ⟨25,0,[k.1]⟩ {k.2 with vars:=r.2.vars}).le.n⟩;have hFd:Fin d.2:=by rw[<-z]at hFk;exact hFk.le (cC _ _).le
 have hFt:Fin t:=hFd.le (dr c n _ _ _ h4).le;have e3:=(jD c n).2.1 _ _ _ h3;have hFl:=hFt.le e3.1;have hFp:Fin (ah ⟨3,16*(s.loops:Int),[]⟩ r.2).2:=hFl.le ⟨(sd _ _ _ { (ah ⟨3,16*(s.loops:Int),[]⟩ r.2).2 with ab:=(ah ⟨3,16*(s.loops:Int),[]⟩ r.2).1}).1.l,(sd _ _ _ { (ah ⟨3,16*(s.loops:Int),[]⟩ r.2).2 with ab:=(ah ⟨3,16*(s.loops:Int),[]⟩ r.2).1}).1.n⟩;have hFr:Fin r.2:=hFp.le (cC _ _).le;have hlv:=dr c n _ _ _ h1;have hrl:r.2.vars.length<2^36:=EW;have hln:s.loops<2^36:=ur (cG _) QE;have hbl:b.length=r.2.vars.length:=QF;have hdl:d.2.vars.length=r.2.vars.length:=hdl0;have hsz:=x.aV;have o5:=hR.o5;clear hlv e3;have bZ:=R1.m;have gx1:(H.alloc (.cells x.cells 0 true)).get H.next=some (.cells x.cells 0 true):=fc
 obtain⟨R1s,F1s⟩:=R1.dP (s.loops+1);have m1s:=R1s.m;have g1s:=fS hR F1s;have eL1:IntKind.wrap .i64 ((s.loops:Int)+1)=((s.loops+1:Nat):Int):=gS ac;dsimp only[bO]at bZ m1s R1s F1s g1s;refine bp (M:=197) (rs:=[]) (hw.call _) hw.aG hw.aB func139 rfl rfl U4.2 rfl ?_;dsimp only[U4,bm,Nat.reduceAdd];refine cY fun K hK=>?_;refine qc ?_;refine aF ?_ (tx hG hX n x.value _ r h1 hFr R1s);rintro w Y ⟨rfl,S2,lv2,R2,F2⟩;have F02:=F1s.trans F2;have g2:=fS hR F02;have m2:=R2.m;have n2:H.next+1<=Y.next:=F02.next
 have hl2:=R2.vars.n.len';have hmk:∀H:Hp,pI prog H 84 (.int .i64 r.2.vars.length) (.int .i64 r.2.vars.length)=some (.sl H.next 0 r.2.vars.length 1,H.alloc (.cells ((List.replicate r.2.vars.length false).map .bool) 0 true)):=fun H=>NP _ ac;have nw2:=R2.new (ay _);have nv2:¬aN X.nv Y.next:=fun e=>by have:=(R2.nS _ e).2.1;omega
 have R3:=R2.alloc (.cells ((List.replicate r.2.vars.length false).map .bool) 0 true);have g3:(Y.alloc (.cells ((List.replicate r.2.vars.length false).map .bool) 0 true)).get H.next=some (.cells x.cells 0 true):=by rw[aD,af ac];exact g2
 clear R1 R1s bZ m1s g1s;dsimp only[bO]at m2;dsimp only[aC];refine cY fun K hK=>?_;refine qc ?_;have hrep:(List.replicate r.2.vars.length false).length=r.2.vars.length:=xm;have hasg:=KR hG hX (n+1) n (bT _) x.bl _ b h2 ac R3 (q:=Y.next) fc nw2.2.2 (bT _) nw2.1 nw2.2.1 nv2;rw[hrep]at hasg;refine aF ?_ hasg;clear hasg;rintro w H3 ⟨gb3,n3,q3⟩;simp only[aU]at n3 q3;have hq3:∀k,k<Y.next->H3.get k=Y.get k:=fun k z=>QT
 have R4:zd2 X H3 S2 r.2 lv2 vv:=R2.keep ac fun k z _=>hq3 k z;clear q3 R3 g3;dsimp only[aC];refine dJ ?_;refine cl [0,3,4,5,6] [] 8 r.2.vars.length (fun i E Hi=>∃a,E.at 7=a/\fY Hi a (mJ (vN b i)) (Y.next+1)/\Sm (Y.next+1) H3 Hi) eE ⟨.ag,eE,.inl ⟨rfl,rfl⟩,⟨fun _ _=>rfl⟩⟩ ?_;rintro i E Hi hi hcE hrH hnH hsI ⟨a,k7,ha,hsm⟩;(try simp only[bC,aZ,aW,aG,aY,Nat.reduceBEq, *]at hcE);(try simp only[aZ, *]at hrH);(try simp only[aU,bq,ce,bR,Nat.reduceAdd]at hnH);by_cases J:i<r.2.vars.length
 .have hlt':(i:Int)<r.2.vars.length:=by omega
  have gbi:Hi.get Y.next=some (.cells (b.map .bool) 0 true):=by rw[hsm.get _ ac];exact gb3
  have hix:=E8 (q:=Y.next) J;have hld:=Q0 gbi (m:=i) ac;have hws:=Q1 b i;have hwl:=Fm b i;cases hbi:b.getD i false with
  |true=>
   rw[hbi]at hld;rw[hbi,ai rfl]at hws;obtain⟨v5,H5,a5,s5,n5,f5,o5'⟩:=D4 (H:=Hi.alloc (.cells [.int .i64 (i:Int)] 0 true)) (i:Int) (ha.keep (H':=Hi.alloc (.cells [.int .i64 (i:Int)] 0 true)) (cG _) fun k z=>QG) cB (r:=Hi.next) (imm:=0) fc aX;have n5':Hi.next<=H5.next:=Bn
   refine tA (fun hb hbp=>?_);refine⟨ac,a0,a0,ca,Fe,?_⟩;exact⟨v5,eE,.inr bb,⟨fun k z=>QU⟩⟩
  |false=>
   rw[hbi]at hld;rw[hbi,af aw,aS]at hws;refine tA (fun hb hbp=>?_);refine⟨ac,a0,a0,ca,Fe,?_⟩;exact⟨a,eE,by rw[hws];exact ha,hsm⟩
 .have hlt':¬(i:Int)<r.2.vars.length:=by omega
  have hie:vN b i=eS b:=QV;rw[hie]at ha;have hwm:∀j∈eS b,j<r.2.vars.length:=fun j hj=>by have:=Fl hj;omega
  have hwl:(eS b).length<2^36:=by have:=Fm b b.length;grind
  have hnd:=Q5 b;generalize eS b=Z at *;clear hie gb3 h2 hbl;have hi3:∀k,k<Y.next+1->Hi.get k=H3.get k:=hsm.get
  have hi2:∀k,k<Y.next->Hi.get k=Y.get k:=fun k z=>aX
  have Ri:zd2 X Hi S2 r.2 lv2 vv:=R2.keep ac fun k z _=>hi2 k z;have W:zd7 X S2 vv (Y.next+1) Hi a (mJ Z):=⟨ha,fun k z=>by
   have:=R2.new (r:=k) (by have:=(ha.lt z).1;omega);exact⟨this.1,this.2.1,fun e=>by have:=(R2.nS k e).2.1;have:=(ha.lt z).1;omega⟩⟩
  have Fi:FrQ X S vv (H.alloc (.cells x.cells 0 true)) S2 vv Hi:=F02.same ac hi2;have gi:=fS hR Fi;have mi:=Ri.m;have ni:H.next+1<=Hi.next:=Fi.next
  clear hsm R4 F02 hi3 ha hq3 hi2 R2 m2 g2;obtain⟨cv,H4,a4,c4,n4,q4⟩:=KQ (H:=Hi) Ri.vars.n ac;have R4:zd2 X H4 S2 r.2 lv2 vv:=Ri.keep ac fun k h _=>q4 k h;have W4:=W.same ac q4;have F4:=Fi.same ac q4;have C4:zf3 X S2 vv (Y.next+1) H4 cv r.2.vars:=⟨c4.lo fun k z=>by have:=(c4.lt z).1;omega,fun k z=>by
   have:=Ri.new (c4.lt z).1;exact⟨this.1,this.2.1,fun e=>by have:=(Ri.nS k e).2.1;have:=(c4.lt z).1;omega⟩⟩
  have dAC:∀k,aN a k->¬aN cv k:=fun k h1 h2=>by have:=(W.r.lt h1).2;have:=(c4.lt h2).1;omega
  have m4:=R4.m;have g4:=fS hR F4;have mia:=(Ri.alloc qf).m;have ew:=(Fo hln (j:=0) ac).1;have Rb:=R4.alloc (.cells [.int .i64 r.2.ab] 0 true);have Fb:=F4.alloc (.cells [.int .i64 r.2.ab] 0 true);have gb:=fS hR Fb;have mb:=Rb.m;obtain⟨hc1,hc2⟩:=c4.one;clear W c4;dsimp only[bO]at mi mia m4 mb;repeat' (first
   |(apply aj ?_;clear hK K)|apply bQ ?_|(apply bu ?_ ?_<;>(intro hb hbp;try(cases hb;done)))|(apply am fun K hK=>?_)|fail)
  refine qc ?_;refine aF ?_ (tw hG Rb 3 (16*(s.loops:Int)) hFp);generalize hp:ah ⟨3,16*(s.loops:Int),[]⟩ r.2=p at *;have hpv:p.2.vars=r.2.vars:=yK;rintro w H5 ⟨rfl,S5,lv5,R5,F5⟩;have kb:∀k,k<H4.next->(H4.alloc (.cells [.int .i64 r.2.ab] 0 true)).get k=H4.get k:=fun k z=>em
  have W5:=(W4.same (cG _) kb).fr ac F5;have C5:=(C4.same (cG _) kb).fr ac F5;have V5:zd7 X S5 vv (Y.next+1) H5 (.sl H4.next 0 1 1) [r.2.ab]:=zd7.fr (X:=X) (H:=H4.alloc (.cells [.int .i64 r.2.ab] 0 true)) (S:=S2) (vv:=vv) ⟨.inr ⟨H4.next,0,rfl,dZ,cZ _,ac,bT _⟩,fun k z=>by
   have e:=uy z;have:=R4.new (r:=k) ac;exact⟨this.1,this.2.1,fun e2=>by have:=(R4.nS k e2).2.1;omega⟩⟩ ac F5
  have d5:∀k,aN a k->¬aN (.sl H4.next 0 1 1) k:=fun k h1 h2=>by
   have:=(W4.r.lt h1).2;rw[uy h2]at this;omega
  have dC5:∀k,aN cv k->¬aN (.sl H4.next 0 1 1) k:=fun k h1 h2=>by
   have:=(C4.r.lt h1).2;rw[uy h2]at this;omega
  have m5:=R5.m;obtain⟨R6,F6⟩:=R5.setS p.1;have F06:=Fb.trans (F5.trans F6);have W6:=W5.fr (X:=X) ac F6;have V6:=V5.fr (X:=X) ac F6;have C6:=C5.fr (X:=X) ac F6;have l6:=fun H'=>W5.r.len' (H':=H');have g6:=fS hR F06;have n6:Y.next+1<=H5.next:=by have:=F5.next;simp only[aU]at this;omega
  clear R5 F5 Rb gb W5 V5 C5 Ri W4 C4 F4 R4 m4 mb gi mi mia Fi Fb kb g4;dsimp only[bO]at m5 R6 F06 W6 V6 C6 g6;rw[dx]at l6;dsimp only[aC];refine dJ ?_;have hdl1:∀j,j<Z.length->r.2.vars[Z.getD j 0]?=some (r.2.vars.getD (Z.getD j 0) 0):=fun j hj=>by
   simp_all
  have haw:∀j,j<Z.length->(mJ Z)[j]?=some ((Z.getD j 0:Nat):Int):=fun j hj=>by
   simp_all
  have hdr:∀j,j<Z.length->Z.drop j=Z.getD j 0::Z.drop (j+1):=fun j hj=>bb;have htk:∀j,j<Z.length->Z.take (j+1)=Z.take j++[Z.getD j 0]:=fun j hj=>bb;have hnt:∀j,j<Z.length->Z.getD j 0∉Z.take j:=fun j hj hm=>by
   have h:=hnd;rw[<-zY j Z,hdr j hj,JP]at h
   grind
  refine cl [0,3,4,5,7,9,10] [] 12 Z.length (fun j E C=>∃wv O Sj lvj,E.at 11=wv/\ik (16*(s.loops:Int)+1) (Z.drop j) j O=ik (16*(s.loops:Int)+1) Z 0 {p.2 with ab:=p.1} /\ O.vars.length=r.2.vars.length/\zd2 X C Sj O lvj vv/\FrQ X S vv (H.alloc (.cells x.cells 0 true)) Sj vv C/\zd7 X Sj vv (Y.next+1) C a (mJ Z)/\zf3 X Sj vv (Y.next+1) C cv r.2.vars/\zd7 X Sj vv (Y.next+1) C wv (r.2.ab::(Z.take j).map fun i=>r.2.vars.getD i 0)/\(∀k,aN a k->¬aN wv k)/\∀k,aN cv k->¬aN wv k) eE ⟨_,_,S5,lv5,eE,Fa,yK,R6,F06,W6,C6,V6,d5,dC5⟩ ?_;clear R6 F06 W6 V6 C6 d5 dC5 m5 g6;rintro j E C hj hcE hrH hnH hsI ⟨wv,O,Sj,lvj,k11,hJ,hjv,Rj,Fj,Aj,Cj,Wj,dj,dCj⟩;(try simp only[bC,aZ,aW,aG,aY,Nat.reduceBEq, *]at hcE);(try simp only[aZ,aY, *]at hrH);(try simp only[bq,]at hnH);have mj:=Rj.m;dsimp only[bO]at mj;have nj:Y.next+1<=C.next:=dw n6 hnH
  by_cases J:j<Z.length
  .have hlt':(j:Int)<Z.length:=by omega
   have U:=haw j J;have hvj:=hdl1 j J;have htj:=htk j J;have hwl1:Z.getD j 0<O.vars.length:=bb;rw[hdr j J]at hJ;rw[Q3]at hJ;rw[htj];generalize Z.getD j 0=w at *;generalize hy:r.2.vars.getD w 0=y at *;obtain⟨qa,ixa,lda⟩:=Aj.at U;obtain⟨qc',ixc,ldc,_⟩:=Cj.at hvj;obtain⟨qv,ixv,ldv,_⟩:=Rj.setV hwl1 0;obtain⟨e1,e2,e3⟩:=Fo hln (j:=j) ac;have e4:IntKind.wrap .i64 (16*(s.loops:Int)+1)=16*(s.loops:Int)+1:=kR ac ac;have e5:IntKind.wrap .i64 (16*(s.loops:Int)+1+j)=16*(s.loops:Int)+1+j:=kR ac ac;obtain⟨v',H',a1,W',R',n',q',own',_,_⟩:=Wj.eS Rj nj y ac QH;have A':=Aj.other n' q' dj;have C':=Cj.other n' q' dCj;have F':=Fj.other n' q' (fun k z=>by have:=(Wj.r.lt z).1;simp only[aU];omega);have d':∀k,aN a k->¬aN v' k:=fun k h1 h2=>by
    rcases own' k h2 with e|e
    .exact dj k h1 e
    .have:=(Aj.r.lt h1).2;omega
   have dC':∀k,aN cv k->¬aN v' k:=fun k h1 h2=>by
    rcases own' k h2 with e|e
    .exact dCj k h1 e
    .have:=(Cj.r.lt h1).2;omega
   have m':=R'.m;have hFx:Fin (ah ⟨3,16*(s.loops:Int)+1+j,[]⟩ O).2:=hFl.le QI;have I:=tw hG R' 3 (16*(s.loops:Int)+1+j) hFx;obtain⟨qa',ixa',lda'⟩:=A'.at U;rw[ixa]at ixa';simp only[aQ,AV.ptr.injEq,aW]at ixa';subst ixa';dsimp only[bO]at m';clear dj dCj Aj Cj Wj q' own' Rj hvj;repeat' (first
    |(apply aj ?_;clear hK K)|apply bQ ?_|(apply bu ?_ ?_<;>(intro hb hbp;try(cases hb;done)))|(apply am fun K hK=>?_)|(apply ci 20 [(3,14),(3,16),(7,14),(7,16)] fun K hK=>?_)|(apply bD ?_;try intro _)|fail)
   refine qd ?_;refine aF ?_ I;generalize hpu:ah ⟨3,16*(s.loops:Int)+1+j,[]⟩ O=pu at *;have hpuv:pu.2.vars=O.vars:=by rw[<-hpu];rfl
   have hwl2:w<pu.2.vars.length:=by rw[hpuv];exact hwl1
   rintro u H7 ⟨rfl,S7,lv7,R7,F7⟩;obtain⟨q',hix',hld',H8,hst,hq1,hq2,hq3,R8,F8,o8,n8⟩:=R7.setV hwl2 pu.1;have hqq:q'=qv:=by
    rw[ixv]at hix';simp only[aQ,AV.ptr.injEq]at hix';exact hix'.1.symm
   subst hqq;have A7:=A'.fr (X:=X) ac F7;have A8:=A7.fr (X:=X) ac F8;have C8:=(C'.fr (X:=X) ac F7).fr (X:=X) ac F8;have W8:=(W'.fr (X:=X) ac F7).fr (X:=X) ac F8;have F08:=F'.trans (F7.trans F8);obtain⟨qa7,ixa7,lda7⟩:=A7.at U;obtain⟨qa8,ixa8,lda8⟩:=A8.at U;rw[ixa]at ixa7 ixa8;simp only[aQ,AV.ptr.injEq,aW]at ixa7 ixa8;subst ixa7 ixa8;have m7:=R7.m;have m8:=R8.m;have n7:=F7.next
   have nj8:C.next<=H8.next:=ac
   have hjv':(pu.2.vars.set w pu.1).length=r.2.vars.length:=by rw[jQ,hpuv];exact hjv
   have hmap:(r.2.ab::(Z.take j).map fun i=>r.2.vars.getD i 0)++[y]=r.2.ab::(Z.take j++[w]).map fun i=>r.2.vars.getD i 0:=QJ;rw[hmap]at W8;clear hpuv hmap hjv hix' A' W' C' F' hpu hld' A7;dsimp only[bO]at m7 m8;dsimp only[aC];repeat' (first
    |(apply aj ?_;clear hK K)|apply aV ?_|(apply am fun K hK=>?_)|(apply bD ?_;try intro _)|(apply ch ?_ ?_<;>clear hK K)|fail)
   .exact cn
   .refine⟨ac,a0,a0,ca,Fh,?_⟩;exact⟨v',_,S7,lv7,eE,hJ,hjv',R8,F08,A8,C8,W8,d',dC'⟩
  .have hlt':¬(j:Int)<Z.length:=by omega
   have hd:Z.drop j=[]:=mH ac;have ht:Z.take j=Z:=gQ ac;rw[hd]at hJ;rw[ht]at Wj;have hJ:O=ik (16*(s.loops:Int)+1) Z 0 {p.2 with ab:=p.1}:=hJ;rw[<-hJ]at hFl h3;have gj:=fS hR Fj;have nj2:H.next+1<=C.next:=Fj.next
   clear hJ hd ht;repeat' (first
    |(apply aj ?_;clear hK K)|apply bQ ?_|(apply bu ?_ ?_<;>(intro hb hbp;try(cases hb;done)))|(apply am fun K hK=>?_)|fail)
   refine qc ?_;refine aF ?_ (IH x.bl O t h3 hFt ac ac Rj);rintro u H6 ⟨S6,lv6,vv6,R6,F6⟩;have A6:=Aj.fr (X:=X) ac F6;have W6:=Wj.fr (X:=X) ac F6;have C6:=Cj.fr (X:=X) ac F6;have F06:=Fj.trans F6;have nj6:Y.next+1<=H6.next:=dw nj F6.next
   have g6:=fS hR F06;clear Rj Fj Aj Wj Cj F6 gj mj;dsimp only[aC];refine cY fun K hK=>?_;refine qc ?_;refine aF ?_ (tx hG hX n x.value t d h4 hFd R6);rintro u H7 ⟨rfl,S7,lv7,R7,F7⟩;have A7:=A6.fr (X:=X) ac F7;have W7:=W6.fr (X:=X) ac F7;have C7:=C6.fr (X:=X) ac F7;have F07:=F06.trans F7;have m7:=R7.m;have n7:H.next+1<=H7.next:=F07.next
   have nj7:Y.next+1<=H7.next:=dw nj6 F7.next
   clear R6 F06 A6 W6 C6 F7 g6;dsimp only[bO]at m7;dsimp only[aC];have hwlen:(r.2.ab::Z.map fun i=>r.2.vars.getD i 0).length<2^37:=QK;obtain⟨kv,H9,a9,K9,R9,n9,q9,own9⟩:=W7.gr (m:=[d.1,d.2.ab]) R7 nj7 aw ac QL;have A9:=A7.other n9 q9 dj;have C9:=C7.other n9 q9 dCj;have F9:=F07.other n9 q9 (fun k z=>by have:=(W7.r.lt z).1;simp only[aU];omega);have dA9:∀k,aN a k->¬aN kv k:=fun k h1 h2=>by
    rcases own9 k h2 with e|e
    .exact dj k h1 e
    .have:=(A7.r.lt h1).2;omega
   have dC9:∀k,aN cv k->¬aN kv k:=fun k h1 h2=>by
    rcases own9 k h2 with e|e
    .exact dCj k h1 e
    .have:=(C7.r.lt h1).2;omega
   have l9a:=fun H'=>A9.r.len' (H':=H');rw[dx]at l9a;simp only[kF,l8,bR,Nat.reduceAdd]at a9;clear R7 F07 A7 W7 C7 dj dCj own9 q9;refine dJ ?_;have hdv:∀w,w<r.2.vars.length->d.2.vars[w]?=some (d.2.vars.getD w 0):=fun w hw=>by
    simp_all
   have hwj0:∀j,j<Z.length->Z.getD j 0<r.2.vars.length:=fun j J=>hwm _ QM;refine cl [0,3,4,5,7,9,10] [] 14 Z.length (fun j E C=>∃kj,E.at 11=kj/\zd2 X C S7 d.2 lv7 vv6/\FrQ X S vv (H.alloc (.cells x.cells 0 true)) S7 vv6 C/\zd7 X S7 vv6 (Y.next+1) C a (mJ Z)/\zf3 X S7 vv6 (Y.next+1) C cv r.2.vars/\zd7 X S7 vv6 (Y.next+1) C kj (r.2.ab::(Z.map fun i=>r.2.vars.getD i 0)++[d.1,d.2.ab]++((Z.take j).map fun i=>d.2.vars.getD i 0))/\(∀k,aN a k->¬aN kj k)/\∀k,aN cv k->¬aN kj k) eE ⟨kv,eE,R9,F9,A9,C9,aX,dA9,dC9⟩ ?_;clear R9 F9 A9 C9 K9 dA9 dC9 m7 a9;rintro j E C hj hcE hrH hnH hsI ⟨kj,k11,Rj,Fj,Aj,Cj,Kj,dAj,dCj⟩;(try simp only[bC,aZ,aW,aG,Nat.reduceBEq, *]at hcE);(try simp only[aZ, *]at hrH);(try simp only[aU,bq,ce,bR,Nat.reduceAdd]at hnH);have mj:=Rj.m;dsimp only[bO]at mj;have nj:Y.next+1<=C.next:=ac
   by_cases J:j<Z.length
   .have hlt':(j:Int)<Z.length:=by omega
    have U:=haw j J;have hvj:=hdv _ (hwj0 j J);have htj:=htk j J;rw[htj];generalize Z.getD j 0=w at *;generalize hy:d.2.vars.getD w 0=y at *;obtain⟨qa,ixa,lda⟩:=Aj.at U;obtain⟨qv,ixv,ldv⟩:=Rj.atV hvj;obtain⟨v',H',a1,K',R',n',q',own',gk,n''⟩:=Kj.eS Rj nj y ac QN;have A':=Aj.other n' q' dAj;have C':=Cj.other n' q' dCj;have F':=Fj.other n' q' (fun k z=>by have:=(Kj.r.lt z).1;simp only[aU];omega);have dA':∀k,aN a k->¬aN v' k:=fun k h1 h2=>by
     rcases own' k h2 with e|e
     .exact dAj k h1 e
     .have:=(Aj.r.lt h1).2;omega
    have dC':∀k,aN cv k->¬aN v' k:=fun k h1 h2=>by
     rcases own' k h2 with e|e
     .exact dCj k h1 e
     .have:=(Cj.r.lt h1).2;omega
    have hmap:(r.2.ab::(Z.map fun i=>r.2.vars.getD i 0)++[d.1,d.2.ab]++((Z.take j).map fun i=>d.2.vars.getD i 0))++[y]=r.2.ab::(Z.map fun i=>r.2.vars.getD i 0)++[d.1,d.2.ab]++((Z.take j++[w]).map fun i=>d.2.vars.getD i 0):=QO;rw[hmap]at K';have Rja:=Rj.alloc (.cells [.int .i64 y] 0 true);have Aja:=Aj.same (cG _) (H':=C.alloc (.cells [.int .i64 y] 0 true)) fun k z=>em;obtain⟨qa',ixa',lda'⟩:=A'.at U;obtain⟨qa2,ixa2,ldaa⟩:=Aja.at U;obtain⟨qv',ixv',ldv'⟩:=R'.atV hvj;obtain⟨qv2,ixv2,ldva⟩:=Rja.atV hvj;rw[ixa]at ixa' ixa2;rw[ixv]at ixv' ixv2;simp only[aQ,AV.ptr.injEq,aW]at ixa' ixa2 ixv' ixv2;subst ixa' ixa2 ixv' ixv2;have m':=R'.m;have mja:=Rja.m;dsimp only[bO]at m' mja;clear hmap dAj dCj Aj Cj Kj q' own' Rj Rja Aja hvj;repeat' (first
     |(apply aj ?_;clear hK K)|apply bQ ?_|(apply bu ?_ ?_<;>(intro hb hbp;try(cases hb;done)))|(apply am fun K hK=>?_)|(apply ci 27 [(4,12),(8,12),(10,12),(11,12)] fun K hK=>?_)|(apply bD ?_;try intro _)|(apply ch ?_ ?_<;>clear hK K)|fail)
    .exact cn
    .refine⟨ac,a0,a0,ca,Fh,?_⟩;exact⟨v',eE,R',F',A',C',K',dA',dC'⟩
   .have hlt':¬(j:Int)<Z.length:=by omega
    have ht:Z.take j=Z:=gQ ac;rw[ht]at Kj;clear ht;have I:=Gt (lo:=Y.next+1) hG Rj ⟨31,s.loops,r.2.ab::(Z.map fun i=>r.2.vars.getD i 0)++[d.1,d.2.ab]++(Z.map fun i=>d.2.vars.getD i 0)⟩ Kj.r (by rw[z];exact hFk);rw[z]at I;repeat' (first
     |(apply aj ?_;clear hK K)|apply bQ ?_|(apply bu ?_ ?_<;>(intro hb hbp;try(cases hb;done)))|(apply am fun K hK=>?_)|fail)
    refine qc ?_;refine aF ?_ I;rintro u V ⟨rfl,S10,lv10,R10,F10⟩;have A10:=Aj.fr (X:=X) ac F10;have C10:=Cj.fr (X:=X) ac F10;have F010:=Fj.trans F10;have n10:C.next<=V.next:=F10.next
    clear Rj Fj Aj Cj Kj dAj dCj I mj F10;have m10:=R10.m;have hkv:k.2.vars=d.2.vars:=by rw[<-z];rfl
    have R11:=R10.swapV (vw:=cv) (l:=r.2.vars) (C10.r.lo fun k _=>cZ _) (fun k z=>⟨by have:=(C10.r.lt z).1;omega,(C10.r.lt z).2,(C10.n k z).1,(C10.n k z).2.2⟩);have hk11:∀q,q≠X.b->(V.set X.b (.cells (bO X {k.2 with vars:=r.2.vars} lv10 cv) 0 true)).get q=V.get q:=fun q hq=>Gg;have F11:FrQ X S vv (H.alloc (.cells x.cells 0 true)) S10 cv (V.set X.b (.cells (bO X {k.2 with vars:=r.2.vars} lv10 cv) 0 true)):=⟨F010.next,fun k h1 h2 h4 h5=>by rw[hk11 k h2];exact F010.get k h1 h2 h4 h5,F010.sub,fun k z=>.inr (by have:=(C10.r.lt z).1;simp only[aU];omega)⟩;have hAC:∀q,aN a q->¬aN cv q:=dAC;have A11:zd7 X S10 cv (Y.next+1) (V.set X.b (.cells (bO X {k.2 with vars:=r.2.vars} lv10 cv) 0 true)) a (mJ Z):=⟨A10.r.keep (ay _) fun q hq=>hk11 q (by have:=(A10.r.lt hq).1;omega),fun q hq=>⟨(A10.n q hq).1,hAC q hq,(A10.n q hq).2.2⟩⟩;clear A10 C10 F010 hk11;have R11a:=R11.alloc (.cells [.int .i64 k.1] 0 true);have F11a:=(fy X S10 cv (V.set X.b (.cells (bO X {k.2 with vars:=r.2.vars} lv10 cv) 0 true))).alloc (.cells [.int .i64 k.1] 0 true);have I:=lI hG R11a ⟨25,0,[k.1]⟩ rfl dZ (bT _) hFf rfl rfl;have n11:(V.set X.b (.cells (bO X {k.2 with vars:=r.2.vars} lv10 cv) 0 true)).next=V.next:=rfl
    dsimp only[bO]at m10 R11 F11 F11a A11 I n11;rw[n11]at I;dsimp only[aC];refine cY fun K hK=>?_;refine qc ?_;refine aF ?_ I;generalize hf:ah ⟨25,0,[k.1]⟩ {k.2 with vars:=r.2.vars}=f at *;rintro u H12 ⟨rfl,S12,lv12,R12,F12⟩;have F012:=F11.trans (F11a.trans F12);have kb:∀q,q<V.next->(Hp.alloc (Hp.set V X.b (.cells [.az (X.p.aa.map Ar.cells),.az (X.p.funcs.map Fu.cells),lv10,X.nv,cv,.int .i64 k.2.ab,.int .i64 k.2.loops] 0 true)) (.cells [.int .i64 k.1] 0 true)).get q=(Hp.set V X.b (.cells [.az (X.p.aa.map Ar.cells),.az (X.p.funcs.map Fu.cells),lv10,X.nv,cv,.int .i64 k.2.ab,.int .i64 k.2.loops] 0 true)).get q:=fun q hq=>em
    have A12:=(A11.same (cG _) kb).fr (X:=X) ac F12;have n12:V.next+1<=H12.next:=F12.next
    clear R11 R11a F11 F11a A11 kb F12 I;dsimp only[aC];refine cY fun K hK=>?_;refine qc ?_;refine aF ?_ (zp hG R12 r.1 f.1 r.2.ab (by rw[hm];exact hFm));rw[hm];rintro u H13 ⟨rfl,S13,lv13,R13,F13⟩;have m13:=R13.m;obtain⟨R14,F14⟩:=R13.setS m.1;have F014:=F012.trans (F13.trans F14);have A14:=(A12.fr (X:=X) ac F13).fr (X:=X) ac F14;have n13:H12.next<=H13.next:=F13.next
    have l14:=fun H'=>A14.r.len' (H':=H');rw[dx]at l14;dsimp only[bO]at m13 R14 F014 A14;dsimp only[aC];refine dJ ?_;refine cl [0,3,5,7,9,15] [] 17 Z.length (fun j E C=>∃O Sj lvj,fD k.1 r.1 r.2.vars (Z.drop j) (j+1) O=fD k.1 r.1 r.2.vars Z 1 {m.2 with ab:=m.1} /\ O.vars.length=r.2.vars.length/\(∀i,i∉Z.take j->O.vars[i]?=r.2.vars[i]?)/\zd2 X C Sj O lvj cv/\FrQ X S vv (H.alloc (.cells x.cells 0 true)) Sj cv C/\zd7 X Sj cv (Y.next+1) C a (mJ Z)) eE ⟨{m.2 with ab:=m.1},S13,lv13,Fa,by rw[<-hmv],fun i _=>by rw[<-hmv],R14,F014,A14⟩ ?_;clear R14 F014 A14 m13 R12 R13 F13 F14 F012 A12;rintro i3 E3 Hi3 hi3 hcE hrH hnH hsI ⟨O,Sj,lvj,hJ,hjv,hjo,Rj,Fj,Aj⟩;(try simp only[bC,aZ,aW,aG,aY,Nat.reduceBEq, *]at hcE);(try simp only[aZ,aY, *]at hrH);(try simp only[bq,]at hnH);have mj:=Rj.m;dsimp only[bO]at mj;have nj:Y.next+1<=Hi3.next:=ac
    by_cases J:i3<Z.length
    .have hlt':(i3:Int)<Z.length:=by omega
     have U:=haw i3 J;have hvj:=hdl1 i3 J;have hnj:=hnt i3 J;have htj:=htk i3 J;have hwl1:Z.getD i3 0<O.vars.length:=by rw[hjv];exact hwj0 i3 J
     rw[hdr i3 J,Fp]at hJ;rw[<-hjo _ hnj]at hvj;rw[htj];generalize Z.getD i3 0=w at *;generalize r.2.vars.getD w 0=y at *;have hsx:IntKind.wrap .i64 (1+(i3:Int))=((i3+1:Nat):Int):=EX;have hFq:Fin (bA r.1 (ah ⟨25,((i3+1:Nat):Int),[k.1]⟩ O).1 y (ah ⟨25,((i3+1:Nat):Int),[k.1]⟩ O).2).2:=hF.le QP;have hFq0:Fin (ah ⟨25,((i3+1:Nat):Int),[k.1]⟩ O).2:=hFq.le (eZ _ _ _ _).le;have Rja:=Rj.alloc (.cells [.int .i64 k.1] 0 true);have I:=lI hG Rja ⟨25,((i3+1:Nat):Int),[k.1]⟩ rfl dZ (bT _) hFq0 rfl rfl;repeat' (first
      |(apply aj ?_;clear hK K)|apply bQ ?_|(apply bu ?_ ?_<;>(intro hb hbp;try(cases hb;done)))|(apply am fun K hK=>?_)|fail)
     refine qc ?_;refine aF ?_ I;generalize hg:ah ⟨25,((i3+1:Nat):Int),[k.1]⟩ O=g at *;have hgv:g.2.vars=O.vars:=by rw[<-hg];rfl
     rintro u H14 ⟨rfl,S14,lv14,R14,F14'⟩;have F14:=((fy X Sj cv Hi3).alloc (.cells [.int .i64 k.1] 0 true)).trans F14';have A14:=Aj.fr (X:=X) ac F14;have F014:=Fj.trans F14;have n14:Hi3.next<=H14.next:=F14.next
     have m14:=R14.m;obtain⟨qa,ixa,lda⟩:=A14.at U;obtain⟨qv,ixv,ldv⟩:=R14.atV (i:=w) (x:=y) (by rw[hgv];exact hvj);clear Rja I F14 F14' Fj Aj;dsimp only[bO]at m14;dsimp only[aC];repeat' (first
      |(apply aj ?_;clear hK K)|apply aV ?_|(apply ci 36 [(3,18),(3,20),(7,18),(7,20),(15,18),(17,18)] fun K hK=>?_)|(apply bD ?_;try intro _)|fail)
     refine qd ?_;refine aF ?_ (zp hG R14 r.1 g.1 y hFq);generalize hmq:bA r.1 g.1 y g.2=mq at *;have hmqv:mq.2.vars=O.vars:=by rw[<-hmq,(eZ _ _ _ _).v];exact hgv
     have hwl2:w<mq.2.vars.length:=by rw[hmqv];exact hwl1
     rintro u H15 ⟨rfl,S15,lv15,R15,F15⟩;obtain⟨q',hix',hld',H16,hst,hq1,hq2,hq3,R16,F16,o16,n16⟩:=R15.setV hwl2 mq.1;have hqq:q'=qv:=by
      grind
     subst hqq;have A15:=A14.fr (X:=X) ac F15;have A16:=A15.fr (X:=X) ac F16;have F016:=F014.trans (F15.trans F16);obtain⟨qa5,ixa5,lda5⟩:=A15.at U;obtain⟨qa6,ixa6,lda6⟩:=A16.at U;rw[ixa]at ixa5 ixa6;simp only[aQ,AV.ptr.injEq,aW]at ixa5 ixa6;subst ixa5 ixa6;obtain⟨qv5,ixv5,ldv5⟩:=R15.atV (i:=w) (x:=y) (by rw[hmqv];exact hvj);rw[ixv]at ixv5;simp only[aQ,AV.ptr.injEq,aW]at ixv5;subst ixv5;have m15:=R15.m;have m16:=R16.m;have n15:H14.next<=H15.next:=F15.next
     have nj16:Hi3.next<=H16.next:=ac
     have hjv':(mq.2.vars.set w mq.1).length=r.2.vars.length:=by rw[jQ,hmqv];exact hjv
     have hjo':∀i,i∉Z.take i3++[w]->(mq.2.vars.set w mq.1)[i]?=r.2.vars[i]?:=fun i hi=>by
      rw[nT,not_or,Ep]at hi;rw[sE,af (fun e=>hi.2 e.symm),hmqv];exact hjo i hi.1
     clear hmqv hjv hjo hix' hld' hmq A14 A15 Rj R14 hgv hg;dsimp only[bO]at m15 m16;dsimp only[aC];repeat' (first
      |(apply aj ?_;clear hK K)|apply aV ?_|(apply am fun K hK=>?_)|(apply bD ?_;try intro _)|(apply ch ?_ ?_<;>clear hK K)|fail)
     .exact cn
     .refine⟨ac,a0,a0,ca,(by simp only[aG,Nat.reduceBEq, *];grind),?_⟩;exact⟨_,S15,lv15,hJ,hjv',hjo',R16,F016,A16⟩
    .have hlt':¬(i3:Int)<Z.length:=by omega
     have hd:Z.drop i3=[]:=mH ac;rw[hd]at hJ;have hJ:O=fD k.1 r.1 r.2.vars Z 1 {m.2 with ab:=m.1}:=hJ;refine xJ ?_;all_goals refine qq ?_
     rw[<-hJ];exact⟨Sj,lvj,cv,Rj,F1.trans Fj⟩
end
end
section
def tyQaJ.tyF:=ad @cr (ad @cK (ad @dV (ad @dR (ad @dD (ad @eh (ad @dQ (ad @jn (ad @fP (ad @fW (ad @gh (ad @eL (ad @et (@tX)))))))))))))
open tyQaJ
noncomputable def U5:{c:SC // aE 17 (f54.body.getD .skip)=c}:=by
 refine⟨?_,?_⟩;rotate_left
 .simp only[f54,bN,aE,bH,bw,bM,bJ,Nat.blt,Nat.ble];rfl
section
variable {tb:qC} (hG:zd8 tb) {X:Qx} {c:Cx} (hX:CxQ X c)
set_option maxRecDepth 100000 in
include hG hX in
theorem zhx(IH:∀m,m<n->Gv tb X c m){x:St}{r:Bd}(h:lU c n x s=some r)(O:Fin r)(hz:x.sz<2^36)(V:s.vars.length<2^36){lv vv:AV}(I:zd2 X H S s lv vv):
 aR prog (au pls tb) 90 [.ptr X.b 0,.agg x.cells] H (pC X S vv H r):=by
 cases n with
 |zero=>simp[lU]at h
 |succ n=>
 have hw:zd0 (au pls tb) 90:=hG.plain cM;have R1:=I.alloc (.cells x.cells 0 true);have F1:=(fy X S vv H).alloc (.cells x.cells 0 true);unfold lU at h;by_cases U:x.am=1
 .rw[ai U]at h;simp only[gG]at h;obtain⟨v,Z,h⟩:=h;split at h
  .rename_i hl;cases h;exact zho hG hX U Z hl ⟨O.r,O.l,O.n⟩ I
  .cases h
 rw[af U]at h;by_cases J:x.am=2
 .rw[ai J]at h;simp only[iD]at h;obtain⟨i,Z,v,j,a,ha,rfl⟩:=h;exact zhp hG hX J Z j ha ⟨O.r,O.l,O.n⟩ I
 rw[af J]at h;by_cases z:x.am=3
 .rw[ai z]at h;simp only[iD]at h;obtain⟨q,Z,a,j,b,C,m,h4,rfl⟩:=h;exact zhv hG hX z (IH n (bT n)) Z j C h4 ⟨O.r,O.l,O.n⟩ hz V I
 rw[af z]at h;by_cases k4:x.am=4
 .rw[ai k4]at h;cases n with
  |zero=>simp[nD]at h
  |succ n=>
  unfold nD at h;simp only[iD]at h;obtain⟨q,Z,b,hb,t,j,d,C,rfl⟩:=h;have Y:=zhw hG hX (IH n ac) Z hb j C rfl rfl O hz V R1;refine bp (M:=241) (rs:=[]) (hw.call _) hw.aG hw.aB func90 rfl rfl mQ.2 rfl ?_;dsimp only[mQ,bm,Nat.reduceAdd];repeat' (first
   |(apply aj ?_;clear hK K)|apply bQ ?_|(apply bu ?_ ?_<;>(intro hb hbp;try(cases hb;done)))|(apply am fun K hK=>?_)|fail)
  refine qc ?_;refine aF ?_ Y;intro w H2 j;have C:=j.db F1;clear j Y;dsimp only[aC];refine dJ ?_;all_goals refine qq ?_
  exact C
 rw[af k4]at h;by_cases k5:x.am=5
 .rw[ai k5]at h;simp only[iD]at h;obtain⟨v,Z,rfl⟩:=h;exact zhq hG hX k5 Z ⟨O.r,O.l,O.n⟩ I
 rw[af k5]at h;by_cases k6:x.am=6
 .rw[ai k6]at h;simp only[gG]at h;obtain⟨av,Z,h⟩:=h;split at h
  .rename_i hc;cases h;exact zhu hG hX k6 Z hc.2 hz ⟨O.r,O.l,O.n⟩ I
  .cases h
 rw[af k6]at h;by_cases k7:x.am=7
 .rw[ai k7]at h;cases h;exact zhr hG hX k7 O I
 rw[af k7]at h;cases h;exact zhs hG U J z k4 k5 k6 k7 I
set_option maxRecDepth 100000 in
include hG hX in
theorem U6:∀(N n:Nat),n<N->Gv tb X c n
 |0,n,hn=>by omega
 |N+1,n,hn=>fun l s r h hF hz hvl H S lv vv hR=>by
  have hw:zd0 (au pls tb) 54:=hG.plain cM;have hll:=mZ l;refine bp (M:=17) (rs:=[]) (hw.call _) hw.aG hw.aB func54 rfl rfl U5.2 rfl ?_;dsimp only[U5,bm,Nat.reduceAdd];refine jH ?_;refine cl [0,1] [] 4 l.length (fun i E I=>∃m V C Y Z,m<=n/\eY c m (l.drop i) V=some r/\V.vars.length=s.vars.length/\zd2 X I C V Y Z/\FrQ X S vv H C Z I) eE ⟨n,s,S,lv,vv,ay _,h,rfl,hR,fy _ _ _ _⟩ ?_;rintro i E I hi hcE hrH hnH hsI ⟨m,V,C,Y,Z,hm,U,O,Ri,Fi⟩;(try simp only[bC,aZ,aW,aG,aY,Nat.reduceBEq, *]at hcE);(try simp only[aZ, *]at hrH);(try simp only[aU,bq,ce,bR,Nat.reduceAdd]at hnH);by_cases J:i<l.length
  .have z:(i:Int)<l.length:=by omega
   have hgx:l[i]?=some l[i]:=bj J;have hmem:=my (dm J);cases m with
   |zero=>simp[eY]at U
   |succ m=>
   rw[gI J]at U;unfold eY at U;simp only[gG]at U;obtain⟨q,h1,h2⟩:=U;generalize l[i]=x at *;have hFq:Fin q:=hF.le ((jD c m).2.1 _ _ _ h2).1;have hql:=((jD c m).1 _ _ _ h1).2;repeat' (first
    |(apply aj ?_;clear hK K)|apply bQ ?_|(apply bu ?_ ?_<;>(intro hb hbp;try(cases hb;done)))|(apply am fun K hK=>?_)|fail)
   refine qc ?_;refine aF ?_ (zhx hG hX (fun k hk=>U6 N k ac) h1 hFq ac ac Ri);rintro w H3 ⟨S3,lv3,vv3,R3,F3⟩;have F03:=Fi.trans F3;have n3:I.next<=H3.next:=F3.next
   have j:q.vars.length=s.vars.length:=ac;clear hql O;dsimp only[aC];refine jH ?_;refine⟨ac,a0,a0,ca,yl,?_⟩;exact⟨m,q,S3,lv3,vv3,ac,h2,j,R3,F03⟩
  .have z:¬(i:Int)<l.length:=by omega
   have hd:l.drop i=[]:=mH ac;rw[hd]at U;cases m with
   |zero=>simp[eY]at U
   |succ m=>
   have U:V=r:=by unfold eY at U;simpa using U
   subst U;clear O;refine xJ ?_;all_goals refine qq ?_
   exact⟨C,Y,Z,Ri,Fi⟩
end
end
abbrev Qx.nx(X:Qx)(nv:AV)(ns:List bG):Qx:={X with nv:=nv,ns:=ns}
structure FrM (b:Nat) (bt:Hp) (S:Nat->Prop) (vv nv:AV) (H:Hp):Prop where
 next:bt.next<=H.next
 get:∀k,k<bt.next->k≠b->H.get k=bt.get k
 sub:∀k,S k->bt.next<=k
 own:∀k,aN vv k->bt.next<=k
 fD:∀k,aN nv k->bt.next<=k
def FrM.fr{bt:Hp}{vv:AV}(h:FrM X.b bt S vv X.nv H)(f:FrQ X S vv H S' Z H'):FrM X.b bt S' Z X.nv H' where
 next:=dw h.next f.next
 get k h1 h2:=by
  rw[f.get k (lh h1 h.next) h2 (fun e=>by have:=h.sub k e;omega) (fun e=>by have:=h.own k e;omega)];exact h.get k h1 h2
 sub k e:=by
  rcases f.sub k e with e|e
  .exact h.sub k e
  .exact dw h.next e
 own k e:=by
  rcases f.own k e with e|e
  .exact h.own k e
  .exact dw h.next e
 fD:=h.fD
def xE:=@FrM.fr
def zd2.eG{vv:AV}(h:zd2 X H S s M vv)(nm:bG)(hl:X.ns.length<2^36):
 ∃j H',cD prog false (H.alloc (.cells [.aj nm] 0 true)) 59 59 X.nv (.sl H.next 0 1 1)=some (j,H')/\AV.one j=true/\j.cells=[j]/\H'.get X.b=some (.cells (bO X s M vv) 0 true)/\H.next+1<=H'.next/\(∀k,k<H.next->¬aN X.nv k->H'.get k=H.get k)/\H'.get H.next=some (.cells [.aj nm] 0 true) /\
  zd2 (X.nx j (X.ns++[nm])) (H'.set X.b (.cells (bO (X.nx j (X.ns++[nm])) s M vv) 0 true)) S s M vv/\(∀k,aN j k->aN X.nv k\/H.next<=k):=by
 have o5:=h.o5;have hb:∀k,k<H.next->(H.alloc (.cells [.aj nm] 0 true)).get k=H.get k:=fun k z=>em
 have hv:ej (H.alloc (.cells [.aj nm] 0 true)) X.nv X.ns 0:=h.nm.keep (cG _) fun k z=>hb k (h.nS k z).2.1;obtain⟨j,H',a1,Y,a3,a4,J⟩:=w1 (r:=H.next) (imm:=0) nm hv (cZ _) fc ac;simp only[aU]at a3;have Z:∀k,k<H.next->¬aN X.nv k->H'.get k=H.get k:=fun k h1 h2=>by rw[J.1 k cB h2,hb k h1]
 have V:∀k,aN j k->aN X.nv k\/H.next<=k:=fun k z=>by
  rcases J.2 k z with e|e
  .exact .inl e
  .exact .inr (by simp only[aU]at e;omega)
 have C:¬aN X.nv X.b:=fun e=>by have:=(h.nS _ e).1;omega
 have I:H'.get H.next=some (.cells [.aj nm] 0 true):=by rw[J.1 _ bb fun e=>by have:=(h.nS _ e).2.1;omega,aD,ai rfl]
 have hg:∀k,k≠X.b->(H'.set X.b (.cells (bO (X.nx j (X.ns++[nm])) s M vv) 0 true)).get k=H'.get k:=fun k z=>ju;obtain⟨U,O⟩:=Y.one;have m:∀k,aN j k->k<H'.next:=fun k z=>(Y.lt z).2
 have hn:H.next+1<=H'.next:=ac
 refine⟨j,H',a1,U,O,by rw[Z _ o5 C];exact h.m,hn,Z,I,⟨fO,?_,h.aL.keep (fun _ _ h=>h) eC fun k z h6=>by rw[hg k Fc,Z k h6 fun e=>(h.nS k e).2.2.1 z],h.vars.keep eC fun k z=>by rw[hg k (by have:=(h.vS k z).1;omega),Z k (h.vS k z).2 fun e=>(h.nS k e).2.2.2 z],eC,fun k z=>?_,fun k z=>?_,fun k z=>?_⟩,V⟩
 .have a2':ej H' j (X.ns++[nm]) 0:=.inr Y;refine a2'.keep (ay _) fun k z=>hg k fun e=>?_
  grind
 .have h1:=m k z;rcases V k z with q|q
  .have:=h.nS k q;simp_all
  .have:=h.new q;simp_all
 .have:=h.sS k z;exact⟨this.1,eC,this.2.2⟩
 .have:=h.vS k z;exact⟨this.1,eC⟩
def zd2.dT{vv:AV}(h:zd2 X H S s M vv)(x:Int)(hl:s.vars.length<2^36):
 ∃j H',cD prog false (H.alloc (.cells [.int .i64 x] 0 true)) 23 23 vv (.sl H.next 0 1 1)=some (j,H')/\AV.one j=true/\j.cells=[j]/\H'.get X.b=some (.cells (bO X s M vv) 0 true)/\H'.next=H.next+2/\(∀k,k<H.next->¬aN vv k->H'.get k=H.get k) /\
  zd2 X (H'.set X.b (.cells (bO X {s with vars:=s.vars++[x] } M j) 0 true)) S {s with vars:=s.vars++[x] } M j /\
  FrQ X S vv H S j (H'.set X.b (.cells (bO X {s with vars:=s.vars++[x] } M j) 0 true)):=by
 have o5:=h.o5;have hv:gK (H.alloc (.cells [.int .i64 x] 0 true)) vv s.vars 0:=h.vars.keep (cG _) fun k z=>QQ;have hx:fk (H.alloc (.cells [.int .i64 x] 0 true)) 1 (.sl H.next 0 1 1)=some ([x].length,[x].map (.int .i64)):=sU (m:=[x]) (imm:=0) dZ;obtain⟨j,H',a1,O,a3,a4,a5,Y⟩:=D5 hv (cZ _) hx aw cb;simp only[aU]at a3 a5 Y;have Z:∀k,k<H.next->¬aN vv k->H'.get k=H.get k:=fun k h1 V=>by rw[a5 k ac V,aD,af ac]
 have I:¬aN vv X.b:=fun e=>by have:=(h.vS _ e).1;omega
 have U:=gK.one (.inr O);have hg:∀k,k≠X.b->(H'.set X.b (.cells (bO X {s with vars:=s.vars++[x] } M j) 0 true)).get k=H'.get k:=fun k z=>ju;refine⟨j,H',a1,U.1,U.2,by rw[Z _ o5 I];exact h.m,ac,Z,⟨fO,h.nm.keep eC fun k z=>by rw[hg k (by have:=(h.nS k z).1;omega),Z k (h.nS k z).2.1 (h.nS k z).2.2.2],h.aL.keep (fun _ _ h=>h) eC fun k z h6=>by rw[hg k Fc,Z k h6 (h.sS k z).2.2],?_,eC,fun k z=>⟨(h.nS k z).1,by have:=(h.nS k z).2.1;simp only[bq];omega,(h.nS k z).2.2.1,fun e=>?_⟩,fun k z=>⟨(h.sS k z).1,by have:=(h.sS k z).2.1;simp only[bq];omega,fun e=>?_⟩,fun k z=>?_⟩,⟨eC,fun k h1 V _ h5=>by rw[hg k V,Z k h1 h5],fun _ h=>.inl h,fun k z=>?_⟩⟩
 .have C:gK H' j (s.vars++[x]) 0:=.inr O;exact C.keep (ay _) fun k z=>hg k fun e=>by
   rcases Y k z with q|q
   .have:=(h.vS k q).1;omega
   .omega
 .rcases Y k e with q|q
  .exact(h.nS k z).2.2.2 q
  .have:=(h.nS k z).2.1;omega
 .rcases Y k e with q|q
  .exact(h.sS k z).2.2 q
  .have:=(h.sS k z).2.1;omega
 .have J:k<H'.next:=(gK.lt (.inr O) z).2
  rcases Y k z with q|q
  .exact⟨(h.vS k q).1,J⟩
  .exact⟨ac,J⟩
 grind
def zhy(H:Hp)(l:List Ar)(U:l.length<2^36):∃Y H',cD prog false (H.alloc qf) 24 24 (.sl H.next 0 0 2) (.az (l.map Ar.cells))=some (Y,H')/\cU (fun k=>H.next<=k) 1 H' 2 Y (l.map Ar.cells)/\H.next+1<=H'.next/\(∀k,k<H.next->H'.get k=H.get k):=by
 have C:∀x∈l.map Ar.cells,x.length=2:=fun x hx=>Sd;have hx:=JH (H:=H.alloc qf) C;rw[dx]at hx;have hb:∀k,k<H.next->(H.alloc qf).get k=H.get k:=fun k z=>em
 have hg:(H.alloc qf).get H.next=some qf:=fc
 by_cases c:l=[]
 .subst c;refine⟨.sl H.next 0 0 2,_,?_,.inr ⟨H.next,0,[],rfl,ay _,bT _,hg,ay _,trivial⟩,ay _,hb⟩;simp only[cD,underlying24,wR,yd,ye,show gN prog 24=true by kernel_rfl,fq,hx]
 .obtain⟨m,V⟩:∃m,l.length=m+1:=⟨l.length-1,by have:=vo.2 c;omega⟩;rw[V]at hx;have O:gY false (H.alloc qf) 2 (.sl H.next 0 0 2)=H.alloc qf:=by
   unfold gY;simp[hg];rfl
  refine⟨.sl (H.next+1) 0 (m+1) 2,((H.alloc qf).a0 H.next).alloc (.cells (l.map Ar.cells).flatten 0 true),?_,.inr ⟨H.next+1,0,l.map Ar.cells,bb,cG _,bT _,?_,cZ _,di.fy l⟩,cG _,fun k z=>?_⟩
  .have Z:=JI l;simp only[cD,underlying24,wR,yd,ye,show gN prog 24=true by kernel_rfl,hx,Z,O,nV,ft,l8,nL,hg,bR,hY,yO];rw[ai ⟨yS,yS,by trivial,by trivial,ac⟩];simp
  .show((Hp.a0 _ H.next).alloc _).get (H.next+1)=_;rw[aD,ai cM]
  .rw[aD,af (by simp only[tI,aU];omega),iy,af ac,hb k z]
end Go.Proofs.YtpbcimfiofmoeaaGreat
