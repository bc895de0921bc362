/- Lemmas for the last file. -/
import Derived.Deep.Slices
import Derived.Test.YtpbcimfiofmoeaaGreatRows
import Derived.Test.YtpbcimfiofmoeaaGreatWEW
import Derived.WideKeyArgs
import Derived.WideShapes
set_option linter.all false
set_option maxHeartbeats 32000000
namespace Go.Ab
set_option maxRecDepth 20000
open Go
variable{qe:Prop}
def KS(h:qe:=by simp only[List.map_cons,List.sum_cons];omega):=h
def KT:=@Classical.axiomOfChoice
def wc:=@List.sum_cons
def B5:=@List.flatten_nil
def B6:=@List.sum_nil
end Go.Ab
namespace Go.Proofs.YtpbcimfiofmoeaaGreat
set_option maxRecDepth 20000
open Go Go.Ab Proofs.Tryz
variable(ρ:Nat->Int)
variable{tb:qC}{n:Nat}{u:Un}{e:Int}
section
def tyQaL.tyF:=ad @dQ (ad @cr (ad @cK (ad @jn (ad @fP (ad @fW (ad @DB (ad @DC (ad @DE (ad @gh (ad @eL (ad @vd (ad @et (ad @dV (ad @dR (ad @dD (ad @jb (ad @sN (ad @jx (ad @eh (ad @tX (ad @FQ (@vL))))))))))))))))))))))
open tyQaL
noncomputable def Gw:{c:SC // aE 144 (f28.body.getD .skip)=c}:=by
 refine⟨?_,?_⟩;rotate_left
 .simp only[f28,bN,aE,bH,bw,bM,bJ,Nat.blt,Nat.ble];rfl
theorem zhz{p:Pr}(Y:p.sz<2^34){f:Fu}(Z:f∈p.funcs)(b:Nat)(nv:AV):CxQ (Qx.mk p b nv (f.params++f.ak)) (kE p f) where
 ar:=rfl
 ns:=rfl
 fs:=rfl
 l1:=by
  have m:=m1 p.aa;have j:p.sz=1+eA p.aa+dO p.funcs:=rfl;show p.aa.length<2^40;omega
 l2:=by
  have m:=oc Z;have j:p.sz=1+eA p.aa+dO p.funcs:=rfl;have U:f.sz=1+f.name.length+cP f.params+cP f.ak+bi f.body+f.value.sz:=rfl;have C:=iU f.params;have I:=iU f.ak;show(f.params++f.ak).length<2^40
  grind
 l3:=by
  have m:=m0 p.funcs;have j:p.sz=1+eA p.aa+dO p.funcs:=rfl;show p.funcs.length<2^40;omega
def zhA(p:Pr):dd prog 105 [(0,.agg p.cells)]=some (.agg [.az (p.aa.map Ar.cells),.az (p.funcs.map Fu.cells),.ag,.ag,.ag,.int .i64 0,.int .i64 0]):=ax
noncomputable def KU:En:=⟨32,true,co (fun p=>p.sz<2^36) eV fun p=>.int .i64 (eN p)⟩
def zhB:dI prog ρ KU:=dT fun p hp=>zcl ρ p hp
structure Smw (n:Nat) (H H':Hp):Prop where
 get:∀k,2<=k->k<n->H'.get k=H.get k
set_option maxRecDepth 100000 in
theorem zhC(hG:zd8 tb)(hC:∀ar,dE tb 32 ar=KU.sp ar)(hL:zd0 (au pls tb) 28)(p:Pr)(hz:p.sz<2^34)(hok:eN p=0->BH p n)(h:pn p n=some (u,e)):
 aR prog (au pls tb) 28 [.agg p.cells] bt (fun v H'=>yV H' u e v):=by
 have hw:=hL;have hkeep:(au pls tb).keep 28=false:=rfl;have hchk:∀H,aR prog (au pls tb) 32 [.agg p.cells] H fun v H'=>v=.int .i64 (eN p)/\H'=H:=fun H=>cV (enc:=eV) (ok:=fun p=>p.sz<2^36) (out:=fun p=>.int .i64 (eN p)) pd (x:=p) (hC _) ac;have hpz:p.sz=1+eA p.aa+dO p.funcs:=rfl;have hla:=m1 p.aa;have hlf:=m0 p.funcs;have bUn0:dd prog 27 []=some (.agg [.ag,.ag]):=ax;unfold pn at h;by_cases hc:eN p=0
 .rw[ai hc]at h;have hok:=hok hc;obtain⟨av,O,aa,ra,na,qa⟩:=zhy ((bt.alloc (.cells p.cells 0 true)).alloc qh) p.aa ac;obtain⟨ha1,ha2⟩:=ra.one;have bUn:dd prog 27 [(0,av)]=some (.agg [av,.ag]):=by
   rcases ra with⟨rfl,_⟩|⟨q,im,rows,rfl,_⟩<;>kernel_rfl
  have na3:3<=O.next:=na
  have q0:O.get 0=some (.cells p.cells 0 true):=by rw[qa 0 bb];simp[aD,aU,ce]
  have q1:O.get 1=some qh:=by rw[qa 1 bb];simp[aD,aU,ce]
  have ra':cU (fun k=>2<=k/\k<O.next) 1 O 2 av (p.aa.map Ar.cells):=ra.keep (fun k h1 h2=>⟨h2,h1⟩) (ay _) fun _ _ _=>rfl;have bA0:de prog ((bt.alloc (.cells p.cells 0 true)).alloc qh) 24 0 []=some (.sl 2 0 0 2,((bt.alloc (.cells p.cells 0 true)).alloc qh).alloc qf):=ax;refine bp (M:=144) (rs:=[.cell 2 27,.tmp 3]) (hw.call _) hw.aG hw.aB func28 rfl rfl Gw.2 rfl ?_;dsimp only[Gw,bm,Nat.reduceAdd];have aa':cD prog false (((bt.alloc (.cells p.cells 0 true)).alloc qh).alloc qf) 24 24 (.sl 2 0 0 2) (.az (p.aa.map Ar.cells))=some (av,O):=aa;repeat' (first
   |(apply aj ?_;clear hK K)|apply bQ ?_|(apply iz ?_;first|refine bK (hchk _) ?_)|(apply bu ?_ ?_<;>(intro hb hbp;try(cases hb;done)))|(apply am fun K hK=>?_)|fail)
  clear aa aa' qa ra na bA0;have gs:∀k,k<O.next->((O.alloc qh).set O.next (.cells [av,.ag] 0 true)).get k=O.get k:=fun k z=>oB
  have hfl:lV p n (p.funcs.drop 0) []=some (u,e):=h;refine cl [1,2,5] [] 6 p.funcs.length (fun i E Y=>∃gs fv,lV p n (p.funcs.drop i) gs=some (u,e)/\Y.get 0=some (.cells p.cells 0 true)/\Y.get 1=some qh/\Y.get O.next=some (.cells [av,fv] 0 true)/\cU (fun k=>O.next<k) 3 Y 5 fv (gs.map Gr.cells)/\Smw O.next O Y/\gs.length=i) eE ⟨[],.ag,hfl,aX,aX,fO,.inl ⟨rfl,rfl⟩,⟨fun k _ z=>gs k z⟩,rfl⟩ ?_;clear gs hfl h q0 q1;rintro i5 E5 Y hk5 hcE hrH hnH hsI ⟨gs,fv,hJ,g0,g1,g7,rf,hsm,hgl⟩;(try simp only[bC,aZ,aW,aG,aY,Nat.reduceBEq, *]at hcE);(try simp only[aZ,aY, *]at hrH);(try simp only[aU,bq,]at hnH);have nk:O.next+1<=Y.next:=ac
  obtain⟨hf1,hf2⟩:=rf.one;by_cases hlt:i5<p.funcs.length
  .have hlt':(i5:Int)<p.funcs.length:=by omega
   have hgx:p.funcs[i5]?=some p.funcs[i5]:=bj hlt;have hmem:=dm hlt;have hfsz:=oc hmem;have hcx:=fun b nv=>zhz hz hmem b nv;rw[gI hlt]at hJ;unfold lV at hJ;obtain⟨s,v,e1,e2,hF⟩:=hok _ hmem;generalize p.funcs[i5]=f at *;have hfn:pm p n f=some ⟨f.name,f.params.length,v.2.l,v.1,v.2.ab⟩:=by unfold pm;simp_all
   rw[hfn]at hJ;simp only[cN]at hJ;have hsz:f.sz=1+f.name.length+cP f.params+cP f.ak+bi f.body+f.value.sz:=rfl;have hpl:=iU f.params;have hll:=iU f.ak;have hFs:Fin s:=hF.le (dr _ n _ _ _ e2).le;have hFst:Fin (jg f):=hFs.le ((jD _ n).2.1 _ _ _ e1).1;have hst:jg f=jq f.ak.length (gC f.params.length 0 { (ah ⟨26,0,[]⟩ ⟨[],[],0,0⟩).2 with ab:=(ah ⟨26,0,[]⟩ ⟨[],[],0,0⟩).1}):=rfl;generalize hs0:({ (ah ⟨26,0,[]⟩ ⟨[],[],0,0⟩).2 with ab:=(ah ⟨26,0,[]⟩ ⟨[],[],0,0⟩).1}:Bd)=s0 at *;have hv0:s0.vars.length=0:=by rw[<-hs0];rfl
   have hF1:Fin (gC f.params.length 0 s0):=by rw[hst]at hFst;exact hFst.le (xq _ _).1
   have hv1:(gC f.params.length 0 s0).vars.length=f.params.length:=by rw[(xp _ _ _).2,hv0];omega
   have hF0:Fin s0:=hF1.le (xp _ _ _).1;have hFe:Fin (ah ⟨26,0,[]⟩ ⟨[],[],0,0⟩).2:=by rw[<-hs0]at hF0;exact⟨hF0.r,hF0.l,hF0.n⟩
   have hvst:(jg f).vars.length<2^36:=by rw[hst,(xq _ _).2,hv1];omega
   have nB:=zhA p;have g0m:∀b0 c0,((Y.alloc b0).set Y.next c0).get 0=some (.cells p.cells 0 true):=fun b0 c0=>Sn;repeat' (first
    |(apply aj ?_;clear hK K)|apply bQ ?_|(apply bu ?_ ?_<;>(intro hb hbp;try(cases hb;done)))|(apply am fun K hK=>?_)|fail)
   refine qc ?_;generalize hHb:Hp.alloc (Hp.set (Y.alloc _) _ (.cells f.cells 0 true)) _=J;have nb:J.next=Y.next+2:=by rw[<-hHb];rfl
   have old:∀k,k<Y.next->J.get k=Y.get k:=fun k z=>by rw[<-hHb,aD,af mG,aM,af ac,aD,af ac]
   have gfb:J.get Y.next=some (.cells f.cells 0 true):=by rw[<-hHb,aD,af mG,aM,ai rfl]
   have gbb:J.get (Y.next+1)=some (.cells [.az (p.aa.map Ar.cells),.az (p.funcs.map Fu.cells),.ag,.ag,.ag,.int .i64 0,.int .i64 0] 0 true):=by rw[<-hHb,aD,ai cM]
   clear hHb g0m nB;have R1:zd2 (Qx.mk p (Y.next+1) .ag []) J (fun _=>False) ⟨[],[],0,0⟩ .ag .ag:=
    ⟨gbb,.inl ⟨rfl,rfl⟩,.inl ⟨rfl,rfl⟩,.inl ⟨rfl,rfl⟩,aX,fun _ h=>(rk h).elim,fun _ h=>h.elim,fun _ h=>(rk h).elim⟩
   have N1:FrM (Y.next+1) J (fun _=>False) .ag .ag J:=⟨ay _,fun _ _ _=>rfl,fun _ h=>h.elim,fun _ h=>(rk h).elim,fun _ h=>(rk h).elim⟩;have gA:∀{S:Nat->Prop}{vv nv:AV}{H':Hp},FrM (Y.next+1) J S vv nv H'->H'.get Y.next=some (.cells f.cells 0 true):=fun h=>by
    rw[h.get _ ac ac];exact gfb
   refine aF ?_ (tw hG R1 26 0 hFe);rintro w H2 ⟨rfl,S2,lv2,R2,F2⟩;have m2:=R2.m;obtain⟨R3,F3⟩:=R2.setS (ah ⟨26,0,[]⟩ ⟨[],[],0,0⟩).1;have N3:FrM (Y.next+1) J S2 .ag .ag _:=xE (X:=Qx.mk p (Y.next+1) .ag []) N1 (F2.trans F3);have n2:J.next<=H2.next:=F2.next
   clear R1 R2 F2 F3 N1 gbb;have g3:=gA N3;dsimp only[bO]at m2 R3 N3 g3;dsimp only[aC];refine dJ ?_;refine cl [1,2,5,6,7,8] [] 9 f.params.length (fun i E Hi=>∃si Si lvi vvi nvi,gC (f.params.length-i) i si=gC f.params.length 0 s0/\si.vars.length=i/\zd2 (Qx.mk p (Y.next+1) nvi (f.params.take i)) Hi Si si lvi vvi/\FrM (Y.next+1) J Si vvi nvi Hi) eE ⟨s0,S2,lv2,.ag,.ag,rfl,hv0,bb,N3⟩ ?_;clear R3 N3 m2 g3;rintro i E Hi hi hcE hrH hnH hsI ⟨si,Si,lvi,vvi,nvi,V,hvi,Ri,Ni⟩;(try simp only[bC,aZ,aW,aG,aY,Nat.reduceBEq, *]at hcE);(try simp only[aZ,aY, *]at hrH);(try simp only[bq,]at hnH);have ni:J.next<=Hi.next:=Ni.next
   have gi:=gA Ni;by_cases hlt2:i<f.params.length
   .have hlt2':(i:Int)<f.params.length:=by omega
    have hgx2:f.params[i]?=some f.params[i]:=bj hlt2;obtain⟨k,z⟩:∃k,f.params.length-i=k+1:=⟨f.params.length-i-1,ac⟩;have hk2:f.params.length-(i+1)=k:=ac;have hne:f.params.take (i+1)=f.params.take i++[f.params[i]]:=bb;have htl:(f.params.take i).length<2^36:=aX;rw[z]at V;rw[hk2,hne];have V:gC k (i+1) { (ah ⟨2,i,[]⟩ si).2 with vars:=(ah ⟨2,i,[]⟩ si).2.vars++[(ah ⟨2,i,[]⟩ si).1] }=gC f.params.length 0 s0:=V;have hFx:Fin (ah ⟨2,i,[]⟩ si).2:=hF1.le (by rw[<-V];exact((ri _).setV _).trans (xp _ _ _).1);generalize f.params[i]=nm at *;obtain⟨v4,H4,a4,ho1,ho2,m4,n4,q4,gn4,R5,own4⟩:=Ri.eG nm htl;have mi:=Ri.m;have mia:=(Ri.alloc (.cells [.aj nm] 0 true)).m;have m5:=R5.m;have gia:(Hi.alloc (.cells [.aj nm] 0 true)).get Y.next=some (.cells f.cells 0 true):=by rw[aD,af ac];exact gi
    have g4:H4.get Y.next=some (.cells f.cells 0 true):=by
     rw[q4 _ ac fun e=>by have:=Ni.fD _ e;omega];exact gi
    have N5:FrM (Y.next+1) J Si vvi v4 (H4.set (Y.next+1) (.cells (bO (Qx.nx (Qx.mk p (Y.next+1) nvi (f.params.take i)) v4 (f.params.take i++[nm])) si lvi vvi) 0 true)):=⟨eC,fun k h1 h2=>by
     rw[aM,af h2,q4 k ac fun e=>by have:=Ni.fD _ e;omega];exact Ni.get k h1 h2,Ni.sub,Ni.own,fun k z=>by
     rcases own4 k z with e|e
     .exact Ni.fD k e
     .omega⟩
    have g5:=gA N5;dsimp only[bO,Qx.nx]at mi mia m4 m5 R5 N5 g5 a4;clear Ri Ni own4 q4;repeat' (first
     |(apply aj ?_;clear hK K)|apply bQ ?_|(apply bu ?_ ?_<;>(intro hb hbp;try(cases hb;done)))|(apply am fun K hK=>?_)|(apply ci 14 [(4,11),(6,11),(9,11),(10,11)] fun K hK=>?_)|(apply ci 15 [(4,7),(4,9),(8,9)] fun K hK=>?_)|(apply bD ?_;try intro _)|(apply ch ?_ ?_<;>clear hK K)|fail)
    .exact cn
    .refine qd ?_;refine aF ?_ (tw (X:=Qx.mk p (Y.next+1) v4 (f.params.take i++[nm])) hG R5 2 i hFx);generalize hpu:ah ⟨2,i,[]⟩ si=pu at *;have hpv:pu.2.vars.length=i:=by rw[<-hpu];exact hvi
     rintro w H6 ⟨rfl,S6,lv6,R6,F6⟩;have m6:=R6.m;have n6:=F6.next
     obtain⟨v7,I,a7,hv71,hv72,m7,n7,q7,R7,F7⟩:=R6.dT pu.1 ac;have N6:FrM (Y.next+1) J S6 vvi v4 H6:=xE (X:=Qx.mk p (Y.next+1) v4 (f.params.take i++[nm])) N5 F6;have N7:FrM (Y.next+1) J S6 v7 v4 _:=xE (X:=Qx.mk p (Y.next+1) v4 (f.params.take i++[nm])) N6 F7;have m6a:=(R6.alloc (.cells [.int .i64 pu.1] 0 true)).m;simp only[bq]at n6;have n67:Hi.next<=I.next:=ac
     have hlen7:(pu.2.vars++[pu.1]).length=i+1:=by rw[iR,hpv];rfl
     clear hpv hvi R6 F6 F7 hpu N6;dsimp only[bO]at m6 m7 m6a R7 N7;dsimp only[aC];repeat' (first
      |(apply aj ?_;clear hK K)|apply aV ?_|(apply am fun K hK=>?_)|(apply bD ?_;try intro _)|(apply ch ?_ ?_<;>clear hK K)|fail)
     .exact cn
     .refine⟨ac,a0,a0,ca,QW,?_⟩
      grind
   .have hlt2':¬(i:Int)<f.params.length:=by omega
    have z:f.params.length-i=0:=ac;have hti:f.params.take i=f.params:=gQ ac;rw[z]at V;rw[hti]at Ri;have V:si=gC f.params.length 0 s0:=V;rw[V]at Ri;rw[<-V]at hst;rw[V]at hst;clear z hti V hvi;refine pE (fun hb hbp=>?_);generalize hs1:gC f.params.length 0 s0=s1 at *;refine cl [1,2,5,6,7,8] [] 10 f.ak.length (fun j E Hj=>∃sj Sj lvj vvj Z,jq (f.ak.length-j) sj=jq f.ak.length s1/\sj.vars.length=f.params.length+j/\zd2 (Qx.mk p (Y.next+1) Z (f.params++f.ak.take j)) Hj Sj sj lvj vvj/\FrM (Y.next+1) J Sj vvj Z Hj) eE ⟨s1,Si,lvi,vvi,nvi,rfl,hv1,bb,Ni⟩ ?_;clear Ri Ni gi;rintro j E3 Hj hj hcE hrH hnH hsI ⟨sj,Sj,lvj,vvj,Z,V,hvj,Rj,Nj⟩;(try simp only[bC,aZ,aW,aG,Nat.reduceBEq, *]at hcE);(try simp only[aZ, *]at hrH);(try simp only[aU,bq,ce,bR,Nat.reduceAdd]at hnH);have nj:J.next<=Hj.next:=Nj.next
    have gj:=gA Nj;by_cases hlt3:j<f.ak.length
    .have hlt3':(j:Int)<f.ak.length:=by omega
     have hgx2:f.ak[j]?=some f.ak[j]:=bj hlt3;obtain⟨k,z⟩:∃k,f.ak.length-j=k+1:=⟨f.ak.length-j-1,ac⟩;have hk2:f.ak.length-(j+1)=k:=ac;have hne:f.params++f.ak.take (j+1)=(f.params++f.ak.take j)++[f.ak[j]]:=bb;have htl:(f.params++f.ak.take j).length<2^36:=aX;rw[z]at V;rw[hk2,hne];have V:jq k { (ah ⟨1,0,[]⟩ sj).2 with vars:=(ah ⟨1,0,[]⟩ sj).2.vars++[(ah ⟨1,0,[]⟩ sj).1] }=jq f.ak.length s1:=V;have hFx:Fin (ah ⟨1,0,[]⟩ sj).2:=hFst.le (by rw[hst,<-V];exact((ri _).setV _).trans (xq _ _).1);generalize f.ak[j]=nm at *;generalize hNs:f.params++f.ak.take j=Ns at *;obtain⟨v4,H4,a4,ho1,ho2,m4,n4,q4,gn4,R5,own4⟩:=Rj.eG nm htl;have mi:=Rj.m;have mia:=(Rj.alloc (.cells [.aj nm] 0 true)).m;have m5:=R5.m;have gia:(Hj.alloc (.cells [.aj nm] 0 true)).get Y.next=some (.cells f.cells 0 true):=by rw[aD,af ac];exact gj
     have g4:H4.get Y.next=some (.cells f.cells 0 true):=by
      rw[q4 _ ac fun e=>by have:=Nj.fD _ e;omega];exact gj
     have N5:FrM (Y.next+1) J Sj vvj v4 (H4.set (Y.next+1) (.cells (bO (Qx.nx (Qx.mk p (Y.next+1) Z Ns) v4 (Ns++[nm])) sj lvj vvj) 0 true)):=⟨eC,fun k h1 h2=>by
      rw[aM,af h2,q4 k ac fun e=>by have:=Nj.fD _ e;omega];exact Nj.get k h1 h2,Nj.sub,Nj.own,fun k z=>by
      rcases own4 k z with e|e
      .exact Nj.fD k e
      .omega⟩
     have g5:=gA N5;dsimp only[bO,Qx.nx]at mi mia m4 m5 R5 N5 g5 a4;clear Rj Nj own4 q4 hNs hne;repeat' (first
      |(apply aj ?_;clear hK K)|apply bQ ?_|(apply bu ?_ ?_<;>(intro hb hbp;try(cases hb;done)))|(apply am fun K hK=>?_)|(apply ci 19 [(4,11),(6,11),(9,11),(10,11)] fun K hK=>?_)|(apply ci 20 [(4,6),(4,8),(7,8)] fun K hK=>?_)|(apply bD ?_;try intro _)|(apply ch ?_ ?_<;>clear hK K)|fail)
     .exact cn
     .refine qd ?_;refine aF ?_ (tw (X:=Qx.mk p (Y.next+1) v4 (Ns++[nm])) hG R5 1 0 hFx);generalize hpu:ah ⟨1,0,[]⟩ sj=pu at *;have hpv:pu.2.vars.length=f.params.length+j:=by rw[<-hpu];exact hvj
      rintro w H6 ⟨rfl,S6,lv6,R6,F6⟩;have m6:=R6.m;have n6:=F6.next
      obtain⟨v7,I,a7,hv71,hv72,m7,n7,q7,R7,F7⟩:=R6.dT pu.1 ac;have N6:FrM (Y.next+1) J S6 vvj v4 H6:=xE (X:=Qx.mk p (Y.next+1) v4 (Ns++[nm])) N5 F6;have N7:FrM (Y.next+1) J S6 v7 v4 _:=xE (X:=Qx.mk p (Y.next+1) v4 (Ns++[nm])) N6 F7;have m6a:=(R6.alloc (.cells [.int .i64 pu.1] 0 true)).m;simp only[bq]at n6;have n67:Hj.next<=I.next:=ac
      have hlen7:(pu.2.vars++[pu.1]).length=f.params.length+(j+1):=by rw[iR,hpv];rfl
      clear hpv hvj R6 F6 F7 hpu N6;dsimp only[bO]at m6 m7 m6a R7 N7;dsimp only[aC];repeat' (first
       |(apply aj ?_;clear hK K)|apply aV ?_|(apply am fun K hK=>?_)|(apply bD ?_;try intro _)|(apply ch ?_ ?_<;>clear hK K)|fail)
      .exact cn
      .refine⟨ac,a0,a0,ca,QX,?_⟩
       grind
    .have hlt3':¬(j:Int)<f.ak.length:=by omega
     have z:f.ak.length-j=0:=ac;have htj:f.ak.take j=f.ak:=gQ ac;rw[z]at V;rw[htj]at Rj;have V:sj=jq f.ak.length s1:=V;rw[V,<-hst]at Rj;clear z htj V hvj;have hX:=hcx (Y.next+1) Z;repeat' (first
      |(apply aj ?_;clear hK K)|apply bQ ?_|(apply bu ?_ ?_<;>(intro hb hbp;try(cases hb;done)))|(apply am fun K hK=>?_)|fail)
     refine qc ?_;refine aF ?_ (U6 (X:=Qx.mk p (Y.next+1) Z (f.params++f.ak)) hG hX (n+1) n (bT n) f.body (jg f) s e1 hFs ac hvst Rj);rintro w H6 ⟨S6,lv6,vv6,R6,F6⟩;have N6:FrM (Y.next+1) J S6 vv6 Z H6:=xE (X:=Qx.mk p (Y.next+1) Z (f.params++f.ak)) Nj F6;have g6:=gA N6;clear Rj Nj F6 gj;dsimp only[aC];refine cY fun K hK=>?_;refine qc ?_;refine aF ?_ (tx (X:=Qx.mk p (Y.next+1) Z (f.params++f.ak)) hG hX n f.value s v e2 hF R6);rintro w I ⟨rfl,S7,U,R7,F7⟩;have N7:FrM (Y.next+1) J S7 vv6 Z I:=xE (X:=Qx.mk p (Y.next+1) Z (f.params++f.ak)) N6 F7;have gg7:=gA N7;have m7:=R7.m;have nd7:=R7.aL;obtain⟨hl1,hl2⟩:=nd7.one;have n7:J.next<=I.next:=N7.next
     have old7:∀k,k<Y.next->I.get k=Y.get k:=fun k z=>by rw[N7.get k ac ac,old k z]
     have s7:=N7.sub;have hlen7:∀H',gO prog H' 22 U=some (.int .i64 v.2.l.length):=fun H'=>by
      have:=nd7.len (P:=prog) (t:=22) (H':=H') underlying22
      grind
     dsimp only[bO]at m7;clear R6 R7 N6 N7 F7 g6 gA;dsimp only[aC];by_cases hbig:(2000:Int)<v.2.l.length
     .rw[ai hbig]at hJ;simp only[dB]at hJ;obtain⟨rfl,rfl⟩:=hJ;have g1a:I.get 1=some qh:=aX;have ag0:cq 2 [.ag,.ag]=some (.agg [.ag,.ag]):=rfl;refine pE (fun hb hbp=>?_);refine⟨aB,_,(by(try simp only[aG,aY,Nat.reduceBEq,tyF,cF,cR, *]);first|done|with_reducible rfl),?_⟩;try simp only[aA]
      exact⟨_,fun _=>True,rfl,.cons .ag (.cons .ag .nil)⟩
     .rw[af hbig]at hJ;have hone:([.aj f.name,.int .i64 f.params.length,U,.int .i64 v.1,.int .i64 v.2.ab]:qu).all AV.one=true:=Se;have bGr:dd prog 32 [(0,.aj f.name),(1,.int .i64 f.params.length),(2,U),(3,.int .i64 v.1),(4,.int .i64 v.2.ab)]=some (.agg [.aj f.name,.int .i64 f.params.length,U,.int .i64 v.1,.int .i64 v.2.ab]):=by
       rcases nd7 with⟨rfl,_⟩|⟨q,im,rows,rfl,_⟩<;>kernel_rfl
      have hbs:=fun H=>SD H (cs:=[.aj f.name,.int .i64 f.params.length,U,.int .i64 v.1,.int .i64 v.2.ab]) rfl hone;have g77:I.get O.next=some (.cells [av,fv] 0 true):=aX
      have hfq:∀k o m z',fv=.sl k o m z'->k<Y.next/\O.next<k:=fun k o m z' e=>by
       rcases rf with⟨h1,_⟩|⟨q,im,rows,h1,h2,h3,_⟩
       .rw[h1]at e;cases e
       grind
      have C:∀k,k<I.next->(I.alloc (.cells [.aj f.name,.int .i64 f.params.length,U,.int .i64 v.1,.int .i64 v.2.ab] 0 true)).get k=I.get k:=fun k z=>em
      obtain⟨H9,a9,r9,n9,q9⟩:=EU (P:=prog) (t:=25) underlying25 DD Ia Ib rfl ax (S':=fun k=>O.next<k)
       (rf.keep (S':=fun k=>O.next<k) (H':=I.alloc (.cells [.aj f.name,.int .i64 f.params.length,U,.int .i64 v.1,.int .i64 v.2.ab] 0 true)) (fun _ _ h=>h) cB fun k _ z=>aX)
       (fun _ _ h=>h) cB (r:=I.next) (imm:=0) (row:=[.aj f.name,.int .i64 f.params.length,U,.int .i64 v.1,.int .i64 v.2.ab]) (w:=(Gr.mk f.name f.params.length v.2.l v.1 v.2.ab).cells) fc rfl hone
       (SE f.name f.params.length v.1 v.2.ab (nd7.keep (S':=fun k=>O.next<k/\∀o m z',fv≠.sl k o m z') (fun k h1 h2=>⟨by have:=s7 k h2;omega,fun o m z' e=>aX⟩) cB fun k z h2=>C k h2))
       oC oC
      rw[dx]at a9 r9;simp only[aU]at a9 r9 n9 q9;have old9:∀k,k<Y.next->(∀o m z',fv≠.sl k o m z')->H9.get k=Y.get k:=fun k h1 h2=>by rw[q9 k ac h2,C k ac,old7 k h1]
      have hlow:∀k,k<=O.next->∀o m z',fv≠.sl k o m z':=fun k z o m z' e=>by have:=(hfq k o m z' e).2;omega
      have hhigh:∀k,Y.next<=k->∀o m z',fv≠.sl k o m z':=fun k z o m z' e=>by have:=(hfq k o m z' e).1;omega
      have g79:H9.get O.next=some (.cells [av,fv] 0 true):=by rw[old9 _ ac (hlow _ (ay _))];exact g7
      have gf9:H9.get Y.next=some (.cells f.cells 0 true):=by rw[q9 _ ac (hhigh _ (ay _)),C _ ac];exact gg7
      have m9:H9.get (Y.next+1)=some (.cells [.az (p.aa.map Ar.cells),.az (p.funcs.map Fu.cells),U,Z,vv6,.int .i64 v.2.ab,.int .i64 v.2.loops] 0 true):=by rw[q9 _ ac (hhigh _ ac),C _ ac];exact m7
      have gf8:(I.alloc (.cells [.aj f.name,.int .i64 f.params.length,U,.int .i64 v.1,.int .i64 v.2.ab] 0 true)).get Y.next=some (.cells f.cells 0 true):=by rw[C _ ac];exact gg7
      have m8:(I.alloc (.cells [.aj f.name,.int .i64 f.params.length,U,.int .i64 v.1,.int .i64 v.2.ab] 0 true)).get (Y.next+1)=some (.cells [.az (p.aa.map Ar.cells),.az (p.funcs.map Fu.cells),U,Z,vv6,.int .i64 v.2.ab,.int .i64 v.2.loops] 0 true):=by rw[C _ ac];exact m7
      have g78:(I.alloc (.cells [.aj f.name,.int .i64 f.params.length,U,.int .i64 v.1,.int .i64 v.2.ab] 0 true)).get O.next=some (.cells [av,fv] 0 true):=by rw[C _ ac];exact g77
      have hJ':lV p n (p.funcs.drop (i5+1)) (gs++[Gr.mk f.name f.params.length v.2.l v.1 v.2.ab])=some (u,e):=hJ;have hmapg:(gs++[Gr.mk f.name f.params.length v.2.l v.1 v.2.ab]).map Gr.cells=gs.map Gr.cells++[(Gr.mk f.name f.params.length v.2.l v.1 v.2.ab).cells]:=aw;have old9':∀k,k<O.next->H9.get k=Y.get k:=fun k z=>old9 k ac (hlow k ac)
      clear C old9 hlow hhigh hfq old7 q9 hJ nd7 old;repeat' (first
       |(apply aj ?_;clear hK K)|apply bQ ?_|(apply bu ?_ ?_<;>(intro hb hbp;try(cases hb;done)))|(apply am fun K hK=>?_)|(apply ci 25 [(1,18),(3,18),(5,18),(6,18),(10,18),(15,18),(17,18)] fun K hK=>?_)|(apply bD ?_;try intro _)|(apply ch ?_ ?_<;>clear hK K)|fail)
      .exact cn
      .refine⟨ac,a0,a0,ca,oh,?_⟩;have hs9:∀m k,k≠O.next->(H9.set O.next m).get k=H9.get k:=fun m k z=>ju
       refine⟨gs++[Gr.mk f.name f.params.length v.2.l v.1 v.2.ab],.sl (I.next+1) 0 (gs.length+1) 5,hJ',aX,aX,by rw[aM,ai rfl,hgl],?_,⟨fun k h1 h2=>by rw[hs9 _ _ ac,old9' _ ac];exact hsm.get k h1 h2⟩,bb⟩;rw[hmapg];exact r9.keep (fun _ _ h=>h) (ay _) fun k z _=>hs9 _ k ac
  .have hlt':¬(i5:Int)<p.funcs.length:=by omega
   have hd:p.funcs.drop i5=[]:=mH ac;rw[hd]at hJ;simp only[lV,dB]at hJ;obtain⟨rfl,rfl⟩:=hJ;have ag:cq 2 [av,fv]=some (.agg [av,fv]):=rfl;have rd1:=ra'.keep (S':=fun _=>True) (H':=Y.set 1 (.cells [av,fv] 0 true)) (fun _ _ _=>trivial) eC fun k z _=>by rw[aM,af ac];exact hsm.get k z.1 z.2
   have rd2:=rf.keep (S':=fun _=>True) (H':=Y.set 1 (.cells [av,fv] 0 true)) (fun _ _ _=>trivial) bb fun k z _=>ly;have fin:yV (Y.set 1 (.cells [av,fv] 0 true)) ⟨p.aa,gs⟩ 0 (.a6 [.agg [av,fv],.int .i64 0]):=⟨_,fun _=>True,rfl,.cons (rd1.rd.up ac) (.cons (rd2.rd.up ac) .nil)⟩;clear rd1 rd2;refine pE (fun hb hbp=>?_);refine⟨aB,_,(by(try simp only[aG,aY,Nat.reduceBEq,tyF,cF,cR, *]);first|done|with_reducible rfl),?_⟩;try simp only[aA]
   exact fin
 .rw[af hc,aQ,iw]at h;obtain⟨rfl,rfl⟩:=h;refine bp (M:=144) (rs:=[.cell 2 27,.tmp 3]) (hw.call _) hw.aG hw.aB func28 rfl rfl Gw.2 rfl ?_;dsimp only[Gw,bm,Nat.reduceAdd];repeat' (first
   |(apply aj ?_;clear hK K)|apply bQ ?_|(apply iz ?_;first|refine bK (hchk _) ?_)|(apply bu ?_ ?_<;>(intro hb hbp;try(cases hb;done)))|(apply am fun K hK=>?_)|fail)
  have ag0:cq 2 [.ag,.ag]=some (.agg [.ag,.ag]):=rfl;refine⟨aB,_,(by(try simp only[aG,aY,Nat.reduceBEq,tyF,cF,cR, *]);first|done|with_reducible rfl),?_⟩;try simp only[aA]
  exact⟨_,fun _=>True,rfl,.cons .ag (.cons .ag .nil)⟩
theorem U7{f:FuncId}:∀{tb:qC},(∀e∈tb,Nat.beq e.f f=false)->(∀J,dE tb f J=none)/\iA tb f=false
 |[],_=>⟨fun _=>rfl,rfl⟩
 |e::l,hne=>by
  obtain⟨Y,Z⟩:=U7 (tb:=l) fun x hx=>hne x (en _ hx)
  have V:=hne e eg;exact⟨fun J=>by simp only[dE,V];exact Y J,by simp only[iA]at Z⊢;simp_all⟩
theorem zd8.of(h:∀e∈tb,KP e.f=false)(U:∀J,dE tb 67 J=(oZ Gs).sp J)(I:iA tb 67=true)(j:∀J,dE tb 108 J=yw.sp J):zd8 tb where
 pl f hf2:=U7 fun e Z=>by
  cases hb:Nat.beq e.f f with
  |false=>rfl
  |true=>rw[<-rH hb,h e Z]at hf2;cases hf2
 sn:=U
 sni:=I
 ff:=j
noncomputable def B7:qC:=[KU,oZ Gs,yw]
def zhD:gT prog ρ B7:=⟨zhB ρ,AQ (zhi ρ),Jf ρ,trivial⟩
theorem zhE:zd8 B7:=zd8.of (fun e J=>by
 simp only[B7,jh]at J;rcases J with rfl|rfl|rfl<;>rfl) (fun _=>rfl) rfl (fun _=>rfl)
def zhF(p:Pr)(C:p.sz<2^34)(m:eN p=0->BH p n)(h:pn p n=some (u,e)):bX prog ρ 28 (eV p) (.a6 [.agg u.cells,.int .i64 e]):=
 JJ (n:=60) (cfg:=au pls B7) fit (u5 ρ) (fun g J r hg=>gT.dW (l:=B7) (zhD ρ) g J r hg) (.cons (.agg p.pure) .nil) (aF (fun v H' h=>h.wk) (zhC zhE (fun _=>rfl) (ei (fun _=>rfl) rfl) p C m h))
end
section
def tySuC.tyF:=ad @cr (ad @cK (ad @jn (ad @fW (ad @DB (ad @DC (ad @DE (ad @sN (ad @jx (ad @dQ (@fP))))))))))
open tySuC
noncomputable def U8:{c:SC // aE 27 (f56.body.getD .skip)=c}:=by
 refine⟨?_,?_⟩;rotate_left
 .simp only[f56,bN,aE,bH,bw,bM,bJ,Nat.blt,Nat.ble];rfl
noncomputable def U9:{c:SC // aE 94 (f29.body.getD .skip)=c}:=by
 refine⟨?_,?_⟩;rotate_left
 .simp only[f29,bN,aE,bH,bw,bM,bJ,Nat.blt,Nat.ble];rfl
theorem zhG(D:BinOp->Sx->Sx->qJ)(m:Ar):eD prog D .neq 86 (.agg m.cells) (.agg m.cells)=some (.bool false):=by
 obtain⟨s,n⟩:=m;have e:eD prog D .neq 86 (.agg [.aj s,.int .i64 n]) (.agg [.aj s,.int .i64 n])=(match (match tC prog 9 (.aj s) (.aj s)with
  |some true=>(match tC prog 3 (.int .i64 n) (.int .i64 n)with
   |some true=>some true
   |some false=>some false
   |none=>none)
  |some false=>some false
  |none=>none)with
  |some b=>some (.bool (!b))
  |none=>none):=ax
 have Z:tC prog 9 (.aj s) (.aj s)=some true:=by simp[tC]
 have M:tC prog 3 (.int .i64 n) (.int .i64 n)=some true:=by simp[tC]
 show eD prog D .neq 86 (.agg [.aj s,.int .i64 n]) (.agg [.aj s,.int .i64 n])=_;rw[e,Z,M];rfl
def xF(l:qF):qu:=[vx l,vx l]
def zhH(x y:qF)(h:xF x=xF y):x=y:=by
 simp only[xF,eJ,aW]at h;exact zbw h.1
def zhI(l:qF)(I:AU l):bX prog ρ 56 (xF l) (.bool true):=fB fit (pls:=pls) (l:=[B4]) ⟨zhf ρ,trivial⟩ (.cons (Oa _) (.cons (Oa _) .nil)) (.bool _) (by
 obtain⟨hl1,C⟩:=I;have V:zd0 (au pls [B4]) 56:=ei (fun _=>rfl) rfl;rw[xF];refine bp (M:=27) (rs:=[.tmp 4]) (V.call _) V.aG V.aB func56 rfl rfl U8.2 rfl ?_;dsimp only[U8,bm,Nat.reduceAdd];repeat' (first
  |(apply aj ?_;clear hK K)|apply Ry.o ?_|(apply bu (fun hb hbp=>?_) (fun hb hbp=>?_)<;>try(cases hb;done))|apply cW ?_|(apply am fun K hK=>?_)|(apply ci 6 [(3,8),(7,8)] fun K hK=>?_)|(apply bD ?_;try intro _)|(apply ch ?_ ?_<;>clear hK K)|apply eP ?_|apply dX ?_|apply fA ?_|apply gJ ?_|apply iT ?_)
 refine cl [0,1] [] 5 l.length (fun i E H=>True) eE trivial ?_;rintro i E H2 hi Z j Y hsI hJ;(try simp only[bC,aZ,aW,aG,aY,Nat.reduceBEq,Nat.reduceAdd,Nat.reduceLeDiff,tyF, *]at Z);(try simp only[bC,aZ,aW,aG,aY,Nat.reduceBEq,Nat.reduceAdd,Nat.reduceLeDiff,tyF, *]at j);(try simp only[aU,bq,ce,bR,Nat.reduceAdd]at Y);by_cases J:i<l.length
 .have z:(i:Int)<l.length:=by omega
  have hgx:l[i]?=some l[i]:=bj J;have U:l[i].ao.length<2^60:=by have:=C _ (dm J);omega
  have O:=fun H=>zhg (l:=[B4]) (fun _=>rfl) l[i] l[i] U H;generalize l[i]=m at *;simp only[nP]at O;repeat' (first
   |(apply aj ?_;clear hK K)|apply Ry.o ?_|(apply iz ?_;first|refine bK (O _) ?_)|(apply bu (fun hb hbp=>?_) (fun hb hbp=>?_)<;>try(cases hb;done))|apply cW ?_|(apply am fun K hK=>?_)|(apply ci 6 [(3,8),(7,8)] fun K hK=>?_)|(apply bD ?_;try intro _)|(apply ch ?_ ?_<;>clear hK K)|apply eP ?_|apply dX ?_|apply fA ?_|apply gJ ?_|apply iT ?_)
  all_goals first
   |exact cn
   |skip
  refine⟨ac,a0,a0,ca,yl,?_⟩;trivial
 .have z:¬(i:Int)<l.length:=by omega
  repeat' (first
   |(apply aj ?_;clear hK K)|apply Ry.o ?_|(apply bu (fun hb hbp=>?_) (fun hb hbp=>?_)<;>try(cases hb;done))|apply cW ?_|(apply am fun K hK=>?_)|(apply ci 6 [(3,8),(7,8)] fun K hK=>?_)|(apply bD ?_;try intro _)|(apply ch ?_ ?_<;>clear hK K)|apply eP ?_|apply dX ?_|apply fA ?_|apply gJ ?_|apply iT ?_)
  all_goals refine qq ?_
  all_goals trivial)
noncomputable def B8:En:=⟨56,false,co AU xF fun _=>.bool true⟩
def zhJ:dI prog ρ B8:=dT fun x hx=>zhI ρ x hx
structure zip (u:Un):Prop where
 a:u.aa.length<2^30
 f:u.funcs.length<2^30
 g:∀g∈u.funcs,AU g.aL
def xG(u:Un):qu:=[.agg u.cells,.agg u.cells]
def zhK(x y:Un)(h:xG x=xG y):x=y:=by
 simp only[xG,eJ,AV.agg.injEq,aW]at h;exact Un.inj h.1
set_option maxRecDepth 100000 in
theorem zhL(u:Un)(hu:zip u):bX prog ρ 29 (xG u) (.bool true):=fB fit (pls:=pls) (l:=[B8]) ⟨zhJ ρ,trivial⟩ (.cons (.agg (Un.pure _)) (.cons (.agg (Un.pure _)) .nil)) (.bool _) (by
 obtain⟨ha,hf,hgr⟩:=hu;have hw:zd0 (au pls [B8]) 29:=ei (fun _=>rfl) rfl;have huc:u.cells=[.az (u.aa.map Ar.cells),.az (u.funcs.map Gr.cells)]:=rfl;rw[xG,huc];refine bp (M:=94) (rs:=[.tmp 4]) (hw.call _) hw.aG hw.aB func29 rfl rfl U9.2 rfl ?_;dsimp only[U9,bm,Nat.reduceAdd];repeat' (first
  |(apply aj ?_;clear hK K)|apply Ry.o ?_|apply iS ?_|(apply jy (fun hg hgp=>?_) (fun hg hgp=>?_)<;>try(cases hg;done))|(apply bu (fun hb hbp=>?_) (fun hb hbp=>?_)<;>try(cases hb;done))|apply cW ?_|(apply am fun K hK=>?_)|(apply ci 6 [(1,11),(4,11),(6,11),(9,11)] fun K hK=>?_)|(apply bD ?_;try intro _)|(apply ch ?_ ?_<;>clear hK K)|apply eP ?_|apply dX ?_|apply fA ?_|apply gJ ?_|apply iT ?_)
 refine cl [2,3] [0,1] 5 u.aa.length (fun i E H=>True) eE trivial ?_;rintro i E I hi Y V U C hJ;(try simp only[bC,aZ,aW,aG,aY,Nat.reduceBEq,Nat.reduceAdd,Nat.reduceLeDiff,tyF, *]at Y);(try simp only[bC,aZ,aW,aG,aY,Nat.reduceBEq,Nat.reduceAdd,Nat.reduceLeDiff,tyF, *]at V);(try simp only[aU,bq,ce,bR,Nat.reduceAdd]at U);have hB0:(0 == I.next)=false:=ak ac;have hC0:(I.next == 0)=false:=ak ac;have hB1:(1 == I.next)=false:=ak ac;have hC1:(I.next == 1)=false:=ak ac;by_cases hlt:i<u.aa.length
 .have z:(i:Int)<u.aa.length:=by omega
  have hgx:u.aa[i]?=some u.aa[i]:=bj hlt;generalize u.aa[i]=m at *;have gh0:=@zhG;repeat' (first
   |(apply aj ?_;clear hK K)|apply Ry.o ?_|apply iS ?_|(apply jy (fun hg hgp=>?_) (fun hg hgp=>?_)<;>try(cases hg;done))|(apply bu (fun hb hbp=>?_) (fun hb hbp=>?_)<;>try(cases hb;done))|apply cW ?_|(apply am fun K hK=>?_)|(apply ci 6 [(1,11),(4,11),(6,11),(9,11)] fun K hK=>?_)|(apply bD ?_;try intro _)|(apply ch ?_ ?_<;>clear hK K)|apply eP ?_|apply dX ?_|apply fA ?_|apply gJ ?_|apply iT ?_)
  .exact cn
  refine⟨ac,a0,a0,ca,(by simp only[aG,Nat.reduceBEq, *];exact hZ (n:=u.aa.length) ac ac),?_⟩;trivial
 .have z:¬(i:Int)<u.aa.length:=by omega
  repeat' (first
   |(apply aj ?_;clear hK K)|apply Ry.o ?_|apply iS ?_|(apply jy (fun hg hgp=>?_) (fun hg hgp=>?_)<;>try(cases hg;done))|(apply bu (fun hb hbp=>?_) (fun hb hbp=>?_)<;>try(cases hb;done))|apply cW ?_|(apply am fun K hK=>?_)|(apply ci 6 [(1,11),(4,11),(6,11),(9,11)] fun K hK=>?_)|(apply bD ?_;try intro _)|(apply ch ?_ ?_<;>clear hK K)|apply eP ?_|apply dX ?_|apply fA ?_|apply gJ ?_|apply iT ?_)
  refine cl [2,3] [0,1] 6 u.funcs.length (fun i E H=>True) eE trivial ?_;rintro j E3 J hj Y V U C hJ2;(try simp only[bC,aZ,aW,aG,aY,Nat.reduceBEq,Nat.reduceAdd,Nat.reduceLeDiff,tyF, *]at Y);(try simp only[bC,aZ,aW,aG,aY,Nat.reduceBEq,Nat.reduceAdd,Nat.reduceLeDiff,tyF, *]at V);(try simp only[aU,bq,ce,bR,Nat.reduceAdd]at U);have hB0:(0 == J.next)=false:=ak ac;have hC0:(J.next == 0)=false:=ak ac;have hB1:(1 == J.next)=false:=ak ac;have hC1:(J.next == 1)=false:=ak ac;have z0:(0 == J.next+1)=false:=ak ac;have z1:(1 == J.next+1)=false:=ak ac;by_cases Z:j<u.funcs.length
  .have O:(j:Int)<u.funcs.length:=by omega
   have hgx:u.funcs[j]?=some u.funcs[j]:=bj Z;have hok:=hgr _ (dm Z);have ks:∀H:Hp,aR prog (au pls [B8]) 56 [vx u.funcs[j].aL,vx u.funcs[j].aL] H fun v H'=>v=.bool true/\H'=H:=fun H=>cV (P:=prog) (pls:=pls) (l:=[B8]) (g:=56) (enc:=xF) (ok:=AU) (out:=fun _=>.bool true) zhH (x:=u.funcs[j].aL) rfl hok (H:=H);generalize u.funcs[j]=g at *;repeat' (first
    |(apply aj ?_;clear hK K)|apply Ry.o ?_|apply iS ?_|(apply iz ?_;first|refine bK (ks _) ?_)|(apply jy (fun hg hgp=>?_) (fun hg hgp=>?_)<;>try(cases hg;done))|(apply bu (fun hb hbp=>?_) (fun hb hbp=>?_)<;>try(cases hb;done))|apply cW ?_|(apply am fun K hK=>?_)|(apply ci 6 [(1,11),(4,11),(6,11),(9,11)] fun K hK=>?_)|(apply bD ?_;try intro _)|(apply ch ?_ ?_<;>clear hK K)|apply eP ?_|apply dX ?_|apply fA ?_|apply gJ ?_|apply iT ?_)
   refine⟨ac,a0,a0,ca,(by simp only[aG,Nat.reduceBEq, *];exact hZ (n:=u.funcs.length) ac ac),?_⟩;trivial
  .have O:¬(j:Int)<u.funcs.length:=by omega
   repeat' (first
    |(apply aj ?_;clear hK K)|apply Ry.o ?_|apply iS ?_|(apply jy (fun hg hgp=>?_) (fun hg hgp=>?_)<;>try(cases hg;done))|(apply bu (fun hb hbp=>?_) (fun hb hbp=>?_)<;>try(cases hb;done))|apply cW ?_|(apply am fun K hK=>?_)|(apply ci 6 [(1,11),(4,11),(6,11),(9,11)] fun K hK=>?_)|(apply bD ?_;try intro _)|(apply ch ?_ ?_<;>clear hK K)|apply eP ?_|apply dX ?_|apply fA ?_|apply gJ ?_|apply iT ?_)
   all_goals refine qq ?_
   all_goals trivial)
noncomputable def Va:En:=⟨29,false,co zip xG fun _=>.bool true⟩
def zhM:dI prog ρ Va:=dT fun x hx=>zhL ρ x hx
end
end Go.Proofs.YtpbcimfiofmoeaaGreat
namespace Go.Ab
set_option maxRecDepth 20000
open Go Go.WideShapes Go.Deep Go.RowKit Go.ChangeShapes
variable{t e:TypeId}{k:IntKind}{v:Value}{a:Addr}{n:Nat}{Y:qu}
def sy(W:World):Nat->Nat->qS:=fun b o=>W.cell? ⟨b,o,none⟩
def zhN(W:World):∀b o v,sy W b o=some v->W.cell? ⟨b,o,none⟩=some v:=fun _ _ _ h=>h
section
variable {H:Type} {enc:TypeId × Value -> H} {P:Program} {W:World}
def zhO{r:Reach}{b0:Nat}{d:DataW H}{ps:List MemPlace}{sp:Nat->Bool}{O:Bool}(ht:P.underlying t=some (.slice e))(he:P.underlying e=some (.int k))(hc:P.cellsOf e=1)(M:Value.okWide P W r b0 t v)(hd:DataW.Trod enc P W 0 sp O t v d ps)(β:Nat->Option (Nat×Nat×Nat))(ρ:Nat->Int):
 ∃l:qy,VR ⟨β,sy W,ρ⟩ (.az (l.map fun n=>[AV.int k n])) v/\l.length<=maxLen/\∀n∈l,(Lit.int k n).wf=true:=by
 obtain⟨kV,rp,J,rfl⟩:=okWide_slice ht M;obtain⟨fuel,hf⟩:=hd;rcases open_slice1 ht hc hf with⟨h,_⟩|⟨a,len,cap,m,n,V,D,Pl,h,hb,hl,hm,hmm,hx,hV⟩
 .simp[Value.cells]at h;obtain⟨rfl,rfl,rfl⟩:=h;exact⟨[],.lst0 _ _,cZ _,fun _ h=>absurd h aw⟩
 .simp[Value.cells]at h;obtain⟨rfl,rfl,rfl⟩:=h;have hlm:rp<=m:=aX;have C:∀i,∃n:Int,i<rp->V i=.int k n/\(Lit.int k n).wf=true:=fun i=>by
   by_cases I:i<rp
   .obtain⟨n',h1,_,h2⟩:=DataW.trod_int he (hV i ac).2;simp_all
   .exact⟨0,fun h=>absurd h I⟩
  obtain⟨N,hN0⟩:=KT C;have hN:∀i,i<rp->V i=.int k (N i):=fun i h=>(hN0 i h).1;refine⟨(List.range rp).map N,?_,cb,fun n hn=>by
   grind⟩
  by_cases h0:rp=0
  .subst h0;exact .lst0 _ _
  obtain⟨ab,ao,asp⟩:=a;have U:asp=none:=by
   have:=(hV 0 ac).1;simp only[Addr.add,ft,World.cell?]at this;split at this
   .simp_all
   .cases this
  subst U;have Z:(((List.range rp).map N).map fun n=>[AV.int k n]).length=rp:=aw;have key:=VR.az (G:=⟨β,sy W,ρ⟩) (xs:=((List.range rp).map N).map fun n=>[AV.int k n]) (b:=ab) (o:=ao) (cap:=J) (z:=1) (fun i _=>V i) ?_ ?_ ?_ (by rw[Z];omega)
  .simp_all
  .simp_all
  .intro i j I hj;rw[Z]at I;have h2:=(hV i ac).1;show W.cell? ⟨ab,ao+i*1+j,none⟩=some (V i);have hj0:j=0:=ac;subst hj0;rw[<-h2]
   congr 1
   unfold Addr.add;simp_all
  .intro i j row c hr Y;rw[eI,eI]at hr;by_cases I:i<rp
   .rw[wB I]at hr;simp only[kM]at hr;subst hr;cases j with
    |zero=>
     simp only[tY,aQ]at Y;subst Y;show VR _ _ (V i);rw[hN i I];exact .int k _
    |succ j=>simp at Y
   simp_all
def Vb(O:laidOutB P=true)(hr:P.readableRec t=true)(j:t<P.types.size){U:World}{d:DataW H}{ps J:List MemPlace}
 (h:DataW.Trod enc P W 0 (fun _=>true) true t v d ps) (hb:Below W.heap.size W U) (Z:∀p∈J,p.block<W.heap.size) (I:∀p∈ps,p∈J) {V:Nat->Bool} (Y:∀p∈J,V p.block=true) :
 DataW.Trod enc P U 0 V true t v d ps:=
 WideElems.Trod_stays O hr j h (fun x hx=>hb.same (Z x (I x hx))) fun x hx=>Y x (I x hx)
end
open Go Go.WideShapes Go.Deep Go.RowKit Go.ChangeShapes Go.Proofs.YtpbcimfiofmoeaaGreat
inductive Sh (P:Program):Nat->TypeId->qu->Prop
 |int {t:TypeId}{k:IntKind} (n:Int) (ht:P.underlying t=some (.int k)) (hw:(Lit.int k n).wf=true):Sh P 1 t [.int k n]
 |bool {t:TypeId} (b:Bool) (ht:P.underlying t=some .bool):Sh P 1 t [.bool b]
 |aj {t:TypeId} (s:qA) (ht:P.underlying t=some .string):Sh P (s.length+1) t [.aj s]
 |rows {t e:TypeId} (l:List (qu×Nat)) (ht:P.underlying t=some (.slice e)) (h:∀r∈l,Sh P r.2 e r.1):Sh P ((l.map (·.2)).sum+1) t [.az (l.map (·.1))]
 |struct {t:TypeId}{fs:Array Field} (l:List (qu×Nat)) (ht:P.underlying t=some (.struct fs)) (hl:l.length=fs.size) (h:∀(i:Nat) f r,fs[i]?=some f->l[i]?=some r->Sh P r.2 f.type r.1):Sh P ((l.map (·.2)).sum+1) t (l.map (·.1)).flatten
def B9(P:Program):List Field->Nat->Nat->Bool
 |[],i,n=>i == n
 |f::fs,i,n=>f.offset == i&&B9 P fs (i+P.cellsOf f.type) n
def Vc(P:Program)(S:List TypeId):Bool:=S.all fun t=>match P.underlying t with
 |some (.int _)|some .bool|some .string=>true
 |some (.slice e)=>S.contains e&&Nat.blt 0 (P.cellsOf e)
 |some (.struct M)=>M.toList.all (fun f=>S.contains f.type)&&B9 P M.toList 0 (P.cellsOf t)
 |_=>false
theorem Vd{P:Program}{I:Type}{cs:List I}{n:Nat}(O:cs.length=n):∀(M:List Field) (i:Nat),B9 P M i n=true->(M.map fun f=>(cs.drop f.offset).take (P.cellsOf f.type)).flatten=cs.drop i
 |[],i,h=>by
  have:i=n:=by simpa [B9]using h
  subst this;rw[<-O,iJ];rfl
 |f::M,i,h=>by
  simp only[B9,da,tM]at h;rw[eK,jl,Vd O M _ h.2,h.1,<-CI,zY]
section
variable {H:Type} {enc:TypeId × Value -> H} {P:Program} {W:World}
theorem cc.cu{G:Gh}:∀{l:List qu}{m:List qH},l.length=m.length->(∀(i:Nat) a b,l[i]?=some a->m[i]?=some b->cc G a b)->cc G l.flatten m.flatten
 |[],[],_,_=>mc G
 |a::l,b::m,hl,h=>by
  rw[jl,jl];exact(h 0 a b rfl rfl).append (cc.cu (by simpa using hl) fun i x y hx hy=>h (i+1) x y (by simpa using hx) (by simpa using hy))
theorem KV:∀{l:List (DataW H)}{m:qG},l.length=m.length->(∀(i:Nat) d n,l[i]?=some d->m[i]?=some n->n<=Rows.uptoBulk d)->m.sum<=Rows.uptoBulkAll l
 |[],[],_,_=>ay _
 |d::l,n::m,hl,h=>by
  have Z:=h 0 d n rfl rfl;have j:=KV (l:=l) (m:=m) (by simpa using hl) fun i x y hx hy=>h (i+1) x y (by simpa using hx) (by simpa using hy);simp only[Rows.uptoBulkAll,wc];omega
def Ve{i:Nat}(h:a.spot=none):a.add i=⟨a.block,a.off+i,none⟩:=by
 obtain⟨b,o,s⟩:=a;simp only at h;subst h;unfold Addr.add;split
 .rename_i h;subst h;rfl
 .rfl
def Gx{cs:qH}(h:W.cells? 0 a n=some cs):cs.length=n/\∀j,j<n->W.cell? (a.add j)=cs[j]?:=by
 unfold World.cells? at h;rw[ai (cZ _)]at h;refine⟨by have:=mapM_some_length h;simpa using this,fun j Y=>?_⟩;have:=mapM_some_get h j j (by rw[wB Y]);exact this
theorem KW{S:List TypeId}(hS:Vc P S=true)(ρ:Nat->Int){sp:Nat->Bool}{held:Bool}:∀(J:Nat) (t:TypeId) (cs:qH) (x:DataW H×List MemPlace),t∈S->DataW.trod enc P W 0 sp held J t cs=some x ->
 ∃az n,cc ⟨fun _=>none,sy W,ρ⟩ az cs/\Sh P n t az/\n<=Rows.uptoBulk x.1
 |0,_,_,_,_,h=>by simp[DataW.trod]at h
 |J+1,t,cs,x,ht,h=>by
  have hg:=jX.1 hS t ht;split at hg
  .rename_i k U;obtain⟨n,rfl,rfl,hw⟩:=DataW.trod_int U h;exact⟨[.int _ n],1,jJ (.int _ _) (mc _),.int n U hw,ay _⟩
  .rename_i U;obtain⟨n,rfl,rfl⟩:=DataW.trod_bool U h;exact⟨[.bool n],1,jJ (.bool _) (mc _),.bool n U,ay _⟩
  .rename_i U;obtain⟨s,rfl,rfl,_⟩:=DataW.trod_string U h;exact⟨[.aj s.data.toList],_,jJ (.aj s _ rfl) (mc _),.aj _ U,by simp[Rows.uptoBulk]⟩
  .rename_i e U;rw[da,sI]at hg;have he:e∈S:=by simpa using hg.1
   have hz0:=hg.2;rcases DataW.trod_slice U h with⟨rfl,rfl⟩|⟨a,Z,cap,M,rest,n,hn,rfl,rfl,_,hl,O,hlen,hel,_,_⟩
   .exact⟨[.az []],_,jJ (.lst0 none 0) (mc _),.rows [] U aw,by simp[Rows.uptoBulk]⟩
   .obtain rfl:n=J:=by omega
    have key:∀i:Nat,∃r:qu×Nat,i<Z->∃V,W.cells? 0 (a.add (i*P.cellsOf e)) (P.cellsOf e)=some V/\cc ⟨fun _=>none,sy W,ρ⟩ r.1 V/\Sh P r.2 e r.1/\∀y:DataW H×List MemPlace,M[i]?=some y->r.2<=Rows.uptoBulk y.1:=fun i=>by
     by_cases I:i<Z
     .have hb:=hel i I;rw[bj ac]at hb;obtain⟨V,h1,h2⟩:=gG.1 hb;obtain⟨a',k,v1,v2,v3⟩:=KW hS ρ n e V _ he h2;exact⟨(a',k),fun _=>⟨V,h1,v1,v2,fun y hy=>by
       rw[bj ac]at hy;cases hy;exact v3⟩⟩
     .exact⟨([],0),fun h=>absurd h I⟩
    obtain⟨R,hR⟩:=KT key;have hLl:(((List.range Z).map R).map (·.1)).length=Z:=aw;refine⟨[.az (((List.range Z).map R).map (·.1))],_,jJ ?_ (mc _),.rows ((List.range Z).map R) U ?_,?_⟩
    .by_cases h0:Z=0
     .subst h0;exact .lst0 _ _
     obtain⟨cs0,c1,c2,_⟩:=hR 0 ac;obtain⟨Ca,c3⟩:=Gx c1;have Y:a.spot=none:=by
      have h4:=c3 0 hz0;rw[bj ac]at h4;simp only[Addr.add,yO,ft,World.cell?]at h4;split at h4
      .split at h4
       .cases h4
       .rename_i hn;cases hq:a.spot with
        |none=>rfl
        |some s=>rw[hq]at hn;simp at hn
      .cases h4
     have hat:∀i j,i<Z->j<P.cellsOf e->∃V v,W.cells? 0 (a.add (i*P.cellsOf e)) (P.cellsOf e)=some V/\V[j]?=some v/\W.cell? ⟨a.block,a.off+i*P.cellsOf e+j,none⟩=some v:=fun i j I hj=>by
      obtain⟨V,d1,_⟩:=hR i I;obtain⟨l1,d3⟩:=Gx d1;refine⟨V,V[j]' ac,d1,bj ac,?_⟩;have:=d3 j hj;rw[bj ac]at this;rw[<-this,Ve Y,Ve rfl]
     have hfin:=VR.az (G:=⟨fun _=>none,sy W,ρ⟩) (xs:=((List.range Z).map R).map (·.1)) (b:=a.block) (o:=a.off) (cap:=cap) (z:=P.cellsOf e) (fun i j=>(W.cell? ⟨a.block,a.off+i*P.cellsOf e+j,none⟩).getD .nilFunc) ?_ ?_ ?_ (by rw[hLl];exact hl)
     .rw[hLl]at hfin;obtain⟨ab,ao,asp⟩:=a;simp only at Y;subst Y;exact hfin
     .intro i row hr;rw[eI,eI]at hr;by_cases I:i<Z
      .rw[wB I]at hr;simp only[kM]at hr;subst hr;obtain⟨V,d1,d2,_⟩:=hR i I;rw[d2.1,(Gx d1).1]
      .rw[sH cb]at hr;simp at hr
     .intro i j I hj;rw[hLl]at I;obtain⟨V,v,_,_,d3⟩:=hat i j I hj;show W.cell? ⟨a.block,a.off+i*P.cellsOf e+j,none⟩=_;rw[d3];rfl
     .intro i j row c hr hc;rw[eI,eI]at hr;by_cases I:i<Z
      .rw[wB I]at hr;simp only[kM]at hr;subst hr;obtain⟨V,d1,d2,_⟩:=hR i I;have hj:j<P.cellsOf e:=by
        have:=(gZ.1 hc).1;rw[d2.1,(Gx d1).1]at this;exact this
       obtain⟨cs2,v,e1,e2,e3⟩:=hat i j I hj;rw[d1]at e1;cases e1;rw[e3];exact d2.2 j c v hc e2
      .rw[sH cb]at hr;simp at hr
    .intro r hr;obtain⟨i,I,rfl⟩:=mh.1 hr;exact(hR i (rI.1 I)).choose_spec.2.2.1
    .have h1:(((List.range Z).map R).map (·.2)).sum<=Rows.uptoBulkAll (M.map (·.1)):=by
      refine KV (by simp[hlen]) fun i d m hd O=>?_;rw[eI,eI]at O;rw[eI]at hd;by_cases I:i<Z
      .rw[wB I]at O;simp only[kM]at O;subst O;rw[bj ac]at hd;simp only[kM]at hd;subst hd;exact(hR i I).choose_spec.2.2.2 _ (bj ac)
      .rw[sH cb]at O;simp at O
     show _<=Rows.uptoBulkAll (M.map (·.1))+Rows.uptoBulkAll (rest.map (·.1))+1;omega
  .rename_i C U;rw[da,jX]at hg;obtain⟨xs,n,hn,rfl,hcl,hxl,hf⟩:=DataW.trod_struct U h;obtain rfl:n=J:=ac;have key:∀i:Nat,∃r:qu×Nat,∀f:Field,C[i]?=some f->cc ⟨fun _=>none,sy W,ρ⟩ r.1 ((cs.drop f.offset).take (P.cellsOf f.type))/\Sh P r.2 f.type r.1/\∀y:DataW H×List MemPlace,xs[i]?=some y->r.2<=Rows.uptoBulk y.1:=fun i=>by
    cases I:C[i]? with
    |none=>exact⟨([],0),fun f h=>by cases h⟩
    |some f=>
     have h1:=hf i f I;have hil:i<C.size:=(Array.getElem?_eq_some_iff.1 I).1;rw[bj ac]at h1;have hfS:f.type∈S:=by
      have:=hg.1 f (by rw[<-z6]at I;exact li I);simpa using this
     obtain⟨a',k,v1,v2,v3⟩:=KW hS ρ n f.type _ _ hfS h1;refine⟨(a',k),fun f' h'=>?_⟩;cases h';exact⟨v1,v2,fun y hy=>by
      rw[bj ac]at hy;cases hy;exact v3⟩
   obtain⟨R,hR⟩:=KT key;have htile:=Vd hcl C.toList 0 hg.2;rw[hY]at htile;have hat:∀i r,(((List.range C.size).map R))[i]?=some r->r=R i/\i<C.size:=fun i r hr=>by
    rw[eI]at hr;by_cases I:i<C.size
    .rw[wB I]at hr;simp only[kM]at hr;exact⟨hr.symm,I⟩
    .rw[sH cb]at hr;simp at hr
   refine⟨(((List.range C.size).map R).map (·.1)).flatten,_,?_,.struct ((List.range C.size).map R) U aw ?_,?_⟩
   .rw[<-htile];refine cc.cu aw fun i r c hr hc=>?_;rw[eI]at hr hc;cases hq:((List.range C.size).map R)[i]? with
    |none=>rw[hq]at hr;simp at hr
    |some q=>
     rw[hq]at hr;simp only[kM]at hr;obtain⟨rfl,I⟩:=hat i q hq;cases hg2:C.toList[i]? with
     |none=>rw[hg2]at hc;simp at hc
     |some f=>
      rw[hg2]at hc;simp only[kM]at hc;subst hr;subst hc;exact(hR i f (by rw[<-z6];exact hg2)).1
   .intro i f r I hr;obtain⟨rfl,_⟩:=hat i r hr;exact(hR i f I).2.1
   .have h1:(((List.range C.size).map R).map (·.2)).sum<=Rows.uptoBulkAll (xs.map (·.1)):=by
     refine KV (by simp[hxl]) fun i d m hd O=>?_;rw[eI]at O hd;cases hq:((List.range C.size).map R)[i]? with
     |none=>rw[hq]at O;simp at O
     |some q=>
      rw[hq]at O;simp only[kM]at O;obtain⟨rfl,I⟩:=hat i q hq;cases hy:xs[i]? with
      |none=>rw[hy]at hd;simp at hd
      |some y=>
       rw[hy]at hd;simp only[kM]at hd;subst hd;subst O;exact(hR i C[i] (tN I)).2.2 y hy
    show _<=Rows.uptoBulkAll (xs.map (·.1))+1;omega
  .cases hg
def Sh.bW{P:Program}(h:Sh P n t Y)(j:P.underlying t=some (.int k)):∃x,Y=[.int k x]/\(Lit.int k x).wf=true/\n=1:=by
 cases h with
 |int x U M=>rw[j]at U;cases U;exact⟨x,rfl,M,rfl⟩
 |bool b U=>rw[j]at U;cases U
 |aj s U=>rw[j]at U;cases U
 |rows l U _=>rw[j]at U;cases U
 |struct l U _ _=>rw[j]at U;cases U
def Sh.bQ{P:Program}(h:Sh P n t Y)(j:P.underlying t=some .string):∃s,Y=[.aj s]/\n=s.length+1:=by
 cases h with
 |int x U M=>rw[j]at U;cases U
 |bool b U=>rw[j]at U;cases U
 |aj s U=>exact⟨s,rfl,rfl⟩
 |rows l U _=>rw[j]at U;cases U
 |struct l U _ _=>rw[j]at U;cases U
def Sh.bz{P:Program}(h:Sh P n t Y)(j:P.underlying t=some (.slice e)):∃l:List (qu×Nat),Y=[.az (l.map (·.1))]/\n=(l.map (·.2)).sum+1/\∀r∈l,Sh P r.2 e r.1:=by
 cases h with
 |int x U M=>rw[j]at U;cases U
 |bool b U=>rw[j]at U;cases U
 |aj s U=>rw[j]at U;cases U
 |rows l U h=>rw[j]at U;cases U;exact⟨l,rfl,rfl,h⟩
 |struct l U _ _=>rw[j]at U;cases U
def Sh.bC{P:Program}{fs:Array Field}(h:Sh P n t Y)(j:P.underlying t=some (.struct fs)):∃l:List (qu×Nat),Y=(l.map (·.1)).flatten/\n=(l.map (·.2)).sum+1/\l.length=fs.size/\∀(i:Nat) f r,fs[i]?=some f->l[i]?=some r->Sh P r.2 f.type r.1:=by
 cases h with
 |int x U M=>rw[j]at U;cases U
 |bool b U=>rw[j]at U;cases U
 |aj s U=>rw[j]at U;cases U
 |rows l U h=>rw[j]at U;cases U
 |struct l U O h=>rw[j]at U;cases U;exact⟨l,rfl,rfl,O,h⟩
end
end Go.Ab
namespace Go.Proofs.YtpbcimfiofmoeaaGreat
set_option maxRecDepth 20000
open Go Go.Ab Proofs.Tryz
variable{n:Nat}{W:World}{U:Value}{r:Reach}{Y:qu}{Z:Nat->Bool}{O:Bool}
def KX(l:qy):AV:=.az (l.map fun n=>[.int .i64 n])
def zhP(l:qy):fQ (KX l):=.map fun n _=>.cons (.int _ _) .nil
def zhQ(h:n<=maxLen):n<2^63:=ur h aH
def zhR:prog.cellsOf 3=1:=ax
set_option maxRecDepth 100000 in
def zhS{H:Type}{enc:TypeId×Value->H}{Y:Nat}(k0:Value.okWide prog W r Y 23 U){d:DataW H}{ps:List MemPlace}(m:DataW.Trod enc prog W 0 Z O 23 U d ps):∃l:qy,VR ⟨fun _=>none,sy W,fun _=>0⟩ (KX l) U/\l.length<2^63/\∀n∈l,-9223372036854775808<=n/\n<9223372036854775808:=by
 obtain⟨l,V,M,hr⟩:=zhO underlying23 underlying3 zhR k0 m (fun _=>none) (fun _=>0);refine⟨l,V,zhQ M,fun n J=>?_⟩;have h:=hr n J;have I:IntKind.min .i64=-9223372036854775808:=aH;have C:IntKind.max .i64=9223372036854775807:=aH;simp only[Lit.wf,oQ,I,C]at h;omega
open Go Go.Ab Go.WideShapes
def zhT{x:Int}(h:(Lit.int .i64 x).wf=true):gV x:=by
 have m:IntKind.min .i64=-9223372036854775808:=aH;have M:IntKind.max .i64=9223372036854775807:=aH;simp only[Lit.wf,oQ,m,M]at h;unfold gV;omega
theorem uJ{I:Type}{f:I->qu}{sz:List I->Nat}{s1:I->Nat}{g:List I->Prop}{g1:I->Prop}(J:sz []=0)(M:∀a l,sz (a::l)=1+s1 a+sz l)(hg:g [])(Z:∀a l,g1 a->g l->g (a::l)):∀l:List (qu×Nat),(∀r∈l,∃x,r.1=f x/\s1 x+1<=r.2/\g1 x)->∃z:List I,l.map (·.1)=z.map f/\sz z<=(l.map (·.2)).sum/\g z
 |[],_=>⟨[],rfl,ua,hg⟩
 |r::l,h=>by
  obtain⟨x,m,O,C⟩:=h r eg;obtain⟨z,Y,j,V⟩:=uJ (f:=f) J M hg Z l fun q U=>h q (en _ U)
  exact⟨x::z,by rw[eK,eK,m,Y],by rw[M,eK,wc];omega,Z _ _ C V⟩
def KY{l:List (qu×Nat)}{r:qu×Nat}(h:r∈l):r.2<=(l.map (·.2)).sum:=by
 induction l with
 |nil=>cases h
 |cons a l ih=>
  rw[eK,wc];rcases gH.1 h with rfl|h
  .omega
  .have:=ih h;omega
def Gy:∀(n:Nat) {Y:qu},Sh prog n 63 Y->∃e:Ex,Y=e.cells/\e.sz+1<=n/\dA e:=by
 intro n;induction n using Nat.strongRecOn with
 |ind n ih=>
  intro Y h;obtain⟨l,rfl,rfl,O,j⟩:=h.bC underlying63
  match l,O with
  |[br,r1,r2,r3,r4],_=>
   obtain⟨a,V,_,na⟩:=(j 0 _ _ rfl rfl).bW underlying3;obtain⟨b,U,M,nb⟩:=(j 1 _ _ rfl rfl).bW underlying2;obtain⟨c,J,nc⟩:=(j 2 _ _ rfl rfl).bQ underlying9;obtain⟨d,z,_,nd⟩:=(j 3 _ _ rfl rfl).bW underlying3;obtain⟨k,I,nk,C⟩:=(j 4 _ _ rfl rfl).bz underlying61;obtain⟨xs,e1,m,gg⟩:=uJ (f:=Ex.cells) (sz:=cy) (s1:=Ex.sz) (g:=dt) (g1:=dA) (by rw[cy]) (fun a l=>by rw[cy]) (by rw[dt];trivial) (fun _ _ m Z=>by rw[dt];exact⟨m,Z⟩) k fun r hr=>by
    have:=KY hr;exact ih r.2 KS (C r hr)
   refine⟨.mk a b c d xs,?_,?_,?_⟩
   .rw[j0];simp only[kF,jl,B5,V,U,J,z,I,e1];rfl
   .simp only[Ex.sz,kF,wc,B6];omega
   .rw[dA];exact⟨zhT M,gg⟩
def zhU(h:Sh prog n 61 Y):∃l:qI,Y=[.az (l.map Ex.cells)]/\cy l+1<=n/\dt l:=by
 obtain⟨k,rfl,rfl,z⟩:=h.bz underlying61;obtain⟨Z,V,m,U⟩:=uJ (f:=Ex.cells) (sz:=cy) (s1:=Ex.sz) (g:=dt) (g1:=dA) (by rw[cy]) (fun a l=>by rw[cy]) (by rw[dt];trivial) (fun _ _ m j=>by rw[dt];exact⟨m,j⟩) k fun r hr=>Gy _ (z r hr)
 exact⟨Z,by rw[V],ac,U⟩
def zhV:∀(n:Nat) {Y:qu},Sh prog n 96 Y->∃e:St,Y=e.cells/\e.sz+1<=n/\ey e:=by
 intro n;induction n using Nat.strongRecOn with
 |ind n ih=>
  intro Y h;obtain⟨l,rfl,rfl,O,j⟩:=h.bC underlying96
  match l,O with
  |[br,r1,r2,r3,r4,r5,r6,r7,r8],_=>
   obtain⟨a,V,_,na⟩:=(j 0 _ _ rfl rfl).bW underlying3;obtain⟨b,U,nb⟩:=(j 1 _ _ rfl rfl).bQ underlying9;obtain⟨c,M,nc⟩:=(j 2 _ _ rfl rfl).bQ underlying9;obtain⟨d,J,_,nd⟩:=(j 3 _ _ rfl rfl).bW underlying3;obtain⟨x,ex,nx,I⟩:=Gy _ (j 4 _ _ rfl rfl);obtain⟨y,C,ny,gy⟩:=Gy _ (j 5 _ _ rfl rfl);obtain⟨z,ez,nz,gz⟩:=zhU (j 6 _ _ rfl rfl);obtain⟨k,ek,nk,hk⟩:=(j 7 _ _ rfl rfl).bz underlying60;obtain⟨q,eq,nq,hq⟩:=(j 8 _ _ rfl rfl).bz underlying60;obtain⟨xs,e1,m,g1⟩:=uJ (f:=St.cells) (sz:=bi) (s1:=St.sz) (g:=cz) (g1:=ey) (by rw[bi]) (fun a l=>by rw[bi]) (by rw[cz];trivial) (fun _ _ m Z=>by rw[cz];exact⟨m,Z⟩) k fun r hr=>by
    have:=KY hr;exact ih r.2 KS (hk r hr)
   obtain⟨ys,e2,Z,g2⟩:=uJ (f:=St.cells) (sz:=bi) (s1:=St.sz) (g:=cz) (g1:=ey) (by rw[bi]) (fun a l=>by rw[bi]) (by rw[cz];trivial) (fun _ _ m Z=>by rw[cz];exact⟨m,Z⟩) q fun r hr=>by
    have:=KY hr;exact ih r.2 KS (hq r hr)
   refine⟨.mk a b c d x y z xs ys,?_,?_,?_⟩
   .rw[nX];simp only[kF,jl,B5,V,U,M,J,ex,C,ez,ek,eq,e1,e2,j0];rfl
   .simp only[St.sz,kF,wc,B6];omega
   .rw[ey];exact⟨I,gy,gz,g1,g2⟩
def Vf(h:Sh prog n 59 Y):∃l:qx,Y=[cH l]/\cP l+1<=n:=by
 obtain⟨k,rfl,rfl,z⟩:=h.bz underlying59;obtain⟨Z,m,V,_⟩:=uJ (f:=fun s:qA=>[AV.aj s]) (sz:=cP) (s1:=fun s=>s.length) (g:=fun _=>True) (g1:=fun _=>True) (by rw[cP]) (fun a l=>by rw[cP]) trivial (fun _ _ _ _=>trivial) k fun r hr=>by
  obtain⟨s,e,h⟩:=(z r hr).bQ underlying9;exact⟨s,e,ac,trivial⟩
 exact⟨Z,by rw[m],ac⟩
def zhW(h:Sh prog n 65 Y):∃f:Fu,Y=f.cells/\f.sz+1<=n/\cz f.body/\dA f.value:=by
 obtain⟨l,rfl,rfl,O,j⟩:=h.bC underlying65
 match l,O with
 |[br,r1,r2,r3,r4],_=>
  obtain⟨a,V,na⟩:=(j 0 _ _ rfl rfl).bQ underlying9;obtain⟨b,U,nb⟩:=Vf (j 1 _ _ rfl rfl);obtain⟨c,M,nc⟩:=Vf (j 2 _ _ rfl rfl);obtain⟨k,J,nk,z⟩:=(j 3 _ _ rfl rfl).bz underlying60;obtain⟨I,C,m,g1⟩:=uJ (f:=St.cells) (sz:=bi) (s1:=St.sz) (g:=cz) (g1:=ey) (by rw[bi]) (fun a l=>by rw[bi]) (by rw[cz];trivial) (fun _ _ m Z=>by rw[cz];exact⟨m,Z⟩) k fun r hr=>zhV _ (z r hr)
  obtain⟨x,ex,nx,gx⟩:=Gy _ (j 4 _ _ rfl rfl);refine⟨⟨a,b,c,I,x⟩,?_,?_,g1,gx⟩
  .rw[wO];simp only[kF,jl,B5,V,U,M,J,ex,C,j0];rfl
  .simp only[Fu.sz,kF,wc,B6];omega
def zhX(h:Sh prog n 86 Y):∃a:Ar,Y=a.cells/\a.name.length+1<=n:=by
 obtain⟨l,rfl,rfl,O,j⟩:=h.bC underlying86
 match l,O with
 |[br,r1],_=>
  obtain⟨a,Z,m⟩:=(j 0 _ _ rfl rfl).bQ underlying9;obtain⟨b,V,_,U⟩:=(j 1 _ _ rfl rfl).bW underlying3;refine⟨⟨a,b⟩,?_,?_⟩
  .rw[HW];simp only[kF,jl,B5,Z,V];rfl
  .simp only[kF,wc,B6];omega
def zhY(h:Sh prog n 49 Y):∃p:Pr,Y=p.cells/\p.sz<=n/\∀f∈p.funcs,cz f.body/\dA f.value:=by
 obtain⟨l,rfl,rfl,O,Z⟩:=h.bC underlying49
 match l,O with
 |[br,r1],_=>
  obtain⟨k,V,nk,z⟩:=(Z 0 _ _ rfl rfl).bz underlying24;obtain⟨q,U,nq,M⟩:=(Z 1 _ _ rfl rfl).bz underlying47;obtain⟨J,I,m,_⟩:=uJ (f:=Ar.cells) (sz:=eA) (s1:=fun a=>a.name.length) (g:=fun _=>True) (g1:=fun _=>True) (by rw[eA]) (fun a l=>by rw[eA]) trivial (fun _ _ _ _=>trivial) k fun r hr=>by
   obtain⟨x,m,j⟩:=zhX (z r hr);exact⟨x,m,j,trivial⟩
  obtain⟨C,e2,j,gg⟩:=uJ (f:=Fu.cells) (sz:=dO) (s1:=Fu.sz) (g:=fun l=>∀f∈l,cz f.body/\dA f.value) (g1:=fun f=>cz f.body/\dA f.value) (by rw[dO]) (fun a l=>by rw[dO]) (fun _ h=>by cases h) (fun a l m j=>AB.2 ⟨m,j⟩) q fun r hr=>zhW (M r hr)
  refine⟨⟨J,C⟩,?_,?_,gg⟩
  .rw[Dz];simp only[kF,jl,B5,V,U,I,e2];rfl
  .simp only[Pr.sz,kF,wc,B6];omega
def zhZ:List TypeId:=[49,24,86,47,65,59,9,3,2,60,96,61,63]
def zh0:Vc prog zhZ=true:=ax
set_option maxRecDepth 100000 in
def zh1{H:Type}{enc:TypeId×Value->H}{Y:Nat}(k0:Value.okWide prog W r Y 49 U){d:DataW H}{ps:List MemPlace}(M:DataW.Trod enc prog W 0 Z O 49 U d ps):∃p:Pr,VR ⟨fun _=>none,sy W,fun _=>0⟩ (.agg p.cells) U/\p.sz<=Rows.uptoBulk d/\∀f∈p.funcs,cz f.body/\dA f.value:=by
 obtain⟨V,j⟩:=M;obtain⟨I,n,m,J,C⟩:=KW zh0 (fun _=>0) V _ _ _ eg j;obtain⟨p,rfl,hp,hg⟩:=zhY J;refine⟨p,?_,dw hp C,hg⟩;obtain⟨cs,rfl,_⟩:=okWide_struct underlying49 k0;have:=VR.agg (G:=⟨fun _=>none,sy W,fun _=>0⟩) (cs:=p.cells) (vs:=cs.toList) m.1 m.2;rw[zW]at this;exact this
end Go.Proofs.YtpbcimfiofmoeaaGreat
