/- Parts: QaL, SpecT, Rg, SpecU, SpecX, SpecY, LwX. -/
import Derived.Test.YtpbcimfiofmoeaaGreatRCQ
set_option linter.unusedSimpArgs false
set_option linter.unusedVariables false
set_option linter.unusedSectionVars false
set_option linter.defProp false
set_option maxHeartbeats 32000000
namespace Go.Ab
set_option maxRecDepth 20000
open Go
theorem BX{P:Prop}(h:P:=by rw[hs.s];decide):P:=h
theorem jZ{P:Prop}(h:P:=by unfold zf0;omega):P:=h
theorem BY{P:Prop}(h:P:=by show zf0 (k:Int);unfold zf0;omega):P:=h
theorem wx{P:Prop}(h:P:=by simp only;omega):P:=h
theorem Nq{P:Prop}(h:P:=by rw[List.length_cons];simp only at r2 ⊢;omega):P:=h
end Go.Ab
namespace Go.Proofs.YtpbcimfiofmoeaaGreat
set_option maxRecDepth 20000
open Go Go.Ab
section
def tyQaL.tyF:=ad @eI (ad @dC (ad @eU (ad @ge (ad @en (ad @jO (ad @DB (ad @DC (ad @IB (ad @kO (ad @iw (ad @Tw (ad @iy (ad @hO (ad @gg (ad @fW (ad @r7 (ad @jP (ad @qO (ad @iz (ad @qP (ad @Np (@wm))))))))))))))))))))))
open tyQaL
noncomputable def BZ:{c:SC // aS 144 (Tryz.f28.body.getD .skip)=c}:=by
 refine⟨?_,?_⟩;rotate_left
 .simp only[Tryz.f28,cj,aS,zen,zel,zeu,zev,Nat.blt,Nat.ble];rfl
theorem cxQ{p:Pr}(hz:p.sz<2^34){f:Fu}(hf:f∈p.funcs)(b:Nat)(nv:AV):CxQ (Qx.mk p b nv (f.params++f.locals)) (oA p f) where
 ar:=rfl
 ns:=rfl
 fs:=rfl
 l1:=by
  have h1:=qR p.arrays;have h2:p.sz=1+zf2 p.arrays+iZ p.funcs:=rfl;show p.arrays.length<2^40;omega
 l2:=by
  have h1:=sg hf;have h2:p.sz=1+zf2 p.arrays+iZ p.funcs:=rfl;have hsz:f.sz=1+f.name.length+zfR f.params+zfR f.locals+zep f.body+f.value.sz:=rfl;have hpl:=zgm f.params;have hll:=zgm f.locals;show(f.params++f.locals).length<2^40;rw[eO];omega
 l3:=by
  have h1:=qQ p.funcs;have h2:p.sz=1+zf2 p.arrays+iZ p.funcs:=rfl;show p.funcs.length<2^40;omega
theorem bBq(p:Pr):zfy Tryz.prog 105 [(0,.agg p.cells)]=some (.agg [.lst (p.arrays.map Ar.cells),.lst (p.funcs.map Fu.cells),.nilS,.nilS,.nilS,.int .i64 0,.int .i64 0]):=aC
noncomputable def FX:En:=⟨32,true,cy (fun p=>p.sz<2^36) me fun p=>.int .i64 (zfY p)⟩
theorem zqV(ρ:Nat->Int):zeO Tryz.prog ρ FX:=zeV fun p hp=>ZP ρ p hp
structure Smw (n:Nat) (H H':Hp):Prop where
 get:∀k,2<=k->k<n->H'.get k=H.get k
set_option maxRecDepth 100000 in
theorem zqW{tb:List En}(hG:RefT tb)(hC:∀ar,zeN tb 32 ar=FX.sp ar)(hL:Plain (zdW pls tb) 28)(p:Pr){n:Nat}(hz:p.sz<2^34)(hok:zfY p=0->FS p n){u:Un}{e:Int}(h:sP p n=some (u,e)):
 zd5 Tryz.prog (zdW pls tb) 28 [.agg p.cells] zeo (fun v H'=>BO H' u e v):=by
 have hw:=hL;have hkeep:(zdW pls tb).keep 28=false:=rfl;have hchk:∀H,zd5 Tryz.prog (zdW pls tb) 32 [.agg p.cells] H fun v H'=>v=.int .i64 (zfY p)/\H'=H:=fun H=>zeJ (enc:=me) (ok:=fun p=>p.sz<2^36) (out:=fun p=>.int .i64 (zfY p)) x9 (x:=p) (hC _) ac;have hpz:p.sz=1+zf2 p.arrays+iZ p.funcs:=rfl;have hla:=qR p.arrays;have hlf:=qQ p.funcs;have bUn0:zfy Tryz.prog 27 []=some (.agg [.nilS,.nilS]):=aC;unfold sP at h;by_cases hc:zfY p=0
 .rw[aE hc]at h;have hok:=hok hc;obtain⟨av,Ha,aa,ra,na,qa⟩:=ztt ((zeo.alloc (.cells p.cells 0 true)).alloc (.cells [.nilS,.nilS] 0 true)) p.arrays ac;obtain⟨ha1,ha2⟩:=ra.one;have bUn:zfy Tryz.prog 27 [(0,av)]=some (.agg [av,.nilS]):=by
   rcases ra with⟨rfl,_⟩|⟨q,im,rows,rfl,_⟩<;>kernel_rfl
  have na3:3<=Ha.next:=na
  have q0:Ha.get 0=some (.cells p.cells 0 true):=by rw[qa 0 (by simp only[zea,zeB];omega)];simp[zd1,zea,zeB]
  have q1:Ha.get 1=some (.cells [.nilS,.nilS] 0 true):=by rw[qa 1 (by simp only[zea,zeB];omega)];simp[zd1,zea,zeB]
  have ra':ze4 (fun k=>2<=k/\k<Ha.next) 1 Ha 2 av (p.arrays.map Ar.cells):=ra.keep (fun k h1 h2=>⟨h2,h1⟩) (aM _) fun _ _ _=>rfl;have bA0:zfn Tryz.prog ((zeo.alloc (.cells p.cells 0 true)).alloc (.cells [.nilS,.nilS] 0 true)) 24 0 []=some (.sl 2 0 0 2,((zeo.alloc (.cells p.cells 0 true)).alloc (.cells [.nilS,.nilS] 0 true)).alloc (.cells [] 0 true)):=aC;refine zed (M:=144) (rs:=[.cell 2 27,.tmp 3]) (hw.call _) hw.ice hw.froz Tryz.func28 rfl rfl BZ.2 rfl ?_;dsimp only[BZ,zd8,Nat.reduceAdd];have aa':zeZ Tryz.prog false (((zeo.alloc (.cells p.cells 0 true)).alloc (.cells [.nilS,.nilS] 0 true)).alloc (.cells [] 0 true)) 24 24 (.sl 2 0 0 2) (.lst (p.arrays.map Ar.cells))=some (av,Ha):=aa;repeat' (first
   |(apply au ?_;clear hK K)|apply Ry.o ?_|apply cD ?_|(apply dq ?_;first|refine Rx.k (hchk _) ?_)|(apply aV (fun hb hbp=>?_) (fun hb hbp=>?_)<;>try(cases hb;done))|apply am ?_|(apply zdQ fun K hK=>?_)|(apply zdP 14 [(4,11),(6,11),(9,11),(10,11)] fun K hK=>?_)|(apply zdP 15 [(4,7),(4,9),(8,9)] fun K hK=>?_)|(apply zdP 19 [(4,11),(6,11),(9,11),(10,11)] fun K hK=>?_)|(apply zdP 20 [(4,6),(4,8),(7,8)] fun K hK=>?_)|(apply zdP 25 [(1,18),(3,18),(5,18),(6,18),(10,18),(15,18),(17,18)] fun K hK=>?_)|(apply zdU ?_;try intro _)|(apply zdV ?_ ?_<;>clear hK K)|apply aH ?_|apply zd9 rfl ?_|apply aA ?_|apply zdR ?_|apply aB ?_|apply zdT ?_)
  clear aa aa' qa ra na bA0;have gs:∀k,k<Ha.next->((Ha.alloc (.cells [.nilS,.nilS] 0 true)).set Ha.next (.cells [av,.nilS] 0 true)).get k=Ha.get k:=fun k hk=>pn
  have hfl:oB p n (p.funcs.drop 0) []=some (u,e):=h;refine zeL [1,2,5] [] 6 p.funcs.length (fun i E Hk=>∃gs fv,oB p n (p.funcs.drop i) gs=some (u,e)/\Hk.get 0=some (.cells p.cells 0 true)/\Hk.get 1=some (.cells [.nilS,.nilS] 0 true)/\Hk.get Ha.next=some (.cells [av,fv] 0 true)/\ze4 (fun k=>Ha.next<k) 3 Hk 5 fv (gs.map Gr.cells)/\Smw Ha.next Ha Hk/\gs.length=i) eE ⟨[],.nilS,hfl,by rw[gs _ ac];exact q0,by rw[gs _ ac];exact q1,ft,.inl ⟨rfl,rfl⟩,⟨fun k _ hk=>gs k hk⟩,rfl⟩ ?_;clear gs hfl h q0 q1;rintro i5 E5 Hk hk5 hcE hrH hnH hsI ⟨gs,fv,hJ,g0,g1,g7,rf,hsm,hgl⟩;(try simp only[zec,zeb,aX,zdX,zd2,Nat.reduceBEq,Nat.reduceAdd,Nat.reduceLeDiff,tyF, *]at hcE);(try simp only[zec,zeb,aX,zdX,zd2,Nat.reduceBEq,Nat.reduceAdd,Nat.reduceLeDiff,tyF, *]at hrH);(try simp only[zea,zef,zeB,bT,Nat.reduceAdd]at hnH);have nk:Ha.next+1<=Hk.next:=ac
  obtain⟨hf1,hf2⟩:=rf.one;by_cases hlt:i5<p.funcs.length
  .have hlt':(i5:Int)<p.funcs.length:=by omega
   have hgx:p.funcs[i5]?=some p.funcs[i5]:=br hlt;have hmem:=dX hlt;have hfsz:=sg hmem;have hcx:=fun b nv=>cxQ hz hmem b nv;rw[jl hlt]at hJ;unfold oB at hJ;obtain⟨s,v,e1,e2,hF⟩:=hok _ hmem;generalize p.funcs[i5]=f at *;have hfn:lS p n f=some ⟨f.name,f.params.length,v.2.l,v.1,v.2.state⟩:=by unfold lS;rw[e1];simp only[ee];rw[e2];rfl
   rw[hfn]at hJ;simp only[ee]at hJ;have hsz:f.sz=1+f.name.length+zfR f.params+zfR f.locals+zep f.body+f.value.sz:=rfl;have hpl:=zgm f.params;have hll:=zgm f.locals;have hFs:Fin s:=hF.le (zfx _ n _ _ _ e2).le;have hFst:Fin (kA f):=hFs.le ((ml _ n).2.1 _ _ _ e1).1;have hst:kA f=jW f.locals.length (iC f.params.length 0 { (zdS ⟨26,0,[]⟩ ⟨[],[],0,0⟩).2 with state:=(zdS ⟨26,0,[]⟩ ⟨[],[],0,0⟩).1}):=rfl;generalize hs0:({ (zdS ⟨26,0,[]⟩ ⟨[],[],0,0⟩).2 with state:=(zdS ⟨26,0,[]⟩ ⟨[],[],0,0⟩).1}:Bd)=s0 at *;have hv0:s0.vars.length=0:=by rw[<-hs0];rfl
   have hF1:Fin (iC f.params.length 0 s0):=by rw[hst]at hFst;exact hFst.le (yz _ _).1
   have hv1:(iC f.params.length 0 s0).vars.length=f.params.length:=by rw[(yy _ _ _).2,hv0];omega
   have hF0:Fin s0:=hF1.le (yy _ _ _).1;have hFe:Fin (zdS ⟨26,0,[]⟩ ⟨[],[],0,0⟩).2:=by rw[<-hs0]at hF0;exact⟨hF0.r,hF0.l,hF0.n⟩
   have hvst:(kA f).vars.length<2^36:=by rw[hst,(yz _ _).2,hv1];omega
   have nB:=bBq p;have g0m:∀b0 c0,((Hk.alloc b0).set Hk.next c0).get 0=some (.cells p.cells 0 true):=fun b0 c0=>by rw[bz,ah ac,zd1,ah ac];exact g0
   repeat' (first
    |(apply au ?_;clear hK K)|apply Ry.o ?_|apply cD ?_|(apply aV (fun hb hbp=>?_) (fun hb hbp=>?_)<;>try(cases hb;done))|apply am ?_|(apply zdQ fun K hK=>?_)|(apply zdP 14 [(4,11),(6,11),(9,11),(10,11)] fun K hK=>?_)|(apply zdP 15 [(4,7),(4,9),(8,9)] fun K hK=>?_)|(apply zdP 19 [(4,11),(6,11),(9,11),(10,11)] fun K hK=>?_)|(apply zdP 20 [(4,6),(4,8),(7,8)] fun K hK=>?_)|(apply zdP 25 [(1,18),(3,18),(5,18),(6,18),(10,18),(15,18),(17,18)] fun K hK=>?_)|(apply zdU ?_;try intro _)|(apply zdV ?_ ?_<;>clear hK K)|apply aH ?_|apply zd9 rfl ?_|apply aA ?_|apply zdR ?_|apply aB ?_|apply zdT ?_)
   refine bA rfl bE bF ?_;simp only[bB];generalize hHb:Hp.alloc (Hp.set (Hk.alloc _) _ (.cells f.cells 0 true)) _=Hb;have nb:Hb.next=Hk.next+2:=yj
   have old:∀k,k<Hk.next->Hb.get k=Hk.get k:=fun k hk=>by rw[<-hHb,zd1,ah FJ,bz,ah ac,zd1,ah ac]
   have gfb:Hb.get Hk.next=some (.cells f.cells 0 true):=by rw[<-hHb,zd1,ah FJ,bz,aE rfl]
   have gbb:Hb.get (Hk.next+1)=some (.cells [.lst (p.arrays.map Ar.cells),.lst (p.funcs.map Fu.cells),.nilS,.nilS,.nilS,.int .i64 0,.int .i64 0] 0 true):=by rw[<-hHb,zd1,aE ei]
   clear hHb g0m nB;have R1:RepQ (Qx.mk p (Hk.next+1) .nilS []) Hb (fun _=>False) ⟨[],[],0,0⟩ .nilS .nilS:=
    ⟨gbb,.inl ⟨rfl,rfl⟩,.inl ⟨rfl,rfl⟩,.inl ⟨rfl,rfl⟩,by show Hk.next+1<Hb.next;omega,fun _ h=>(rC h).elim,fun _ h=>h.elim,fun _ h=>(rC h).elim⟩
   have N1:FrM (Hk.next+1) Hb (fun _=>False) .nilS .nilS Hb:=⟨aM _,fun _ _ _=>rfl,fun _ h=>h.elim,fun _ h=>(rC h).elim,fun _ h=>(rC h).elim⟩;have gA:∀{S:Nat->Prop}{vv nv:AV}{H':Hp},FrM (Hk.next+1) Hb S vv nv H'->H'.get Hk.next=some (.cells f.cells 0 true):=fun h=>by
    rw[h.get _ ac ac];exact gfb
   refine bp ?_ (qs hG R1 26 0 hFe);rintro w H2 ⟨rfl,S2,lv2,R2,F2⟩;have m2:=R2.m;obtain⟨R3,F3⟩:=R2.setS (zdS ⟨26,0,[]⟩ ⟨[],[],0,0⟩).1;have N3:FrM (Hk.next+1) Hb S2 .nilS .nilS _:=uG (X:=Qx.mk p (Hk.next+1) .nilS []) N1 (F2.trans F3);have n2:Hb.next<=H2.next:=F2.next
   clear R1 R2 F2 F3 N1 gbb;have g3:=gA N3;dsimp only[zek]at m2 R3 N3 g3;dsimp only[zd4];repeat' (first
    |(apply au ?_;clear hK K)|apply Rx.o ?_|apply ba ?_|apply am ?_|(apply zdQ fun K hK=>?_)|(apply zdP 14 [(4,11),(6,11),(9,11),(10,11)] fun K hK=>?_)|(apply zdP 15 [(4,7),(4,9),(8,9)] fun K hK=>?_)|(apply zdP 19 [(4,11),(6,11),(9,11),(10,11)] fun K hK=>?_)|(apply zdP 20 [(4,6),(4,8),(7,8)] fun K hK=>?_)|(apply zdP 25 [(1,18),(3,18),(5,18),(6,18),(10,18),(15,18),(17,18)] fun K hK=>?_)|(apply zdU ?_;try intro _)|(apply zdV ?_ ?_<;>clear hK K)|apply aH ?_|apply zd9 rfl ?_|apply aA ?_|apply zdR ?_|apply aB ?_|apply zdT ?_)
   refine zeL [1,2,5,6,7,8] [] 9 f.params.length (fun i E Hi=>∃si Si lvi vvi nvi,iC (f.params.length-i) i si=iC f.params.length 0 s0/\si.vars.length=i/\RepQ (Qx.mk p (Hk.next+1) nvi (f.params.take i)) Hi Si si lvi vvi/\FrM (Hk.next+1) Hb Si vvi nvi Hi) eE ⟨s0,S2,lv2,.nilS,.nilS,rfl,hv0,by rw[Bh,<-hs0];exact R3,N3⟩ ?_;clear R3 N3 m2 g3;rintro i E Hi hi hcE hrH hnH hsI ⟨si,Si,lvi,vvi,nvi,hJ2,hvi,Ri,Ni⟩;(try simp only[zec,zeb,aX,zdX,zd2,Nat.reduceBEq,Nat.reduceAdd,Nat.reduceLeDiff,tyF, *]at hcE);(try simp only[zec,zeb,aX,zdX,zd2,Nat.reduceBEq,Nat.reduceAdd,Nat.reduceLeDiff,tyF, *]at hrH);(try simp only[zea,zef,zeB,bT,Nat.reduceAdd]at hnH);have ni:Hb.next<=Hi.next:=Ni.next
   have gi:=gA Ni;by_cases hlt2:i<f.params.length
   .have hlt2':(i:Int)<f.params.length:=by omega
    have hgx2:f.params[i]?=some f.params[i]:=br hlt2;obtain⟨k,hk⟩:∃k,f.params.length-i=k+1:=⟨f.params.length-i-1,ac⟩;have hk2:f.params.length-(i+1)=k:=ac;have hne:f.params.take (i+1)=f.params.take i++[f.params[i]]:=by rw[tu,hgx2];rfl
    have htl:(f.params.take i).length<2^36:=pQ;rw[hk]at hJ2;rw[hk2,hne];have hJ2:iC k (i+1) { (zdS ⟨2,i,[]⟩ si).2 with vars:=(zdS ⟨2,i,[]⟩ si).2.vars++[(zdS ⟨2,i,[]⟩ si).1] }=iC f.params.length 0 s0:=hJ2;have hFx:Fin (zdS ⟨2,i,[]⟩ si).2:=hF1.le (by rw[<-hJ2];exact((oC _).setV _).trans (yy _ _ _).1);generalize f.params[i]=nm at *;obtain⟨v4,H4,a4,ho1,ho2,m4,n4,q4,gn4,R5,own4⟩:=Ri.pushNm nm htl;have mi:=Ri.m;have mia:=(Ri.alloc (.cells [.str nm] 0 true)).m;have m5:=R5.m;have gia:(Hi.alloc (.cells [.str nm] 0 true)).get Hk.next=some (.cells f.cells 0 true):=by rw[zd1,ah ac];exact gi
    have g4:H4.get Hk.next=some (.cells f.cells 0 true):=by
     rw[q4 _ ac fun e=>by have:=Ni.nwn _ e;omega];exact gi
    have N5:FrM (Hk.next+1) Hb Si vvi v4 (H4.set (Hk.next+1) (.cells (zek (Qx.nx (Qx.mk p (Hk.next+1) nvi (f.params.take i)) v4 (f.params.take i++[nm])) si lvi vvi) 0 true)):=⟨dQ,fun k h1 h2=>by
     rw[bz,ah h2,q4 k ac fun e=>by have:=Ni.nwn _ e;omega];exact Ni.get k h1 h2,Ni.sub,Ni.own,fun k hk=>by
     rcases own4 k hk with e|e
     .exact Ni.nwn k e
     .omega⟩
    have g5:=gA N5;dsimp only[zek,Qx.nx]at mi mia m4 m5 R5 N5 g5 a4;clear Ri Ni own4 q4;repeat' (first
     |(apply au ?_;clear hK K)|apply Ry.o ?_|apply cD ?_|(apply aV (fun hb hbp=>?_) (fun hb hbp=>?_)<;>try(cases hb;done))|apply am ?_|(apply zdQ fun K hK=>?_)|(apply zdP 14 [(4,11),(6,11),(9,11),(10,11)] fun K hK=>?_)|(apply zdP 15 [(4,7),(4,9),(8,9)] fun K hK=>?_)|(apply zdP 19 [(4,11),(6,11),(9,11),(10,11)] fun K hK=>?_)|(apply zdP 20 [(4,6),(4,8),(7,8)] fun K hK=>?_)|(apply zdP 25 [(1,18),(3,18),(5,18),(6,18),(10,18),(15,18),(17,18)] fun K hK=>?_)|(apply zdU ?_;try intro _)|(apply zdV ?_ ?_<;>clear hK K)|apply aH ?_|apply zd9 rfl ?_|apply aA ?_|apply zdR ?_|apply aB ?_|apply zdT ?_)
    .exact eK
    .refine bA rfl bE bF ?_;simp only[bB];refine bp ?_ (qs (X:=Qx.mk p (Hk.next+1) v4 (f.params.take i++[nm])) hG R5 2 i hFx);generalize hpu:zdS ⟨2,i,[]⟩ si=pu at *;have hpv:pu.2.vars.length=i:=by rw[<-hpu];exact hvi
     rintro w H6 ⟨rfl,S6,lv6,R6,F6⟩;have m6:=R6.m;have n6:=F6.next
     obtain⟨v7,H7,a7,hv71,hv72,m7,n7,q7,R7,F7⟩:=R6.pushV pu.1 ac;have N6:FrM (Hk.next+1) Hb S6 vvi v4 H6:=uG (X:=Qx.mk p (Hk.next+1) v4 (f.params.take i++[nm])) N5 F6;have N7:FrM (Hk.next+1) Hb S6 v7 v4 _:=uG (X:=Qx.mk p (Hk.next+1) v4 (f.params.take i++[nm])) N6 F7;have m6a:=(R6.alloc (.cells [.int .i64 pu.1] 0 true)).m;simp only[zef]at n6;have n67:Hi.next<=H7.next:=ac
     have hlen7:(pu.2.vars++[pu.1]).length=i+1:=by rw[eO,hpv];rfl
     clear hpv hvi R6 F6 F7 hpu N6;dsimp only[zek]at m6 m7 m6a R7 N7;dsimp only[zd4];repeat' (first
      |(apply au ?_;clear hK K)|apply Rx.o ?_|apply ba ?_|apply am ?_|(apply zdQ fun K hK=>?_)|(apply zdP 14 [(4,11),(6,11),(9,11),(10,11)] fun K hK=>?_)|(apply zdP 15 [(4,7),(4,9),(8,9)] fun K hK=>?_)|(apply zdP 19 [(4,11),(6,11),(9,11),(10,11)] fun K hK=>?_)|(apply zdP 20 [(4,6),(4,8),(7,8)] fun K hK=>?_)|(apply zdP 25 [(1,18),(3,18),(5,18),(6,18),(10,18),(15,18),(17,18)] fun K hK=>?_)|(apply zdU ?_;try intro _)|(apply zdV ?_ ?_<;>clear hK K)|apply aH ?_|apply zd9 rfl ?_|apply aA ?_|apply zdR ?_|apply aB ?_|apply zdT ?_)
     .exact eK
     .refine⟨ac,zd7,zd7,eN,(by simp only[zdX,Nat.reduceBEq, *];exact zfQ (n:=f.params.length) ac ac),?_⟩;exact⟨_,S6,lv6,v7,v4,hJ2,hlen7,R7,N7⟩
   .have hlt2':¬(i:Int)<f.params.length:=by omega
    have hk:f.params.length-i=0:=ac;have hti:f.params.take i=f.params:=iq ac;rw[hk]at hJ2;rw[hti]at Ri;have hJ2:si=iC f.params.length 0 s0:=hJ2;rw[hJ2]at Ri;rw[<-hJ2]at hst;rw[hJ2]at hst;clear hk hti hJ2 hvi;repeat' (first
     |(apply au ?_;clear hK K)|apply Ry.o ?_|apply cD ?_|(apply aV (fun hb hbp=>?_) (fun hb hbp=>?_)<;>try(cases hb;done))|apply am ?_|(apply zdQ fun K hK=>?_)|(apply zdP 14 [(4,11),(6,11),(9,11),(10,11)] fun K hK=>?_)|(apply zdP 15 [(4,7),(4,9),(8,9)] fun K hK=>?_)|(apply zdP 19 [(4,11),(6,11),(9,11),(10,11)] fun K hK=>?_)|(apply zdP 20 [(4,6),(4,8),(7,8)] fun K hK=>?_)|(apply zdP 25 [(1,18),(3,18),(5,18),(6,18),(10,18),(15,18),(17,18)] fun K hK=>?_)|(apply zdU ?_;try intro _)|(apply zdV ?_ ?_<;>clear hK K)|apply aH ?_|apply zd9 rfl ?_|apply aA ?_|apply zdR ?_|apply aB ?_|apply zdT ?_)
    generalize hs1:iC f.params.length 0 s0=s1 at *;refine zeL [1,2,5,6,7,8] [] 10 f.locals.length (fun j E Hj=>∃sj Sj lvj vvj nvj,jW (f.locals.length-j) sj=jW f.locals.length s1/\sj.vars.length=f.params.length+j/\RepQ (Qx.mk p (Hk.next+1) nvj (f.params++f.locals.take j)) Hj Sj sj lvj vvj/\FrM (Hk.next+1) Hb Sj vvj nvj Hj) eE ⟨s1,Si,lvi,vvi,nvi,rfl,hv1,by rw[Bh,ll];exact Ri,Ni⟩ ?_;clear Ri Ni gi;rintro j E3 Hj hj hcE hrH hnH hsI ⟨sj,Sj,lvj,vvj,nvj,hJ2,hvj,Rj,Nj⟩;(try simp only[zec,zeb,aX,zdX,zd2,Nat.reduceBEq,Nat.reduceAdd,Nat.reduceLeDiff,tyF, *]at hcE);(try simp only[zec,zeb,aX,zdX,zd2,Nat.reduceBEq,Nat.reduceAdd,Nat.reduceLeDiff,tyF, *]at hrH);(try simp only[zea,zef,zeB,bT,Nat.reduceAdd]at hnH);have nj:Hb.next<=Hj.next:=Nj.next
    have gj:=gA Nj;by_cases hlt3:j<f.locals.length
    .have hlt3':(j:Int)<f.locals.length:=by omega
     have hgx2:f.locals[j]?=some f.locals[j]:=br hlt3;obtain⟨k,hk⟩:∃k,f.locals.length-j=k+1:=⟨f.locals.length-j-1,ac⟩;have hk2:f.locals.length-(j+1)=k:=ac;have hne:f.params++f.locals.take (j+1)=(f.params++f.locals.take j)++[f.locals[j]]:=by rw[tu,hgx2,kH];rfl
     have htl:(f.params++f.locals.take j).length<2^36:=by rw[eO,oK];omega
     rw[hk]at hJ2;rw[hk2,hne];have hJ2:jW k { (zdS ⟨1,0,[]⟩ sj).2 with vars:=(zdS ⟨1,0,[]⟩ sj).2.vars++[(zdS ⟨1,0,[]⟩ sj).1] }=jW f.locals.length s1:=hJ2;have hFx:Fin (zdS ⟨1,0,[]⟩ sj).2:=hFst.le (by rw[hst,<-hJ2];exact((oC _).setV _).trans (yz _ _).1);generalize f.locals[j]=nm at *;generalize hNs:f.params++f.locals.take j=Ns at *;obtain⟨v4,H4,a4,ho1,ho2,m4,n4,q4,gn4,R5,own4⟩:=Rj.pushNm nm htl;have mi:=Rj.m;have mia:=(Rj.alloc (.cells [.str nm] 0 true)).m;have m5:=R5.m;have gia:(Hj.alloc (.cells [.str nm] 0 true)).get Hk.next=some (.cells f.cells 0 true):=by rw[zd1,ah ac];exact gj
     have g4:H4.get Hk.next=some (.cells f.cells 0 true):=by
      rw[q4 _ ac fun e=>by have:=Nj.nwn _ e;omega];exact gj
     have N5:FrM (Hk.next+1) Hb Sj vvj v4 (H4.set (Hk.next+1) (.cells (zek (Qx.nx (Qx.mk p (Hk.next+1) nvj Ns) v4 (Ns++[nm])) sj lvj vvj) 0 true)):=⟨dQ,fun k h1 h2=>by
      rw[bz,ah h2,q4 k ac fun e=>by have:=Nj.nwn _ e;omega];exact Nj.get k h1 h2,Nj.sub,Nj.own,fun k hk=>by
      rcases own4 k hk with e|e
      .exact Nj.nwn k e
      .omega⟩
     have g5:=gA N5;dsimp only[zek,Qx.nx]at mi mia m4 m5 R5 N5 g5 a4;clear Rj Nj own4 q4 hNs hne;repeat' (first
      |(apply au ?_;clear hK K)|apply Ry.o ?_|apply cD ?_|(apply aV (fun hb hbp=>?_) (fun hb hbp=>?_)<;>try(cases hb;done))|apply am ?_|(apply zdQ fun K hK=>?_)|(apply zdP 14 [(4,11),(6,11),(9,11),(10,11)] fun K hK=>?_)|(apply zdP 15 [(4,7),(4,9),(8,9)] fun K hK=>?_)|(apply zdP 19 [(4,11),(6,11),(9,11),(10,11)] fun K hK=>?_)|(apply zdP 20 [(4,6),(4,8),(7,8)] fun K hK=>?_)|(apply zdP 25 [(1,18),(3,18),(5,18),(6,18),(10,18),(15,18),(17,18)] fun K hK=>?_)|(apply zdU ?_;try intro _)|(apply zdV ?_ ?_<;>clear hK K)|apply aH ?_|apply zd9 rfl ?_|apply aA ?_|apply zdR ?_|apply aB ?_|apply zdT ?_)
     .exact eK
     .refine bA rfl bE bF ?_;simp only[bB];refine bp ?_ (qs (X:=Qx.mk p (Hk.next+1) v4 (Ns++[nm])) hG R5 1 0 hFx);generalize hpu:zdS ⟨1,0,[]⟩ sj=pu at *;have hpv:pu.2.vars.length=f.params.length+j:=by rw[<-hpu];exact hvj
      rintro w H6 ⟨rfl,S6,lv6,R6,F6⟩;have m6:=R6.m;have n6:=F6.next
      obtain⟨v7,H7,a7,hv71,hv72,m7,n7,q7,R7,F7⟩:=R6.pushV pu.1 ac;have N6:FrM (Hk.next+1) Hb S6 vvj v4 H6:=uG (X:=Qx.mk p (Hk.next+1) v4 (Ns++[nm])) N5 F6;have N7:FrM (Hk.next+1) Hb S6 v7 v4 _:=uG (X:=Qx.mk p (Hk.next+1) v4 (Ns++[nm])) N6 F7;have m6a:=(R6.alloc (.cells [.int .i64 pu.1] 0 true)).m;simp only[zef]at n6;have n67:Hj.next<=H7.next:=ac
      have hlen7:(pu.2.vars++[pu.1]).length=f.params.length+(j+1):=by rw[eO,hpv];rfl
      clear hpv hvj R6 F6 F7 hpu N6;dsimp only[zek]at m6 m7 m6a R7 N7;dsimp only[zd4];repeat' (first
       |(apply au ?_;clear hK K)|apply Rx.o ?_|apply ba ?_|apply am ?_|(apply zdQ fun K hK=>?_)|(apply zdP 14 [(4,11),(6,11),(9,11),(10,11)] fun K hK=>?_)|(apply zdP 15 [(4,7),(4,9),(8,9)] fun K hK=>?_)|(apply zdP 19 [(4,11),(6,11),(9,11),(10,11)] fun K hK=>?_)|(apply zdP 20 [(4,6),(4,8),(7,8)] fun K hK=>?_)|(apply zdP 25 [(1,18),(3,18),(5,18),(6,18),(10,18),(15,18),(17,18)] fun K hK=>?_)|(apply zdU ?_;try intro _)|(apply zdV ?_ ?_<;>clear hK K)|apply aH ?_|apply zd9 rfl ?_|apply aA ?_|apply zdR ?_|apply aB ?_|apply zdT ?_)
      .exact eK
      .refine⟨ac,zd7,zd7,eN,(by simp only[zdX,Nat.reduceBEq, *];exact zfQ (n:=f.locals.length) ac ac),?_⟩;exact⟨_,S6,lv6,v7,v4,hJ2,hlen7,R7,N7⟩
    .have hlt3':¬(j:Int)<f.locals.length:=by omega
     have hk:f.locals.length-j=0:=ac;have htj:f.locals.take j=f.locals:=iq ac;rw[hk]at hJ2;rw[htj]at Rj;have hJ2:sj=jW f.locals.length s1:=hJ2;rw[hJ2,<-hst]at Rj;clear hk htj hJ2 hvj;have hX:=hcx (Hk.next+1) nvj;repeat' (first
      |(apply au ?_;clear hK K)|apply Ry.o ?_|apply cD ?_|(apply aV (fun hb hbp=>?_) (fun hb hbp=>?_)<;>try(cases hb;done))|apply am ?_|(apply zdQ fun K hK=>?_)|(apply zdP 14 [(4,11),(6,11),(9,11),(10,11)] fun K hK=>?_)|(apply zdP 15 [(4,7),(4,9),(8,9)] fun K hK=>?_)|(apply zdP 19 [(4,11),(6,11),(9,11),(10,11)] fun K hK=>?_)|(apply zdP 20 [(4,6),(4,8),(7,8)] fun K hK=>?_)|(apply zdP 25 [(1,18),(3,18),(5,18),(6,18),(10,18),(15,18),(17,18)] fun K hK=>?_)|(apply zdU ?_;try intro _)|(apply zdV ?_ ?_<;>clear hK K)|apply aH ?_|apply zd9 rfl ?_|apply aA ?_|apply zdR ?_|apply aB ?_|apply zdT ?_)
     refine bA rfl bE bF ?_;simp only[bB];refine bp ?_ (M9 (X:=Qx.mk p (Hk.next+1) nvj (f.params++f.locals)) hG hX (n+1) n (cL n) f.body (kA f) s e1 hFs ac hvst Rj);rintro w H6 ⟨S6,lv6,vv6,R6,F6⟩;have N6:FrM (Hk.next+1) Hb S6 vv6 nvj H6:=uG (X:=Qx.mk p (Hk.next+1) nvj (f.params++f.locals)) Nj F6;have g6:=gA N6;clear Rj Nj F6 gj;dsimp only[zd4];repeat' (first
      |(apply au ?_;clear hK K)|apply Rx.o ?_|apply ba ?_|apply am ?_|(apply zdQ fun K hK=>?_)|(apply zdP 14 [(4,11),(6,11),(9,11),(10,11)] fun K hK=>?_)|(apply zdP 15 [(4,7),(4,9),(8,9)] fun K hK=>?_)|(apply zdP 19 [(4,11),(6,11),(9,11),(10,11)] fun K hK=>?_)|(apply zdP 20 [(4,6),(4,8),(7,8)] fun K hK=>?_)|(apply zdP 25 [(1,18),(3,18),(5,18),(6,18),(10,18),(15,18),(17,18)] fun K hK=>?_)|(apply zdU ?_;try intro _)|(apply zdV ?_ ?_<;>clear hK K)|apply aH ?_|apply zd9 rfl ?_|apply aA ?_|apply zdR ?_|apply aB ?_|apply zdT ?_)
     refine bA rfl bE bF ?_;simp only[bB];refine bp ?_ (qt (X:=Qx.mk p (Hk.next+1) nvj (f.params++f.locals)) hG hX n f.value s v e2 hF R6);rintro w H7 ⟨rfl,S7,lv7,R7,F7⟩;have N7:FrM (Hk.next+1) Hb S7 vv6 nvj H7:=uG (X:=Qx.mk p (Hk.next+1) nvj (f.params++f.locals)) N6 F7;have gg7:=gA N7;have m7:=R7.m;have nd7:=R7.nodes;obtain⟨hl1,hl2⟩:=nd7.one;have n7:Hb.next<=H7.next:=N7.next
     have old7:∀k,k<Hk.next->H7.get k=Hk.get k:=fun k hk=>by rw[N7.get k ac ac,old k hk]
     have s7:=N7.sub;have hlen7:∀H',zeR Tryz.prog H' 22 lv7=some (.int .i64 v.2.l.length):=fun H'=>by
      have:=nd7.len (P:=Tryz.prog) (t:=22) (H':=H') Tryz.underlying22
      rwa [dy]at this
     dsimp only[zek]at m7;clear R6 R7 N6 N7 F7 g6 gA;dsimp only[zd4];by_cases hbig:(2000:Int)<v.2.l.length
     .rw[aE hbig]at hJ;simp only[di]at hJ;obtain⟨rfl,rfl⟩:=hJ;have g1a:H7.get 1=some (.cells [.nilS,.nilS] 0 true):=by rw[old7 1 ac];exact g1
      have ag0:ze6 2 [.nilS,.nilS]=some (.agg [.nilS,.nilS]):=rfl;repeat' (first
       |(apply au ?_;clear hK K)|apply Ry.o ?_|apply cD ?_|(apply aV (fun hb hbp=>?_) (fun hb hbp=>?_)<;>try(cases hb;done))|apply am ?_|(apply zdQ fun K hK=>?_)|(apply zdP 14 [(4,11),(6,11),(9,11),(10,11)] fun K hK=>?_)|(apply zdP 15 [(4,7),(4,9),(8,9)] fun K hK=>?_)|(apply zdP 19 [(4,11),(6,11),(9,11),(10,11)] fun K hK=>?_)|(apply zdP 20 [(4,6),(4,8),(7,8)] fun K hK=>?_)|(apply zdP 25 [(1,18),(3,18),(5,18),(6,18),(10,18),(15,18),(17,18)] fun K hK=>?_)|(apply zdU ?_;try intro _)|(apply zdV ?_ ?_<;>clear hK K)|apply aH ?_|apply zd9 rfl ?_|apply aA ?_|apply zdR ?_|apply aB ?_|apply zdT ?_)
      refine⟨zdZ,_,(by(try simp only[zdX,zd2,Nat.reduceBEq,Nat.reduceAdd,Nat.reduceLeDiff,tyF,zfD,zfI,ag0, *]);first|done|with_reducible rfl),?_⟩;try simp only[zdY]
      exact⟨_,fun _=>True,rfl,.cons .nilS (.cons .nilS .nil)⟩
     .rw[ah hbig]at hJ;have hone:([.str f.name,.int .i64 f.params.length,lv7,.int .i64 v.1,.int .i64 v.2.state]:List AV).all AV.one=true:=by simp only[sF,nT,hl1];rfl
      have bGr:zfy Tryz.prog 32 [(0,.str f.name),(1,.int .i64 f.params.length),(2,lv7),(3,.int .i64 v.1),(4,.int .i64 v.2.state)]=some (.agg [.str f.name,.int .i64 f.params.length,lv7,.int .i64 v.1,.int .i64 v.2.state]):=by
       rcases nd7 with⟨rfl,_⟩|⟨q,im,rows,rfl,_⟩<;>kernel_rfl
      have hbs:=fun H=>zbQ H (cs:=[.str f.name,.int .i64 f.params.length,lv7,.int .i64 v.1,.int .i64 v.2.state]) rfl hone;have g77:H7.get Ha.next=some (.cells [av,fv] 0 true):=by rw[old7 _ ac];exact g7
      have hfq:∀k o m z',fv=.sl k o m z'->k<Hk.next/\Ha.next<k:=fun k o m z' e=>by
       rcases rf with⟨h1,_⟩|⟨q,im,rows,h1,h2,h3,_⟩
       .rw[h1]at e;cases e
       .rw[h1]at e;simp only[AV.sl.injEq]at e;rw[<-e.1];exact⟨h3,h2⟩
      have keep8:∀k,k<H7.next->(H7.alloc (.cells [.str f.name,.int .i64 f.params.length,lv7,.int .i64 v.1,.int .i64 v.2.state] 0 true)).get k=H7.get k:=fun k hk=>ez
      obtain⟨H9,a9,r9,n9,q9⟩:=FI (P:=Tryz.prog) (t:=25) Tryz.underlying25 DD Iz IA rfl aC (S':=fun k=>Ha.next<k)
       (rf.keep (S':=fun k=>Ha.next<k) (H':=H7.alloc (.cells [.str f.name,.int .i64 f.params.length,lv7,.int .i64 v.1,.int .i64 v.2.state] 0 true)) (fun _ _ h=>h) fx fun k _ hk=>by rw[keep8 k ac,old7 k hk])
       (fun _ _ h=>h) fx (r:=H7.next) (imm:=0) (row:=[.str f.name,.int .i64 f.params.length,lv7,.int .i64 v.1,.int .i64 v.2.state]) (w:=(Gr.mk f.name f.params.length v.2.l v.1 v.2.state).cells) eR rfl hone
       (zbR f.name f.params.length v.1 v.2.state (nd7.keep (S':=fun k=>Ha.next<k/\∀o m z',fv≠.sl k o m z') (fun k h1 h2=>⟨by have:=s7 k h2;omega,fun o m z' e=>by have:=(hfq k o m z' e).1;have:=s7 k h2;omega⟩) fx fun k hk h2=>keep8 k h2))
       wj wj
      rw[dy]at a9 r9;simp only[zea]at a9 r9 n9 q9;have old9:∀k,k<Hk.next->(∀o m z',fv≠.sl k o m z')->H9.get k=Hk.get k:=fun k h1 h2=>by rw[q9 k ac h2,keep8 k ac,old7 k h1]
      have hlow:∀k,k<=Ha.next->∀o m z',fv≠.sl k o m z':=fun k hk o m z' e=>by have:=(hfq k o m z' e).2;omega
      have hhigh:∀k,Hk.next<=k->∀o m z',fv≠.sl k o m z':=fun k hk o m z' e=>by have:=(hfq k o m z' e).1;omega
      have g79:H9.get Ha.next=some (.cells [av,fv] 0 true):=by rw[old9 _ ac (hlow _ (aM _))];exact g7
      have gf9:H9.get Hk.next=some (.cells f.cells 0 true):=by rw[q9 _ ac (hhigh _ (aM _)),keep8 _ ac];exact gg7
      have m9:H9.get (Hk.next+1)=some (.cells [.lst (p.arrays.map Ar.cells),.lst (p.funcs.map Fu.cells),lv7,nvj,vv6,.int .i64 v.2.state,.int .i64 v.2.loops] 0 true):=by rw[q9 _ ac (hhigh _ ac),keep8 _ ac];exact m7
      have gf8:(H7.alloc (.cells [.str f.name,.int .i64 f.params.length,lv7,.int .i64 v.1,.int .i64 v.2.state] 0 true)).get Hk.next=some (.cells f.cells 0 true):=by rw[keep8 _ ac];exact gg7
      have m8:(H7.alloc (.cells [.str f.name,.int .i64 f.params.length,lv7,.int .i64 v.1,.int .i64 v.2.state] 0 true)).get (Hk.next+1)=some (.cells [.lst (p.arrays.map Ar.cells),.lst (p.funcs.map Fu.cells),lv7,nvj,vv6,.int .i64 v.2.state,.int .i64 v.2.loops] 0 true):=by rw[keep8 _ ac];exact m7
      have g78:(H7.alloc (.cells [.str f.name,.int .i64 f.params.length,lv7,.int .i64 v.1,.int .i64 v.2.state] 0 true)).get Ha.next=some (.cells [av,fv] 0 true):=by rw[keep8 _ ac];exact g77
      have hJ':oB p n (p.funcs.drop (i5+1)) (gs++[Gr.mk f.name f.params.length v.2.l v.1 v.2.state])=some (u,e):=hJ;have hmapg:(gs++[Gr.mk f.name f.params.length v.2.l v.1 v.2.state]).map Gr.cells=gs.map Gr.cells++[(Gr.mk f.name f.params.length v.2.l v.1 v.2.state).cells]:=aK;have old9':∀k,k<Ha.next->H9.get k=Hk.get k:=fun k hk=>old9 k ac (hlow k ac)
      clear keep8 old9 hlow hhigh hfq old7 q9 hJ nd7 old;repeat' (first
       |(apply au ?_;clear hK K)|apply Ry.o ?_|apply cD ?_|(apply aV (fun hb hbp=>?_) (fun hb hbp=>?_)<;>try(cases hb;done))|apply am ?_|(apply zdQ fun K hK=>?_)|(apply zdP 14 [(4,11),(6,11),(9,11),(10,11)] fun K hK=>?_)|(apply zdP 15 [(4,7),(4,9),(8,9)] fun K hK=>?_)|(apply zdP 19 [(4,11),(6,11),(9,11),(10,11)] fun K hK=>?_)|(apply zdP 20 [(4,6),(4,8),(7,8)] fun K hK=>?_)|(apply zdP 25 [(1,18),(3,18),(5,18),(6,18),(10,18),(15,18),(17,18)] fun K hK=>?_)|(apply zdU ?_;try intro _)|(apply zdV ?_ ?_<;>clear hK K)|apply aH ?_|apply zd9 rfl ?_|apply aA ?_|apply zdR ?_|apply aB ?_|apply zdT ?_)
      .exact eK
      .refine⟨ac,zd7,zd7,eN,tW,?_⟩;have hs9:∀m k,k≠Ha.next->(H9.set Ha.next m).get k=H9.get k:=fun m k hk=>jg
       refine⟨gs++[Gr.mk f.name f.params.length v.2.l v.1 v.2.state],.sl (H7.next+1) 0 (gs.length+1) 5,hJ',by rw[hs9 _ _ ac,old9' _ ac];exact g0,by rw[hs9 _ _ ac,old9' _ ac];exact g1,by rw[bz,aE rfl,hgl],?_,⟨fun k h1 h2=>by rw[hs9 _ _ ac,old9' _ ac];exact hsm.get k h1 h2⟩,by rw[eO,hgl];rfl⟩;rw[hmapg];exact r9.keep (fun _ _ h=>h) (aM _) fun k hk _=>hs9 _ k ac
  .have hlt':¬(i5:Int)<p.funcs.length:=by omega
   have hd:p.funcs.drop i5=[]:=rE ac;rw[hd]at hJ;simp only[oB,di]at hJ;obtain⟨rfl,rfl⟩:=hJ;have ag:ze6 2 [av,fv]=some (.agg [av,fv]):=rfl;have rd1:=ra'.keep (S':=fun _=>True) (H':=Hk.set 1 (.cells [av,fv] 0 true)) (fun _ _ _=>trivial) dQ fun k hk _=>by rw[bz,ah ac];exact hsm.get k hk.1 hk.2
   have rd2:=rf.keep (S':=fun _=>True) (H':=Hk.set 1 (.cells [av,fv] 0 true)) (fun _ _ _=>trivial) dQ fun k hk _=>iA;have fin:BO (Hk.set 1 (.cells [av,fv] 0 true)) ⟨p.arrays,gs⟩ 0 (.tup [.agg [av,fv],.int .i64 0]):=⟨_,fun _=>True,rfl,.cons (rd1.rd.up ac) (.cons (rd2.rd.up ac) .nil)⟩;clear rd1 rd2;repeat' (first
    |(apply au ?_;clear hK K)|apply Ry.o ?_|apply cD ?_|(apply aV (fun hb hbp=>?_) (fun hb hbp=>?_)<;>try(cases hb;done))|apply am ?_|(apply zdQ fun K hK=>?_)|(apply zdP 14 [(4,11),(6,11),(9,11),(10,11)] fun K hK=>?_)|(apply zdP 15 [(4,7),(4,9),(8,9)] fun K hK=>?_)|(apply zdP 19 [(4,11),(6,11),(9,11),(10,11)] fun K hK=>?_)|(apply zdP 20 [(4,6),(4,8),(7,8)] fun K hK=>?_)|(apply zdP 25 [(1,18),(3,18),(5,18),(6,18),(10,18),(15,18),(17,18)] fun K hK=>?_)|(apply zdU ?_;try intro _)|(apply zdV ?_ ?_<;>clear hK K)|apply aH ?_|apply zd9 rfl ?_|apply aA ?_|apply zdR ?_|apply aB ?_|apply zdT ?_)
   refine⟨zdZ,_,(by(try simp only[zdX,zd2,Nat.reduceBEq,Nat.reduceAdd,Nat.reduceLeDiff,tyF,zfD,zfI,ag, *]);first|done|with_reducible rfl),?_⟩;try simp only[zdY]
   exact fin
 .rw[ah hc,aQ,gZ]at h;obtain⟨rfl,rfl⟩:=h;refine zed (M:=144) (rs:=[.cell 2 27,.tmp 3]) (hw.call _) hw.ice hw.froz Tryz.func28 rfl rfl BZ.2 rfl ?_;dsimp only[BZ,zd8,Nat.reduceAdd];repeat' (first
   |(apply au ?_;clear hK K)|apply Ry.o ?_|apply cD ?_|(apply dq ?_;first|refine Rx.k (hchk _) ?_)|(apply aV (fun hb hbp=>?_) (fun hb hbp=>?_)<;>try(cases hb;done))|apply am ?_|(apply zdQ fun K hK=>?_)|(apply zdP 14 [(4,11),(6,11),(9,11),(10,11)] fun K hK=>?_)|(apply zdP 15 [(4,7),(4,9),(8,9)] fun K hK=>?_)|(apply zdP 19 [(4,11),(6,11),(9,11),(10,11)] fun K hK=>?_)|(apply zdP 20 [(4,6),(4,8),(7,8)] fun K hK=>?_)|(apply zdP 25 [(1,18),(3,18),(5,18),(6,18),(10,18),(15,18),(17,18)] fun K hK=>?_)|(apply zdU ?_;try intro _)|(apply zdV ?_ ?_<;>clear hK K)|apply aH ?_|apply zd9 rfl ?_|apply aA ?_|apply zdR ?_|apply aB ?_|apply zdT ?_)
  have ag0:ze6 2 [.nilS,.nilS]=some (.agg [.nilS,.nilS]):=rfl;refine⟨zdZ,_,(by(try simp only[zdX,zd2,Nat.reduceBEq,Nat.reduceAdd,Nat.reduceLeDiff,tyF,zfD,zfI,ag0, *]);first|done|with_reducible rfl),?_⟩;try simp only[zdY]
  exact⟨_,fun _=>True,rfl,.cons .nilS (.cons .nilS .nil)⟩
theorem Nr{f:FuncId}:∀{tb:List En},(∀e∈tb,Nat.beq e.f f=false)->(∀ar,zeN tb f ar=none)/\jx tb f=false
 |[],_=>⟨fun _=>rfl,rfl⟩
 |e::l,hne=>by
  obtain⟨i1,i2⟩:=Nr (tb:=l) fun x hx=>hne x (gF _ hx)
  have he:=hne e fm;exact⟨fun ar=>by simp only[zeN,he];exact i1 ar,by simp only[jx,qV]at i2⊢;simp only[he,nU,tE];exact i2⟩
theorem RefT.of{tb:List En}(h:∀e∈tb,FT e.f=false)(hs:∀ar,zeN tb 67 ar=(nW BP).sp ar)(hi:jx tb 67=true)(hf:∀ar,zeN tb 108 ar=vR.sp ar):RefT tb where
 pl f hf2:=Nr fun e he=>by
  cases hb:Nat.beq e.f f with
  |false=>rfl
  |true=>rw[<-iV hb,h e he]at hf2;cases hf2
 sn:=hs
 sni:=hi
 ff:=hf
noncomputable def yE:List En:=[FX,nW BP,vR]
theorem zxu(ρ:Nat->Int):fH Tryz.prog ρ yE:=⟨zqV ρ,xQ (zto ρ),ET ρ,trivial⟩
theorem zty:RefT yE:=RefT.of (fun e he=>by
 simp only[yE,jC]at he;rcases he with rfl|rfl|rfl<;>rfl) (fun _=>rfl) rfl (fun _=>rfl)
theorem zoD(ρ:Nat->Int)(p:Pr){n:Nat}(hz:p.sz<2^34)(hok:zfY p=0->FS p n){u:Un}{e:Int}(h:sP p n=some (u,e)):bV Tryz.prog ρ 28 (me p) (.tup [.agg u.cells,.int .i64 e]):=
 Bm (n:=60) (cfg:=zdW pls yE) fit (ly ρ) (fun g ar r hg=>fH.look (l:=yE) (zxu ρ) g ar r hg) (.cons (.agg p.pure) .nil) (bp (fun v H' h=>h.wk) (zqW zty (fun _=>rfl) (zfv (fun _=>rfl) rfl) p hz hok h))
end
section
def iI(l:List Nd)(n:Nd):Int:=match zfo l.length (zew l l.length) n.kids with
 |none=>0
 |some s=>if zem n.op s&&zez l n then zeT n s else 0
theorem ztz{op:Int}{s:List Int}(h:zem op s=true)(e:op=25):s.length=1:=by
 subst e;unfold zem at h;have:bH 25=(1,true):=aY;rw[this]at h;simp only[oL,bU]at h;split at h
 .cases h
 .omega
theorem Nt(l:List Nd)(n:Nd):zeY (l++[n]) l.length=iI l n:=by
 rw[xS aK];have ht:(l++[n]).take l.length=l:=List.take_left;have hs:zew (l++[n]) l.length=zew l l.length:=by
  have:=D8 (l:=l++[n]) (m:=l.length) (i:=l.length) (aM _);rw[ht]at this;exact this.symm
 have hn:(l++[n])[l.length]?=some n:=by rw[mB (aM _),qJ];rfl
 unfold zfJ iI;rw[hs,hn];simp only;cases hk:zfo l.length (zew l l.length) n.kids with
 |none=>rfl
 |some s=>
  simp only;by_cases c:zem n.op s=true
  .have e:zez l n=zez (l++[n]) n:=by
    have:=JD (l:=l++[n]) (m:=l.length) (n:=n) fun h25=>by
     have hl:=su hk;have h1:=ztz c h25;cases hq:n.kids with
     |nil=>rw[hq,h1]at hl;simp at hl
     |cons k ks=>
      refine⟨k,ks,rfl,?_⟩;have:=ss hk k (by rw[hq];exact fm);omega
    rw[ht]at this;exact this
   rw[e]
  .have c':zem n.op s=false:=by simpa using c
   rw[c',nU,nU]
theorem Nu{l:List Nd}:∀{ks:List Int},(∀k∈ks,0<=k/\k<l.length/\zeY l k≠0)->zfo l.length (zew l l.length) ks=some (ks.map (zeY l))
 |[],_=>rfl
 |k::ks,h=>by
  obtain⟨h1,h2,h3⟩:=h k fm;obtain⟨k,rfl⟩:=gG h1;have e:=t0 (l:=l) (i:=l.length) (j:=k) ac (aM _);rw[zfo,gH,e,ah ac,Nu fun q hq=>h q (gF _ hq)];rfl
theorem lT{l:List Nd}{n:Nd}(h:∀k∈n.kids,0<=k/\k<l.length/\zeY l k≠0):iI l n=if zem n.op (n.kids.map (zeY l))&&zez l n then zeT n (n.kids.map (zeY l))else 0:=by
 unfold iI;rw[Nu h]
structure IsT (l:List Nd) (t:Int) (k:Int):Prop where
 lo:0<=k
 hi:k<l.length
 s:zeY l k=t
theorem IsT.le{l l':List Nd}{t k:Int}(h:IsT l t k)(hl:l<+:l'):IsT l' t k:=by
 obtain⟨m,rfl⟩:=hl;obtain⟨h1,h2,h3⟩:=h;obtain⟨k,rfl⟩:=gG h1;exact⟨h1,by rw[eO];omega,by rw[Au ac];exact h3⟩
section
variable {l:List Nd}
theorem zqX(n:Int):iI l ⟨1,n,[]⟩=1:=by
 rw[lT aK];simp[zem,bH,zeW,zeH,zez,zeT]
theorem zqY{n:Int}(h0:0<=n)(h1:n<=5):iI l ⟨2,n,[]⟩=1:=by
 rw[lT aK];simp[zem,bH,zeW,zeH,zez,ze3,zeT,h0,h1]
theorem Nv{n:Int}(h0:0<=n)(h1:n<=255):iI l ⟨3,n,[]⟩=if n.tmod 16=0 then 2 else 1:=by
 rw[lT aK];simp[zem,bH,zeW,zeH,zez,ze3,zeT,h0,h1]
theorem zqZ:iI l ⟨26,0,[]⟩=2:=by
 rw[lT aK];simp[zem,bH,zeW,zeH,zez,ze3,zeT]
theorem zxv{op a b:Int}(ha:IsT l 1 a)(hb:IsT l 1 b)(h0:4<=op)(h1:op<=19):iI l ⟨op,0,[a,b]⟩=1:=by
 have q:∀k:Int,(k<4\/19<k)->¬op=k:=fun k hk e=>ac;have har:bH op=(2,true):=by
  unfold bH;rw[ah ac,ah ac,ah ac,ah ac,ah ac,aE ⟨h0,h1⟩]
 rw[lT (fun k hk=>by
  simp only[jC]at hk;rcases hk with rfl|rfl
  .exact⟨ha.lo,ha.hi,by rw[ha.s];decide⟩
  .exact⟨hb.lo,hb.hi,by rw[hb.s];decide⟩)]
 simp only[eF,kP,ha.s,hb.s];have v:zem op [1,1]=true:=by
  unfold zem;rw[har,ah aK,ah aK,ah (q 31 ac),ah (q 30 ac),ah (fun h=>q 22 ac h.1)];unfold zeW;rw[ah (q 22 ac),ah (by have:=q 23 ac;have:=q 27 ac;have:=q 29 ac;omega),ah (q 28 ac),ah (q 24 ac),ah (q 25 ac)];rfl
 have i:zez l ⟨op,0,[a,b]⟩=true:=by
  unfold zez ze3;simp only[];rw[ah (q 1 ac),ah (q 27 ac),ah (q 2 ac),ah (q 3 ac),ah (by have:=q 23 ac;have:=q 28 ac;omega),ah (q 30 ac),ah (q 31 ac),ah (q 25 ac)];rfl
 rw[v,i];simp only[xh,bN];unfold zeT;simp only[];rw[ah (q 31 ac),ah ac,ah (q 22 ac),ah (fun h=>q 3 ac h.1),ah (fun h=>q 25 ac h.1)]
theorem zcF{op a:Int}(ha:IsT l 1 a)(h0:op=20\/op=21):iI l ⟨op,0,[a]⟩=1:=by
 rw[lT (fun k hk=>by
  simp only[jC]at hk;subst hk;exact⟨ha.lo,ha.hi,by rw[ha.s];decide⟩)]
 simp only[eF,kP,ha.s];rcases h0 with rfl|rfl<;>simp[zem,bH,zeW,zeH,zez,ze3,zeT]
theorem zxw{t c a b:Int}(hc:IsT l 1 c)(ha:IsT l t a)(hb:IsT l t b)(ht:t=1\/t=2):iI l ⟨22,0,[c,a,b]⟩=t:=by
 rw[lT (fun k hk=>by
  simp only[jC]at hk;rcases hk with rfl|rfl|rfl
  .exact⟨hc.lo,hc.hi,by rw[hc.s];decide⟩
  .exact⟨ha.lo,ha.hi,by rw[ha.s];omega⟩
  .exact⟨hb.lo,hb.hi,by rw[hb.s];omega⟩)]
 simp only[eF,kP,ha.s,hb.s,hc.s];rcases ht with rfl|rfl<;>simp[zem,bH,zeW,zeH,zez,ze3,zeT]
theorem FY{x y a b:Int}(hx:x≠0)(hy:y≠0)(ha:IsT l x a)(hb:IsT l y b):∀k∈[a,b],0<=k/\k<l.length/\zeY l k≠0:=fun k hk=>by
 simp only[jC]at hk;rcases hk with rfl|rfl
 .exact⟨ha.lo,ha.hi,by rw[ha.s];exact hx⟩
 .exact⟨hb.lo,hb.hi,by rw[hb.s];exact hy⟩
theorem ztB{n s a:Int}(hs:IsT l 2 s)(ha:IsT l 1 a)(h0:0<=n)(h1:n<=3):iI l ⟨23,n,[s,a]⟩=1:=by
 rw[lT (FY aY aY hs ha)];simp[hs.s,ha.s,zem,bH,zeW,zeH,zez,ze3,zeT,h0,h1]
theorem zq0{n s a:Int}(hs:IsT l 2 s)(ha:IsT l 1 a)(h0:1<=n)(h1:n<=1000016):iI l ⟨27,n,[s,a]⟩=2:=by
 rw[lT (FY aY aY hs ha)];simp[hs.s,ha.s,zem,bH,zeW,zeH,zez,ze3,zeT,h0,h1]
theorem zxx{s a:Int}(hs:IsT l 2 s)(ha:IsT l 1 a):iI l ⟨29,0,[s,a]⟩=2:=by
 rw[lT (FY aY aY hs ha)];simp[hs.s,ha.s,zem,bH,zeW,zeH,zez,ze3,zeT]
theorem zq1{n s a b:Int}(hs:IsT l 2 s)(ha:IsT l 1 a)(hb:IsT l 1 b)(h0:0<=n)(h1:n<=3):iI l ⟨28,n,[s,a,b]⟩=2:=by
 rw[lT (fun k hk=>by
  simp only[jC]at hk;rcases hk with rfl|rfl|rfl
  .exact⟨hs.lo,hs.hi,BX⟩
  .exact⟨ha.lo,ha.hi,by rw[ha.s];decide⟩
  .exact⟨hb.lo,hb.hi,by rw[hb.s];decide⟩)]
 simp[hs.s,ha.s,hb.s,zem,bH,zeW,zeH,zez,ze3,zeT,h0,h1]
theorem zcL{s:Int}(hs:IsT l 2 s):iI l ⟨24,0,[s]⟩=1:=by
 rw[lT (fun k hk=>by
  simp only[jC]at hk;subst hk;exact⟨hs.lo,hs.hi,BX⟩)]
 simp[hs.s,zem,bH,zeW,zeH,zez,ze3,zeT]
theorem B0:∀{av:List Int},(∀a∈av,IsT l 1 a)->av.map (zeY l)=List.replicate av.length 1
 |[],_=>rfl
 |a::av,h=>by
  rw[eF,(h a fm).s,B0 fun x hx=>h x (gF _ hx)];rfl
theorem ztC{n s:Int}{av:List Int}(hs:IsT l 2 s)(ha:∀a∈av,IsT l 1 a)(hl:av.length<=6)(h0:0<=n)(h1:n<=7):iI l ⟨30,n,s::av⟩=2:=by
 rw[lT (fun k hk=>by
  rcases iu.1 hk with rfl|hk
  .exact⟨hs.lo,hs.hi,BX⟩
  .exact⟨(ha k hk).lo,(ha k hk).hi,by rw[(ha k hk).s];decide⟩)]
 simp only[eF,hs.s,B0 ha];have v:zem 30 (2::List.replicate av.length 1)=true:=by
  have a:bH 30=(-1,true):=aY;unfold zem;rw[a];simp only[oL,bU];rw[ah ac,ah ac,aE trivial];simp only[fj,qX,tX,List.tail_cons,cJ,jt];refine⟨⟨⟨ac,ac⟩,trivial⟩,?_⟩;rw[jL];intro x hx;rw[Al hx];rfl
 have i:zez l ⟨30,n,s::av⟩=true:=by simp[zez,ze3,h0,h1]
 rw[v,i];simp[zeT]
theorem ztD{n s d st:Int}{av bs:List Int}(hs:IsT l 2 s)(ha:∀a∈av,IsT l 1 a)(hd:IsT l 1 d)(hst:IsT l 2 st)(hb:∀a∈bs,IsT l 1 a)(hl:av.length=bs.length)(hl2:av.length<=15)(h0:0<=n)(h1:n<=15):iI l ⟨31,n,s::av++[d,st]++bs⟩=3:=by
 rw[lT (fun k hk=>by
  simp only[mI,jC]at hk;rcases hk with((rfl|hk)|rfl|rfl)|hk
  .exact⟨hs.lo,hs.hi,BX⟩
  .exact⟨(ha k hk).lo,(ha k hk).hi,by rw[(ha k hk).s];decide⟩
  .exact⟨hd.lo,hd.hi,by rw[hd.s];decide⟩
  .exact⟨hst.lo,hst.hi,by rw[hst.s];decide⟩
  .exact⟨(hb k hk).lo,(hb k hk).hi,by rw[(hb k hk).s];decide⟩)]
 have hm:(s::av++[d,st]++bs).map (zeY l)=2::(List.replicate av.length 1++1::2::List.replicate av.length 1):=by
  simp only[pU,eF,kP,hs.s,hd.s,hst.s,B0 ha,B0 hb,hl];simp
 simp only[];rw[hm];generalize hn:av.length=m at *;have hlen:(2::(List.replicate m (1:Int)++1::2::List.replicate m 1)).length=2*m+3:=cT;have v:zem 31 (2::(List.replicate m 1++1::2::List.replicate m 1))=true:=by
  have a:bH 31=(-1,true):=aY;unfold zem;rw[a];simp only[oL,bU];rw[ah ac,aE trivial];have hml:=JJ (2::(List.replicate m (1:Int)++1::2::List.replicate m 1)) ac ac;have e1:(2*m+3)/2=m+1:=ac;rw[hlen]at hml⊢;rw[hml,e1];have hones:∀k,zeF (List.replicate k (1:Int))=true:=fun k=>by
   rw[zeF,jL];intro x hx;rw[Al hx];rfl
  have h1:((2::(List.replicate m (1:Int)++1::2::List.replicate m 1)).drop 1).take (m+1)=List.replicate (m+1) 1:=by
   rw[DU,gD,List.take_append,qX,iq aK,show m+1-m=1 by omega];rw[List.replicate_succ'];rfl
  have h2:(2::(List.replicate m (1:Int)++1::2::List.replicate m 1)).getD (m+1+1) 0=2:=by
   rw[List.getD_cons_succ,dM,mB aK,qX,show m+1-m=1 by omega];rfl
  have h3:(2::(List.replicate m (1:Int)++1::2::List.replicate m 1)).drop (m+1+2)=List.replicate m 1:=by
   rw[DU,List.drop_append,qX,ze aK,nH,show m+1+1-m=2 by omega];rfl
  rw[h1,h2,h3,hones,hones];have e4:hT (((2*m+3:Nat):Nat):Int)<=16:=DT;simp only[tX,cJ,jt];refine⟨⟨⟨ac,ac⟩,e4⟩,⟨⟨⟨trivial,trivial⟩,trivial⟩,trivial⟩⟩
 have i:zez l ⟨31,n,s::av++[d,st]++bs⟩=true:=by simp[zez,ze3,h0,h1]
 rw[v,i];simp[zeT]
theorem Nw{n k:Int}{q:Nd}(hk:IsT l 3 k)(hq:l[k.toNat]?=some q)(h0:0<=n)(h1:n<hT q.kids.length):iI l ⟨25,n,[k]⟩=if n=0 then 2 else 1:=by
 rw[lT (fun j hj=>by
  simp only[jC]at hj;subst hj;exact⟨hk.lo,hk.hi,by rw[hk.s];decide⟩)]
 have i:zez l ⟨25,n,[k]⟩=true:=by
  have:kR l k=q.kids.length:=by rw[kR,hq]
  simp[zez,ze3,this,h0];omega
 simp only[eF,kP,hk.s];rw[i];by_cases c:n=0<;>simp[zem,bH,zeW,zeH,zeT,c]
end
def zgJ(l:List Nd):Prop:=∀i:Nat,i<l.length->zeY l i≠0
theorem Nx{l:List Nd}{i:Nat}(hi:i<=l.length):∀{ks s:List Int},zfo i (zew l i) ks=some s->zfo l.length (zew l l.length) ks=some s
 |[],s,h=>by cases h;rfl
 |k::ks,s,h=>by
  rw[zfo]at h;split at h
  .cases h
  .rename_i c;obtain⟨t,ht,rfl⟩:=mD.1 h;obtain⟨k,rfl⟩:=gG (by omega:0<=k);rw[gH]at c;have e1:=t0 (l:=l) (i:=i) (j:=k) ac hi;have e2:=t0 (l:=l) (i:=l.length) (j:=k) ac (aM _);rw[zfo,gH,e2,ah (by rw[e1]at c;omega),Nx hi ht];simp only[qK,gH,e1]
theorem ztF{l:List Nd}{i:Nat}{n:Nd}(hn:l[i]?=some n)(h:zeY l i≠0):zeY l i=iI l n:=by
 have hi:i<l.length:=by
  by_cases c:i<l.length
  .exact c
  .rw[iY ac]at hn;cases hn
 rw[xS hi]at h⊢;unfold zfJ at h⊢;unfold iI;rw[hn]at h⊢;simp only at h⊢;cases hk:zfo i (zew l i) n.kids with
 |none=>rw[hk]at h;exact absurd rfl h
 |some s=>rw[Nx ac hk]
theorem Ny{l:List Nd}{n:Nd}{t:Int}(hw:zgJ l)(h:iI l n=t)(ht:t≠0):IsT (iB l n) t (fP l n)/\zgJ (iB l n):=by
 unfold iB;split
 .rename_i c;have hg:=Mm c;refine⟨⟨ac,ac,?_⟩,hw⟩;rw[ztF hg (hw _ c)];exact h
 .rename_i c;have:=Bz l n;have e:fP l n=l.length:=ac;rw[e];refine⟨⟨ac,by rw[eO];simp;omega,?_⟩,fun i hi=>?_⟩
  .rw[Nt];exact h
  .rw[eO,A0]at hi;by_cases q:i<l.length
   .rw[Au q];exact hw i q
   .obtain rfl:i=l.length:=by omega
    rw[Nt,h];exact ht
def zf0(n:Int):Prop:=-9223372036854775808<=n/\n<9223372036854775808
mutual
def iK:Ex->Prop
 | .mk _ n _ _ ks=>zf0 n/\gV ks
def gV:List Ex->Prop
 |[]=>True
 |e::es=>iK e/\gV es
end
theorem Nz(x:Ex):iK x↔zf0 x.n/\gV x.kids:=by cases x;rw[iK];rfl
mutual
def mw:St->Prop
 | .mk _ _ _ _ a v args th el=>iK a/\iK v/\gV args/\iL th/\iL el
def iL:List St->Prop
 |[]=>True
 |x::l=>mw x/\iL l
end
theorem B3(x:St):mw x↔iK x.at_/\iK x.value/\gV x.args/\iL x.thn/\iL x.els:=by cases x;rw[mw];rfl
structure NdP (c:Cx) (np:Nat) (x:Nd):Prop where
 op:0<=x.op/\x.op<256
 imm:zf0 x.imm
 len:x.kids.length<=40
 pa:x.op=2->x.imm<np
 ar:x.op=23\/x.op=28->x.imm<c.arrays.length
 fn:x.op=30->0<=x.imm/\∃f,c.funcs[x.imm.toNat]?=some f/\x.kids.length=1+f.params.length
structure CxOkU (c:Cx):Prop where
 a:∀x∈c.arrays,1<=x.len/\x.len<=16
 al:c.arrays.length<=4
 fl:c.funcs.length<=8
 fp:∀f∈c.funcs,f.params.length<=6
 nl:c.names.length<=14
structure LI (c:Cx) (np:Nat) (s:Bd):Prop where
 nd:s.l.Nodup
 wf:zgJ s.l
 p:∀x∈s.l,NdP c np x
 v:∀x∈s.vars,IsT s.l 1 x
 vl:s.vars.length=c.names.length
 st:IsT s.l 2 s.state
theorem NA{l:List Nd}{n:Nd}(h:l.Nodup):(iB l n).Nodup:=by
 unfold iB;split
 .exact h
 .rename_i c;exact List.nodup_append.2 ⟨h,aK,fun a ha b hb=>by
   simp only[jC]at hb;subst hb;rintro rfl;exact c (Ml.2 ha)⟩
theorem NB(l:List Nd)(n:Nd):(iB l n).length<=l.length+1:=by
 rw[zqO];split<;>omega
section
variable {c:Cx} {np:Nat} {s:Bd}
theorem LI.setS(h:LI c np s){x:Int}(hx:IsT s.l 2 x):LI c np {s with state:=x}:=⟨h.nd,h.wf,h.p,h.v,h.vl,hx⟩
theorem LI.setV(h:LI c np s){x:List Int}(hx:∀y∈x,IsT s.l 1 y)(hl:x.length=c.names.length):LI c np {s with vars:=x}:=⟨h.nd,h.wf,h.p,hx,hl,h.st⟩
theorem LI.setN(h:LI c np s)(x:Nat):LI c np {s with loops:=x}:=⟨h.nd,h.wf,h.p,h.v,h.vl,h.st⟩
theorem zgk(h:LI c np s){n:Nd}{t:Int}(hs:iI s.l n=t)(ht:t≠0)(hp:NdP c np n):LI c np (zdS n s).2/\IsT (zdS n s).2.l t (zdS n s).1/\(zdS n s).2.l.length<=s.l.length+1:=by
 obtain⟨a,b⟩:=Ny h.wf hs ht;refine⟨⟨NA h.nd,b,fun x hx=>?_,fun x hx=>(h.v x hx).le (ux _ _),h.vl,h.st.le (ux _ _)⟩,a,NB _ _⟩;rcases we.1 hx with hx|rfl
 .exact h.p x hx
 .exact hp
theorem nr(c:Cx)(np:Nat){op imm:Int}{kids:List Int}(ho:0<=op/\op<256)(hi:zf0 imm)(hk:kids.length<=40)(h2:op≠2)(h23:op≠23)(h28:op≠28)(h30:op≠30):NdP c np ⟨op,imm,kids⟩:=
 ⟨ho,hi,hk,fun e=>absurd e h2,fun e=>e.elim (fun e=>absurd e h23) fun e=>absurd e h28,fun e=>absurd e h30⟩
theorem wy(h:LI c np s){t k a b:Int}(hk:IsT s.l 1 k)(ha:IsT s.l t a)(hb:IsT s.l t b)(ht:t=1\/t=2):LI c np (zet k a b s).2/\IsT (zet k a b s).2.l t (zet k a b s).1/\(zet k a b s).2.l.length<=s.l.length+1:=by
 unfold zet;split
 .exact⟨h,ha,cZ _⟩
 .exact zgk h (zxw hk ha hb ht) ac (nr _ _ aY jZ aK aY aY aY aY)
theorem F0(h:LI c np s){t v:Int}(hv:IsT s.l 1 v)(h0:1<=t)(h1:t<=1000016):LI c np (ky t v s)/\(ky t v s).l.length<=s.l.length+1:=by
 have:=zgk h (n:=⟨27,t,[s.state,v]⟩) (zq0 h.st hv h0 h1) aY (nr _ _ aY jZ aK aY aY aY aY);exact⟨this.1.setS this.2.1,this.2.2⟩
theorem yF(h:LI c np s){n:Int}(hn:zf0 n):LI c np (zdS ⟨1,n,[]⟩ s).2/\IsT (zdS ⟨1,n,[]⟩ s).2.l 1 (zdS ⟨1,n,[]⟩ s).1/\(zdS ⟨1,n,[]⟩ s).2.l.length<=s.l.length+1:=
 zgk h (zqX n) aY (nr _ _ aY hn aK aY aY aY aY)
theorem B4(h:LI c np s){op a b:Int}(ha:IsT s.l 1 a)(hb:IsT s.l 1 b)(h0:4<=op)(h1:op<=19):LI c np (zdS ⟨op,0,[a,b]⟩ s).2/\IsT (zdS ⟨op,0,[a,b]⟩ s).2.l 1 (zdS ⟨op,0,[a,b]⟩ s).1/\(zdS ⟨op,0,[a,b]⟩ s).2.l.length<=s.l.length+1:=
 zgk h (zxv ha hb h0 h1) aY (nr _ _ ac jZ aK ac ac ac ac)
theorem NC(h:LI c np s){n i:Int}(hn:zf0 n)(hi:IsT s.l 1 i):LI c np (fQ n i s)/\(fQ n i s).l.length<=s.l.length+3:=by
 obtain⟨a1,a2,a3⟩:=yF h hn;have hi2:=hi.le (zfa ⟨1,n,[]⟩ s).le.l;obtain⟨b1,b2,b3⟩:=B4 a1 (op:=19) hi2 a2 aY aY;obtain⟨c1,c2⟩:=F0 b1 (t:=2) b2 aY aY;exact⟨c1,by have:(fQ n i s).l.length<=_:=c2;omega⟩
theorem zxy(h:LI c np s){i:Int}(hi:IsT s.l 1 i):LI c np (jT i s)/\(jT i s).l.length<=s.l.length+3:=by
 obtain⟨a1,a2,a3⟩:=yF h (n:=0) jZ;have hi2:=hi.le (zfa ⟨1,0,[]⟩ s).le.l;obtain⟨b1,b2,b3⟩:=B4 a1 (op:=16) hi2 a2 aY aY;obtain⟨c1,c2⟩:=F0 b1 (t:=1) b2 aY aY;exact⟨c1,by have:(jT i s).l.length<=_:=c2;omega⟩
theorem zxz(hc:CxOkU c)(h:LI c np s){i:Int}(hi:IsT s.l 1 i){k:Nat}(hk:k<c.arrays.length):LI c np (zdS ⟨23,k,[s.state,i]⟩ s).2/\IsT (zdS ⟨23,k,[s.state,i]⟩ s).2.l 1 (zdS ⟨23,k,[s.state,i]⟩ s).1/\(zdS ⟨23,k,[s.state,i]⟩ s).2.l.length<=s.l.length+1:=by
 have al:=hc.al;exact zgk h (ztB h.st hi ac ac) aY ⟨by show 0<=(23:Int)/\(23:Int)<256;decide,BY,by show 2<=40;decide,fun e=>absurd e (by show ¬(23:Int)=2;decide),fun _=>by show(k:Int)<_;omega,fun e=>absurd e (by show ¬(23:Int)=30;decide)⟩
theorem ztH(hc:CxOkU c)(h:LI c np s){i v:Int}(hi:IsT s.l 1 i)(hv:IsT s.l 1 v){k:Nat}(hk:k<c.arrays.length):LI c np (zdS ⟨28,k,[s.state,i,v]⟩ s).2/\IsT (zdS ⟨28,k,[s.state,i,v]⟩ s).2.l 2 (zdS ⟨28,k,[s.state,i,v]⟩ s).1/\(zdS ⟨28,k,[s.state,i,v]⟩ s).2.l.length<=s.l.length+1:=by
 have al:=hc.al;exact zgk h (zq1 h.st hi hv ac ac) aY ⟨by show 0<=(28:Int)/\(28:Int)<256;decide,BY,by show 3<=40;decide,fun e=>absurd e (by show ¬(28:Int)=2;decide),fun _=>by show(k:Int)<_;omega,fun e=>absurd e (by show ¬(28:Int)=30;decide)⟩
theorem zcS(h:LI c np s){v:Int}(hv:IsT s.l 1 v):LI c np (zdS ⟨29,0,[s.state,v]⟩ s).2/\IsT (zdS ⟨29,0,[s.state,v]⟩ s).2.l 2 (zdS ⟨29,0,[s.state,v]⟩ s).1/\(zdS ⟨29,0,[s.state,v]⟩ s).2.l.length<=s.l.length+1:=
 zgk h (zxx h.st hv) aY (nr _ _ aY jZ aK aY aY aY aY)
theorem zcT(h:LI c np s){v:Int}(hv:IsT s.l 2 v):LI c np (zdS ⟨24,0,[v]⟩ s).2/\IsT (zdS ⟨24,0,[v]⟩ s).2.l 1 (zdS ⟨24,0,[v]⟩ s).1/\(zdS ⟨24,0,[v]⟩ s).2.l.length<=s.l.length+1:=
 zgk h (zcL hv) aY (nr _ _ aY jZ aK aY aY aY aY)
theorem zxA(hc:CxOkU c)(h:LI c np s){av:List Int}(ha:∀a∈av,IsT s.l 1 a){k:Nat}{f:Fu}(hf:c.funcs[k]?=some f)(hl:av.length=f.params.length):LI c np (zdS ⟨30,k,s.state::av⟩ s).2/\IsT (zdS ⟨30,k,s.state::av⟩ s).2.l 2 (zdS ⟨30,k,s.state::av⟩ s).1/\(zdS ⟨30,k,s.state::av⟩ s).2.l.length<=s.l.length+1:=by
 have fl:=hc.fl;have fp:=hc.fp f (lw hf);have hk:k<c.funcs.length:=by
  by_cases q:k<c.funcs.length
  .exact q
  .rw[iY ac]at hf;cases hf
 exact zgk h (ztC h.st ha ac ac ac) aY ⟨by show 0<=(30:Int)/\(30:Int)<256;decide,BY,by show av.length+1<=40;omega,fun e=>absurd e (by show ¬(30:Int)=2;decide),fun e=>by rcases e with e|e<;>exact absurd e (by show ¬(30:Int)=_;decide),fun _=>⟨by show 0<=(k:Int);omega,f,by show c.funcs[(k:Int).toNat]?=_;rw[gH];exact hf,by show av.length+1=_;omega⟩⟩
end
theorem ztI{l:List Ex}{i:Nat}{k:Ex}(hw:gV l)(h:l[i]?=some k):iK k:=by
 induction l generalizing i with
 |nil=>simp at h
 |cons e es ih=>
  rw[gV]at hw;cases i with
  |zero=>simp at h;subst h;exact hw.1
  |succ i=>exact ih hw.2 jM
theorem zq2{vs an:List zeP}{l:List Ex}{i:Nat}{k:Ex}(hw:zfA vs an l=true)(h:l[i]?=some k):eZ vs an k=true:=by
 induction l generalizing i with
 |nil=>simp at h
 |cons e es ih=>
  rw[zfA,cJ]at hw;cases i with
  |zero=>simp at h;subst h;exact hw.1
  |succ i=>exact ih hw.2 jM
theorem Ga{l:List Ex}{i:Nat}{k:Ex}(h:l[i]?=some k):1+k.sz<=zfs l:=by
 have:=zgB (lw h);omega
theorem ND{l:List Ex}{a b:Ex}(h0:l[0]?=some a)(h1:l[1]?=some b):2+a.sz+b.sz<=zfs l:=by
 cases l with
 |nil=>simp at h0
 |cons x l=>
  simp at h0 h1;subst h0;have:=Ga h1;rw[zfs];omega
theorem zcX{l:List Ex}{a b d:Ex}(h0:l[0]?=some a)(h1:l[1]?=some b)(h2:l[2]?=some d):3+a.sz+b.sz+d.sz<=zfs l:=by
 cases l with
 |nil=>simp at h0
 |cons x l=>
  simp at h0 h1 h2;subst h0;have:=ND (l:=l) h1 h2;rw[zfs];omega
theorem wz:∀{l:List zeP}{s:zeP},ze2 l s=true->cR l s<l.length
 |[],s,h=>by simp[ze2]at h
 |a::l,s,h=>by
  rw[cR];split
  .simp
  .rename_i c;have hs:ze2 (a::l) s=(decide (a=s)||ze2 l s):=rfl;rw[hs,pd c,tE]at h;rw[aE h,fj];exact Nat.succ_lt_succ (wz h)
structure XOk (c:Cx) (x:Ex):Prop where
 wf:fI x=true
 df:eZ c.names (c.arrays.map (·.name)) x=true
 rg:iK x
theorem XOk.kid{c:Cx}{x k:Ex}{i:Nat}(h:XOk c x)(hk:x.kids[i]?=some k):XOk c k:=by
 obtain⟨h1,h2,h3⟩:=h;rw[AW,cJ]at h1;rw[A2,cJ]at h2;rw[Nz]at h3;exact⟨zte h1.1 hk,zq2 h2.1 hk,ztI h3.2 hk⟩
theorem qu{c:Cx}(hc:CxOkU c){np:Nat}:∀(n:Nat) (x:Ex) (s:Bd),XOk c x->x.sz<n->LI c np s->∃r,eL c n x s=some r/\LI c np r.2/\IsT r.2.l 1 r.1/\r.2.l.length<=s.l.length+6*x.sz
 |0,x,s,hx,hd,hs=>by omega
 |n+1,x,s,hx,hd,hs=>by
  have IH:=qu hc (np:=np) n;have hwf:=hx.wf;have hdf:=hx.df;have hrg:=(Nz x).1 hx.rg;rw[AW,cJ,qh]at hwf;rw[A2,cJ,py]at hdf;have hw:=hwf.2;have hsz:=x.sz_eq;unfold eL;by_cases e1:x.kind=1
  .rw[aE e1];obtain⟨a,b,d⟩:=yF hs hrg.1;exact⟨_,rfl,a,b,ac⟩
  rw[ah e1]at hw⊢;by_cases e2:x.kind=2
  .rw[aE e2];have hn:ze2 c.names x.name=true:=by have:=hdf.2;simp[e2]at this;exact this
   have hlt:cR c.names x.name<s.vars.length:=by rw[hs.vl];exact wz hn
   rw[br hlt,qK];exact⟨_,rfl,hs,hs.v _ (dX hlt),by show s.l.length<=_;omega⟩
  rw[ah e2]at hw⊢;by_cases e3:x.kind=3
  .rw[aE e3]at hw⊢;simp only[cJ,jt]at hw;have hn:ze2 (c.arrays.map (·.name)) x.name=true:=by have:=hdf.2;simp[e3]at this;exact this
   have hlt:=wz hn;rw[dy]at hlt;obtain⟨k,hk⟩:=uw x.kids (i:=0) ac;have hks:=Ga hk;obtain⟨r,hr,r1,r2,r3⟩:=IH k s (hx.kid hk) ac hs;rw[hk,ee,hr,ee,br hlt,ee];have ha:=hc.a _ (dX hlt);generalize c.arrays[cR (c.arrays.map (·.name)) x.name]=ar at ha⊢;obtain⟨a1,a2⟩:=NC r1 (n:=ar.len) jZ r2;obtain⟨b1,b2,b3⟩:=zxz hc a1 (r2.le (uy ar.len r.1 r.2).le.l) hlt;exact⟨_,rfl,b1,b2,ac⟩
  rw[ah e3]at hw⊢;by_cases e5:x.kind=5
  .have e4:¬x.kind=4:=by omega
   rw[ah e4,aE e5]at hw;rw[aE e5];simp only[cJ,jt]at hw;obtain⟨k,hk⟩:=uw x.kids (i:=0) ac;obtain⟨k1,hk1⟩:=uw x.kids (i:=1) ac;obtain⟨k2,hk2⟩:=uw x.kids (i:=2) ac;have hks:=zcX hk hk1 hk2;obtain⟨r,hr,p1,p2,p3⟩:=IH k s (hx.kid hk) ac hs;obtain⟨r1,hr1,q1,q2,q3⟩:=IH k1 r.2 (hx.kid hk1) ac p1;have l1:=zfx c n _ _ _ hr1;obtain⟨r2,hr2,t1,t2,t3⟩:=IH k2 {r1.2 with state:=r.2.state} (hx.kid hk2) ac (q1.setS (p1.st.le l1.le.l));have l2:=zfx c n _ _ _ hr2;rw[hk,ee,hr,ee,hk1,ee,hr1,ee,hk2,ee,hr2,ee];have pc:IsT r2.2.l 1 r.1:=(p2.le l1.le.l).le l2.le.l;obtain⟨zeX,m2,m3⟩:=wy t1 pc (q2.le l2.le.l) t2 (.inl rfl);have lm:=zfX r.1 r1.1 r2.1 r2.2;obtain⟨zfm,n2,n3⟩:=wy zeX (pc.le lm.le.l) ((q1.st.le l2.le.l).le lm.le.l) zeX.st (.inr rfl);have ln:=zfX r.1 r1.2.state (zet r.1 r1.1 r2.1 r2.2).2.state (zet r.1 r1.1 r2.1 r2.2).2;refine⟨_,rfl,zfm.setS n2,m2.le ln.le.l,?_⟩;simp only at t3⊢;omega
  rw[ah e5]at hw⊢;by_cases e4:x.kind=4
  .rw[aE e4]at hw;simp only[cJ,pT,jt]at hw;have hl:x.kids.length=2\/x.kids.length=1:=by rcases hw.2 with h|h<;>omega
   obtain⟨k,hk⟩:=uw x.kids (i:=0) ac;have hks:=Ga hk;obtain⟨r,hr,p1,p2,p3⟩:=IH k s (hx.kid hk) ac hs;rw[hk,ee,hr,ee];by_cases e6:x.kids.length=1
   .rw[aE e6];have ho:x.op=20\/x.op=21:=by
     rcases hw.2 with h|h
     .omega
     .exact h.2
    obtain⟨a,b,d⟩:=zgk p1 (zcF p2 ho) aY (nr _ _ ac jZ aK ac ac ac ac);exact⟨_,rfl,a,b,ac⟩
   .rw[ah e6];obtain⟨k1,hk1⟩:=uw x.kids (i:=1) ac;have hks2:=ND hk hk1;obtain⟨r1,hr1,q1,q2,q3⟩:=IH k1 r.2 (hx.kid hk1) ac p1;have l1:=zfx c n _ _ _ hr1;rw[hk1,ee,hr1,ee];have ho:4<=x.op/\x.op<=18:=by
     rcases hw.2 with h|h
     .have:=h.2;simp[qY]at this;exact this
     .omega
    have p2':=p2.le l1.le.l;by_cases e7:x.op=7\/x.op=8
    .rw[aE e7];obtain⟨a1,a2⟩:=zxy q1 q2;have ld:=BB r1.1 r1.2;obtain⟨b1,b2,b3⟩:=B4 a1 (p2'.le ld.le.l) (q2.le ld.le.l) (by omega:4<=x.op) ac;exact⟨_,rfl,b1,b2,ac⟩
    .rw[ah e7];obtain⟨b1,b2,b3⟩:=B4 q1 p2' q2 (by omega:4<=x.op) ac;exact⟨_,rfl,b1,b2,ac⟩
  .rw[ah e4]at hw;simp at hw
theorem NE{c:Cx}(hc:CxOkU c){np n:Nat}:∀(l:List Ex) (s:Bd),(∀x∈l,XOk c x)->zfs l<n->LI c np s->∃r,ou c n l s=some r/\LI c np r.2/\(∀a∈r.1,IsT r.2.l 1 a)/\r.2.l.length<=s.l.length+6*zfs l
 |[],s,hx,hd,hs=>⟨_,rfl,hs,aK,by show s.l.length<=_;omega⟩
 |x::l,s,hx,hd,hs=>by
  rw[zfs]at hd⊢;obtain⟨r,hr,p1,p2,p3⟩:=qu hc n x s (hx x fm) ac hs;obtain⟨r2,hr2,q1,q2,q3⟩:=NE (n:=n) hc l r.2 (fun y hy=>hx y (gF _ hy)) ac p1;have l2:=(wh c n _ _ _ hr2).1;refine⟨(r.1::r2.1,r2.2),by rw[ou,hr,ee,hr2,ee],q1,fun a ha=>?_,wx⟩;rcases iu.1 ha with rfl|ha
  .exact p2.le l2.le.l
  .exact q2 a ha
def rK(c:Cx):Sc:=⟨c.names,some (c.arrays.map (·.name)),⟨c.arrays,c.funcs⟩⟩
structure SOk (c:Cx) (x:St):Prop where
 wf:mU x=true
 df:hY (rK c) false x=true
 ar:hY (rK c) true x=true
 rg:mw x
structure SsOk (c:Cx) (l:List St):Prop where
 wf:fY l=true
 df:zfd (rK c) false l=true
 ar:zfd (rK c) true l=true
 rg:iL l
section
variable {c:Cx}
theorem SsOk.cons{x:St}{l:List St}(h:SsOk c (x::l)):SOk c x/\SsOk c l:=by
 obtain⟨h1,h2,h3,h4⟩:=h;rw[fY,cJ]at h1;rw[zfd,cJ]at h2 h3;rw[iL]at h4;exact⟨⟨h1.1,h2.1,h3.1,h4.1⟩,⟨h1.2,h2.2,h3.2,h4.2⟩⟩
theorem SOk.subs{x:St}(h:SOk c x):SsOk c x.thn/\SsOk c x.els:=by
 obtain⟨h1,h2,h3,h4⟩:=h;rw[uh]at h1;rw[yf]at h2 h3;rw[B3]at h4;simp only[cJ]at h1 h2 h3;exact⟨⟨h1.1.2,h2.1.2,h3.1.2,h4.2.2.2.1⟩,⟨h1.2,h2.2,h3.2,h4.2.2.2.2⟩⟩
theorem NF:∀{l:List Ex}{x:Ex},gV l->x∈l->iK x
 |[],x,_,h=>by simp at h
 |e::l,x,hw,h=>by
  rw[gV]at hw;rcases iu.1 h with rfl|h
  .exact hw.1
  .exact NF hw.2 h
theorem NG:∀{l:List Ex}{x:Ex},fO l=true->x∈l->fI x=true
 |[],x,_,h=>by simp at h
 |e::l,x,hw,h=>by
  rw[fO,cJ]at hw;rcases iu.1 h with rfl|h
  .exact hw.1
  .exact NG hw.2 h
theorem NH{vs an:List zeP}:∀{l:List Ex}{x:Ex},zfA vs an l=true->x∈l->eZ vs an x=true
 |[],x,_,h=>by simp at h
 |e::l,x,hw,h=>by
  rw[zfA,cJ]at hw;rcases iu.1 h with rfl|h
  .exact hw.1
  .exact NH hw.2 h
theorem SOk.def{x:St}(h:SOk c x):zfA c.names (c.arrays.map (·.name)) x.args=true/\eZ c.names (c.arrays.map (·.name)) x.at_=true/\eZ c.names (c.arrays.map (·.name)) x.value=true/\lM (rK c) x=true:=by
 have h2:=h.df;rw[yf]at h2;simp only[cJ,ve,jo]at h2;exact⟨h2.1.1.1.1.1,h2.1.1.1.1.2,h2.1.1.1.2,h2.1.1.2⟩
theorem SOk.args{x:St}(h:SOk c x):∀a∈x.args,XOk c a:=fun a ha=>by
 have h1:=h.wf;have h4:=h.rg;rw[uh,jn]at h1;rw[B3]at h4;simp only[cJ]at h1;exact⟨NG h1.1.1.1 ha,NH h.def.1 ha,NF h4.2.2.1 ha⟩
theorem SOk.value{x:St}(h:SOk c x)(hk:x.kind=1\/x.kind=2\/x.kind=3\/x.kind=4\/x.kind=5):XOk c x.value:=by
 have h1:=h.wf;have h4:=h.rg;rw[uh,jn,mT]at h1;rw[B3]at h4;simp only[cJ]at h1;refine⟨?_,h.def.2.2.1,h4.2.1⟩;have h3:=h1.1.1.2;rcases hk with e|e|e|e|e<;>rw[e]at h3<;>simp at h3<;>simp[h3]
theorem SOk.at_{x:St}(h:SOk c x)(hk:x.kind=2):XOk c x.at_:=by
 have h1:=h.wf;have h4:=h.rg;rw[uh,jn,mT]at h1;rw[B3]at h4;simp only[cJ]at h1;refine⟨?_,h.def.2.1,h4.1⟩;have h3:=h1.1.1.2;rw[hk]at h3;simp at h3;simp[h3]
theorem SOk.trap{x:St}(h:SOk c x)(hk:x.kind=7):0<=x.n/\x.n<=1000000:=by
 have h1:=h.wf;rw[uh,jn,mT]at h1;simp only[cJ]at h1;have h3:=h1.1.1.2;rw[hk]at h3;simp at h3;exact⟨by simp[h3],by simp[h3]⟩
theorem SOk.kd{x:St}(h:SOk c x):1<=x.kind/\x.kind<=7:=by
 have h1:=h.wf;rw[uh,jn,mT]at h1;simp only[cJ]at h1;have h3:=h1.1.1.2;by_cases e:1<=x.kind/\x.kind<=7
 .exact e
 .rw[ah ac,ah ac,ah ac,ah ac,ah ac,ah ac,ah ac]at h3;cases h3
theorem SOk.name{x:St}(h:SOk c x)(hk:x.kind=1\/x.kind=6):cR c.names x.name<c.names.length:=by
 have:=h.def.2.2.2;rw[lM]at this;rcases hk with e|e<;>simp[e,rK]at this
 .exact wz this
 .exact wz this.1
theorem SOk.arr{x:St}(h:SOk c x)(hk:x.kind=2):cR (c.arrays.map (·.name)) x.name<c.arrays.length:=by
 have:=h.def.2.2.2;rw[lM]at this;simp[hk,rK,Sc.an]at this;have:=wz this
 rwa [dy]at this
theorem SOk.call{x:St}(h:SOk c x)(hk:x.kind=6):0<=zfc c.funcs x.to 0/\x.args.length=um ⟨c.arrays,c.funcs⟩ x.to:=by
 have h1:=h.def.2.2.2;have h3:=h.ar;rw[lM]at h1;simp[hk,rK]at h1;rw[yf]at h3;simp only[cJ,cond_true,mg,hk]at h3;simp[rK]at h3;have h5:=mO h3.1.1;exact⟨mO h1.2,ac⟩
end
theorem B5{c:Cx}:∀(n:Nat) (l:List St) (b:List Bool),SsOk c l->2*zep l<n->b.length=c.names.length->∃b',lR c.names n l b=some b'/\b'.length=c.names.length
 |0,l,b,_,h,_=>by omega
 |n+1,[],b,_,_,hb=>⟨b,rfl,hb⟩
 |n+1,x::l,b,hl,h,hb=>by
  obtain⟨hx,hl⟩:=hl.cons;rw[zep]at h;have hs:=x.sz_eq;unfold lR;simp only;rw[ah (fun q=>by have:=hx.name q.1;omega)];have hb1:(if x.kind=1\/x.kind=6 then b.set (cR c.names x.name) true else b).length=c.names.length:=by split<;>simp[hb]
  obtain⟨b2,e2,l2⟩:=B5 n x.thn _ hx.subs.1 ac hb1;obtain⟨b3,e3,l3⟩:=B5 n x.els b2 hx.subs.2 ac l2;obtain⟨b4,e4,l4⟩:=B5 n l b3 hl ac l3;exact⟨b4,by rw[e2,ee,e3,ee,e4],l4⟩
theorem NI{c:Cx}{np:Nat}{k:Int}{a:List Int}:∀(m i:Nat) (s:Bd),LI c np s->IsT s.l 1 k->(∀y∈a,IsT s.l 1 y)->a.length=c.names.length->i+m=c.names.length->∃r,ow k a m i s=some r/\LI c np r/\r.l.length<=s.l.length+m
 |0,i,s,h,_,_,_,_=>⟨s,rfl,h,aM _⟩
 |m+1,i,s,h,hk,ha,hl,hi=>by
  have hvl:=h.vl;have h1:i<a.length:=ac;have h2:i<s.vars.length:=ac;unfold ow;rw[br h1,ee,br h2,ee];obtain⟨zeX,m2,m3⟩:=wy h hk (ha _ (dX h1)) (h.v _ (dX h2)) (.inl rfl);have lv:=zfX k a[i] s.vars[i] s;obtain⟨r,e,r1,r2⟩:=NI m (i+1) { (zet k a[i] s.vars[i] s).2 with vars:=(zet k a[i] s.vars[i] s).2.vars.set i (zet k a[i] s.vars[i] s).1} (zeX.setV (fun y hy=>by
   rcases vQ hy with hy|rfl
   .exact zeX.v y hy
   .exact m2) (by rw[iS];exact zeX.vl)) (hk.le lv.le.l) (fun y hy=>(ha y hy).le lv.le.l) hl ac
  exact⟨r,e,r1,by simp only at r2;omega⟩
theorem NJ{c:Cx}{np:Nat}{k:Nat}(hk:k<=15):∀(ws:List Nat) (j:Nat) (s:Bd),LI c np s->j+ws.length<=15->LI c np (jU (16*(k:Int)+1) ws j s)/\(jU (16*(k:Int)+1) ws j s).l.length<=s.l.length+ws.length
 |[],j,s,h,_=>⟨h,aM _⟩
 |w::ws,j,s,h,hj=>by
  rw[fj]at hj;have hm:(16*(k:Int)+1+j).tmod 16=1+j:=by
   rw[Int.tmod_eq_emod_of_nonneg ac];omega
  obtain⟨zeX,m2,m3⟩:=zgk h (n:=⟨3,16*(k:Int)+1+j,[]⟩) (Nv ac ac) (by split<;>decide) (nr _ _ aY jZ aK aY aY aY aY);rw[hm,ah ac]at m2;unfold jU;obtain⟨r1,r2⟩:=NJ hk ws (j+1) { (zdS ⟨3,16*(k:Int)+1+j,[]⟩ s).2 with vars:=(zdS ⟨3,16*(k:Int)+1+j,[]⟩ s).2.vars.set w (zdS ⟨3,16*(k:Int)+1+j,[]⟩ s).1} (zeX.setV (fun y hy=>by
   rcases vQ hy with hy|rfl
   .exact zeX.v y hy
   .exact m2) (by rw[iS];exact zeX.vl)) ac
  exact⟨r1,Nq⟩
theorem NK{c:Cx}{np:Nat}{lp k:Int}{old:List Int}{q:Nd}:∀(ws:List Nat) (j:Nat) (s:Bd),LI c np s->IsT s.l 3 lp->s.l[lp.toNat]?=some q->IsT s.l 1 k->(∀y∈old,IsT s.l 1 y)->(∀w∈ws,w<old.length)->1<=j->((j+ws.length:Nat):Int)<=hT q.kids.length->j+ws.length<=16 ->
 LI c np (jV lp k old ws j s)/\(jV lp k old ws j s).l.length<=s.l.length+2*ws.length
 |[],j,s,h,_,_,_,_,_,_,_,_=>⟨h,aM _⟩
 |w::ws,j,s,h,hlp,hq,hk,ho,hw,hj,hlv,h16=>by
  rw[fj]at hlv h16;obtain⟨zeX,m2,m3⟩:=zgk h (n:=⟨25,j,[lp]⟩) (Nw hlp hq ac ac) (by split<;>decide) (nr _ _ aY jZ aK aY aY aY aY);rw[ah ac]at m2;have p1:=zfa ⟨25,j,[lp]⟩ s;have hwo:=hw w fm;have how:old.getD w 0∈old:=by rw[dM,br hwo];exact dX hwo
  obtain⟨zfm,n2,n3⟩:=wy zeX (hk.le p1.le.l) m2 ((ho _ how).le p1.le.l) (.inl rfl);have p2:=p1.trans (zfX k (zdS ⟨25,j,[lp]⟩ s).1 (old.getD w 0) (zdS ⟨25,j,[lp]⟩ s).2);unfold jV;simp only[];generalize zet k (zdS ⟨25,j,[lp]⟩ s).1 (old.getD w 0) (zdS ⟨25,j,[lp]⟩ s).2=z at *;have hq2:z.2.l[lp.toNat]?=some q:=by
   obtain⟨t,ht⟩:=p2.le.l;rw[<-ht,kG,hq];have:=hlp.hi;have:=hlp.lo;omega
  obtain⟨r1,r2⟩:=NK (q:=q) (lp:=lp) (k:=k) (old:=old) ws (j+1) {z.2 with vars:=z.2.vars.set w z.1} (zfm.setV (fun y hy=>by
   rcases vQ hy with hy|rfl
   .exact zfm.v y hy
   .exact n2) (by rw[iS];exact zfm.vl)) (hlp.le p2.le.l) hq2 (hk.le p2.le.l) (fun y hy=>(ho y hy).le p2.le.l) (fun y hy=>hw y (gF _ hy)) ac ac ac
  exact⟨r1,Nq⟩
theorem NL(b:List Bool):(zfS b).length<=b.length:=by
 have:=AA (fun i=>b.getD i false) (List.range b.length)
 rwa [List.length_range]at this
def Gb(c:Cx)(np n:Nat):Prop:=∀x s,SOk c x->2*x.sz<n->LI c np s->s.loops+zfp x<=16->∃r,oz c n x s=some r/\LI c np r/\r.loops<=s.loops+zfp x/\r.l.length<=s.l.length+64*x.sz
def yG(c:Cx)(np n:Nat):Prop:=∀l s,SsOk c l->2*zep l<n->LI c np s->s.loops+zfE l<=16->∃r,ij c n l s=some r/\LI c np r/\r.loops<=s.loops+zfE l/\r.l.length<=s.l.length+64*zep l
def Gc(c:Cx)(np n:Nat):Prop:=∀x s,SOk c x->x.kind=4->2*x.sz<=n->LI c np s->s.loops+zfp x<=16->∃r,pE c n x s=some r/\LI c np r/\r.loops<=s.loops+zfp x/\r.l.length<=s.l.length+64*x.sz
theorem zxB{c:Cx}(hc:CxOkU c){np n:Nat}(IS:yG c np n):Gc c np (n+1):=fun x s hx hk hsz h hw=>by
 have hs:=x.sz_eq;have hw1:=Eo x;rw[aE hk]at hw1;have hv:=hx.value (.inr (.inr (.inr (.inl hk))));unfold pE;obtain⟨r,hr,p1,p2,p3⟩:=qu hc n x.value {s with loops:=s.loops+1} hv ac (h.setN _);have lr:=zfx c n _ _ _ hr;have hrn:r.2.loops=s.loops+1:=lr.n;obtain⟨b,hb,hbl⟩:=B5 n x.thn (List.replicate r.2.vars.length false) hx.subs.1 ac (by rw[qX];exact p1.vl);rw[hr,ee,hb,ee];simp only[];have hwl:=NL b;have hnl:=hc.nl;have hwm:∀i∈zfS b,i<r.2.vars.length:=fun i hi=>by have:=ME hi;have:=p1.vl;omega
 generalize zfS b=ws at *;have hm:(16*(s.loops:Int)).tmod 16=0:=Ei;obtain⟨q1,q2,q3⟩:=zgk p1 (n:=⟨3,16*(s.loops:Int),[]⟩) (Nv ac ac) (by split<;>decide) (nr _ _ aY jZ aK aY aY aY aY);rw[hm,aE rfl]at q2;have lq:=zfa ⟨3,16*(s.loops:Int),[]⟩ r.2;generalize zdS ⟨3,16*(s.loops:Int),[]⟩ r.2=q at *;obtain⟨u1,u2⟩:=NJ (k:=s.loops) ac ws 0 {q.2 with state:=q.1} (q1.setS q2) ac;have lu:=sR (16*(s.loops:Int)+1) ws 0 {q.2 with state:=q.1};generalize jU (16*(s.loops:Int)+1) ws 0 {q.2 with state:=q.1}=u at *;have hun:u.loops=s.loops+1:=by rw[lu.2.2.2];show q.2.loops=_;rw[lq.n,hrn]
 obtain⟨t,ht,t1,t2,t3⟩:=IS x.thn u hx.subs.1 ac u1 ac;have lt:=(ml c n).2.1 _ _ _ ht;rw[ht,ee];obtain⟨d,hd,d1,d2,d3⟩:=qu hc n x.value t hv ac t1;have ld:=zfx c n _ _ _ hd;rw[hd,ee];have le1:zfh r.2 d.2:=(lq.le.setS q.1).trans (lu.1.trans (lt.1.trans ld.le));have hold:∀y∈r.2.vars,IsT d.2.l 1 y:=fun y hy=>(p1.v y hy).le le1.l;have ho:∀a∈ws.map fun i=>r.2.vars.getD i 0,IsT d.2.l 1 a:=fun a ha=>by
  obtain⟨i,hi,rfl⟩:=l0.1 ha;rw[dM,br (hwm i hi)];exact hold _ (dX _)
 have hn:∀a∈ws.map fun i=>d.2.vars.getD i 0,IsT d.2.l 1 a:=fun a ha=>by
  obtain⟨i,hi,rfl⟩:=l0.1 ha;have:=hwm i hi;have e1:=d1.vl;have e2:=p1.vl;rw[dM,br (show i<d.2.vars.length by omega)];exact d1.v _ (dX _)
 have hkl:(r.2.state::(ws.map fun i=>r.2.vars.getD i 0)++[d.1,d.2.state]++ws.map fun i=>d.2.vars.getD i 0).length=2*ws.length+3:=cT;obtain⟨k1,k2,k3⟩:=zgk d1 (n:=⟨31,s.loops,r.2.state::(ws.map fun i=>r.2.vars.getD i 0)++[d.1,d.2.state]++ws.map fun i=>d.2.vars.getD i 0⟩) (ztD (p1.st.le le1.l) ho d2 d1.st hn aK cT ac ac) aY (nr _ _ aY jZ (by rw[hkl];omega) aY aY aY aY);have lk:=zfa ⟨31,s.loops,r.2.state::(ws.map fun i=>r.2.vars.getD i 0)++[d.1,d.2.state]++ws.map fun i=>d.2.vars.getD i 0⟩ d.2;have hq:(zdS ⟨31,s.loops,r.2.state::(ws.map fun i=>r.2.vars.getD i 0)++[d.1,d.2.state]++ws.map fun i=>d.2.vars.getD i 0⟩ d.2).2.l[(zdS ⟨31,s.loops,r.2.state::(ws.map fun i=>r.2.vars.getD i 0)++[d.1,d.2.state]++ws.map fun i=>d.2.vars.getD i 0⟩ d.2).1.toNat]?=some ⟨31,s.loops,r.2.state::(ws.map fun i=>r.2.vars.getD i 0)++[d.1,d.2.state]++ws.map fun i=>d.2.vars.getD i 0⟩:=zqP _ _;generalize zdS ⟨31,s.loops,r.2.state::(ws.map fun i=>r.2.vars.getD i 0)++[d.1,d.2.state]++ws.map fun i=>d.2.vars.getD i 0⟩ d.2=k at *;have hlv:hT (2*ws.length+3:Nat)=((ws.length+1:Nat):Int):=DT;have k1':=k1.setV (x:=r.2.vars) (fun y hy=>(hold y hy).le lk.le.l) p1.vl;obtain⟨f1,f2,f3⟩:=zgk k1' (n:=⟨25,0,[k.1]⟩) (Nw (n:=0) k2 hq ac (by rw[hkl,hlv];omega)) aY (nr _ _ aY jZ aK aY aY aY aY);rw[aE rfl]at f2;have lf:=zfa ⟨25,0,[k.1]⟩ {k.2 with vars:=r.2.vars};have le2:r.2.l<+:(zdS ⟨25,0,[k.1]⟩ {k.2 with vars:=r.2.vars}).2.l:=(le1.l.trans lk.le.l).trans lf.le.l;have hfv:(zdS ⟨25,0,[k.1]⟩ {k.2 with vars:=r.2.vars}).2.vars=r.2.vars:=lf.v;obtain⟨zeX,m2,m3⟩:=wy f1 (p2.le le2) f2 (p1.st.le le2) (.inr rfl);have lm:=zfX r.1 (zdS ⟨25,0,[k.1]⟩ {k.2 with vars:=r.2.vars}).1 r.2.state (zdS ⟨25,0,[k.1]⟩ {k.2 with vars:=r.2.vars}).2;generalize zdS ⟨25,0,[k.1]⟩ {k.2 with vars:=r.2.vars}=f at *;generalize zet r.1 f.1 r.2.state f.2=m at *;have lkm:k.2.l<+:m.2.l:=lf.le.l.trans lm.le.l;have hqm:m.2.l[k.1.toNat]?=some ⟨31,s.loops,r.2.state::(ws.map fun i=>r.2.vars.getD i 0)++[d.1,d.2.state]++ws.map fun i=>d.2.vars.getD i 0⟩:=by
  obtain⟨z,hz⟩:=lkm;rw[<-hz,kG,hq];have:=k2.hi;have:=k2.lo;omega
 obtain⟨z1,z2⟩:=NK (lp:=k.1) (k:=r.1) (old:=r.2.vars) ws 1 {m.2 with state:=m.1} (zeX.setS m2) (k2.le lkm) hqm (p2.le (le2.trans lm.le.l)) (fun y hy=>(p1.v y hy).le (le2.trans lm.le.l)) hwm (aM _) (by rw[hkl,hlv];omega) ac;have lz:=uz k.1 r.1 r.2.vars ws 1 {m.2 with state:=m.1};refine⟨_,rfl,z1,?_,?_⟩
 .rw[lz.2.2.2];show m.2.loops<=_;rw[lm.n,lf.n];show k.2.loops<=_;rw[lk.n,ld.n];omega
 .simp only at z2 p3 u2 f3⊢;omega
theorem zxC{c:Cx}(hc:CxOkU c){np n:Nat}(IS:yG c np n)(IW:Gc c np n):Gb c np (n+1):=fun x s hx hsz h hw=>by
 have hs:=x.sz_eq;have hw1:=Eo x;have hkd:=hx.kd;unfold oz;by_cases k1:x.kind=1
 .rw[aE k1];obtain⟨r,hr,p1,p2,p3⟩:=qu hc n x.value s (hx.value (.inl k1)) ac h;have lr:=zfx c n _ _ _ hr;have hn:=hx.name (.inl k1);have hvl:=p1.vl;rw[hr,ee,aE ac];exact⟨_,rfl,p1.setV (fun y hy=>by
   rcases vQ hy with hy|rfl
   .exact p1.v y hy
   .exact p2) (by rw[iS];exact hvl),by show r.2.loops<=_;rw[lr.n];omega,wx⟩
 rw[ah k1];by_cases k2:x.kind=2
 .rw[aE k2];obtain⟨r,hr,p1,p2,p3⟩:=qu hc n x.at_ s (hx.at_ k2) ac h
  obtain⟨v,hv,q1,q2,q3⟩:=qu hc n x.value r.2 (hx.value (.inr (.inl k2))) ac p1;have lr:=zfx c n _ _ _ hr;have lv:=zfx c n _ _ _ hv;have hlt:=hx.arr k2;rw[hr,ee,hv,ee,br hlt,ee];have ha:=hc.a _ (dX hlt);generalize c.arrays[cR (c.arrays.map (·.name)) x.name]=ar at ha⊢;have p2':=p2.le lv.le.l;obtain⟨a1,a2⟩:=NC q1 (n:=ar.len) jZ p2';have zfK:=uy ar.len r.1 v.2;obtain⟨b1,b2,b3⟩:=ztH hc a1 (p2'.le zfK.le.l) (q2.le zfK.le.l) hlt;exact⟨_,rfl,b1.setS b2,by show(fQ ar.len r.1 v.2).loops<=_;rw[zfK.n,lv.n,lr.n];omega,wx⟩
 rw[ah k2];by_cases k3:x.kind=3
 .rw[aE k3];rw[ah ac]at hw1;obtain⟨r,hr,p1,p2,p3⟩:=qu hc n x.value s (hx.value (.inr (.inr (.inl k3)))) ac h;have lr:=zfx c n _ _ _ hr;have hrn:=lr.n;obtain⟨a,ha,a1,a2,a3⟩:=IS x.thn r.2 hx.subs.1 ac p1 ac;have la:=(ml c n).2.1 _ _ _ ha;have hal:a.vars.length=c.names.length:=a1.vl;obtain⟨b,hb,b1,b2,b3⟩:=IS x.els {a with state:=r.2.state,vars:=r.2.vars} hx.subs.2 ac ((a1.setS (p1.st.le la.1.l)).setV (fun y hy=>(p1.v y hy).le la.1.l) p1.vl) (by show a.loops+_<=_;omega);have lb:=(ml c n).2.1 _ _ _ hb;have lab:a.l<+:b.l:=lb.1.l;have kb:IsT b.l 1 r.1:=(p2.le la.1.l).le lab;have hbl:=b1.vl;obtain⟨m,hm,zeX,m2⟩:=NI (k:=r.1) (a:=a.vars) b.vars.length 0 b b1 kb (fun y hy=>(a1.v y hy).le lab) hal ac;have lm:=wi _ _ _ _ _ _ hm;rw[hr,ee,ha,ee,hb,ee,hm,ee];obtain⟨t1,t2,t3⟩:=wy zeX (kb.le lm.1.l) ((a1.st.le lab).le lm.1.l) zeX.st (.inr rfl);have lt:=zfX r.1 a.state m.state m;have hnl:=hc.nl;refine⟨_,rfl,t1.setS t2,?_,?_⟩
  .show(zet r.1 a.state m.state m).2.loops<=_;rw[lt.n,lm.2.2.2];simp only at b2;omega
  .simp only at b3⊢;omega
 rw[ah k3];by_cases k4:x.kind=4
 .rw[aE k4];exact IW x s hx k4 ac h hw
 rw[ah k4];by_cases k5:x.kind=5
 .rw[aE k5];obtain⟨r,hr,p1,p2,p3⟩:=qu hc n x.value s (hx.value (.inr (.inr (.inr (.inr k5))))) ac h;have lr:=zfx c n _ _ _ hr;rw[hr,ee];obtain⟨b1,b2,b3⟩:=zcS p1 p2;exact⟨_,rfl,b1.setS b2,by show r.2.loops<=_;rw[lr.n];omega,wx⟩
 rw[ah k5];by_cases k6:x.kind=6
 .rw[aE k6];obtain⟨r,hr,p1,p2,p3⟩:=NE hc (n:=n) x.args s hx.args ac h;obtain⟨lr,hlr⟩:=wh c n _ _ _ hr;obtain⟨c1,c2⟩:=hx.call k6;obtain⟨i,hi,hfe⟩:=EU c.funcs x.to 0 c1;obtain⟨f,hfn⟩:=uw c.funcs hi;have hfe':zfc c.funcs x.to 0=(i:Int):=by simpa using hfe
  have hn:=hx.name (.inr k6);have hvl:=p1.vl;have hpar:r.1.length=f.params.length:=by
   rw[hlr,c2,um,hfe',gH,hfn];rfl
  rw[hr,ee,aE ⟨c1,ac⟩];simp only[];rw[hfe'];obtain⟨b1,b2,b3⟩:=zxA hc p1 p2 hfn hpar;have lb:=zfa ⟨30,i,r.2.state::r.1⟩ r.2;generalize zdS ⟨30,i,r.2.state::r.1⟩ r.2=z at *;obtain⟨d1,d2,d3⟩:=zcT (b1.setS b2) b2;have ld:=zfa ⟨24,0,[z.1]⟩ {z.2 with state:=z.1};generalize zdS ⟨24,0,[z.1]⟩ {z.2 with state:=z.1}=w at *;refine⟨_,rfl,d1.setV (fun y hy=>?_) (by rw[iS];exact d1.vl),?_,?_⟩
  .rcases vQ hy with hy|rfl
   .exact d1.v y hy
   .exact d2
  .show w.2.loops<=_;rw[ld.n];show z.2.loops<=_;rw[lb.n,lr.n];omega
  .simp only at d3⊢;omega
 rw[ah k6];by_cases k7:x.kind=7
 .rw[aE k7];have ht:=hx.trap k7;have hw:cq (16+x.n)=16+x.n:=zft ac ac;rw[hw];obtain⟨a1,a2,a3⟩:=yF h (n:=0) jZ;obtain⟨b1,b2⟩:=F0 a1 (t:=16+x.n) a2 ac ac;have lb:=rB (16+x.n) (zdS ⟨1,0,[]⟩ s).1 (zdS ⟨1,0,[]⟩ s).2;exact⟨_,rfl,b1,by rw[lb.n];show s.loops<=_;omega,ac⟩
 .omega
theorem zxD{c:Cx}{np n:Nat}(I1:Gb c np n)(IS:yG c np n):yG c np (n+1):=fun l s hl hsz h hw=>by
 cases l with
 |nil=>exact⟨s,by unfold ij;rfl,h,ac,ac⟩
 |cons x l=>
  obtain⟨hx,hl⟩:=hl.cons;rw[zep]at hsz⊢;rw[zfE]at hw⊢;unfold ij;simp only[];obtain⟨r,hr,p1,p2,p3⟩:=I1 x s hx ac h ac;obtain⟨t,ht,q1,q2,q3⟩:=IS l r hl ac p1 ac;rw[hr,ee,ht];exact⟨t,rfl,q1,ac,ac⟩
theorem NM{c:Cx}(hc:CxOkU c){np:Nat}:∀n:Nat,Gb c np n/\yG c np n/\Gc c np n
 |0=>⟨fun x s _ h=>ac,fun l s _ h=>ac,fun x s hx _ h=>by have:=x.sz_eq;omega⟩
 |n+1=>by
  obtain⟨a,b,d⟩:=NM hc (np:=np) n;exact⟨zxC hc b d,zxD a b,zxB hc b⟩
section
variable {A:List Ar} {F:List Fu} {np:Nat}
theorem NdP.names{N N':List zeP}{x:Nd}(h:NdP ⟨A,F,N⟩ np x):NdP ⟨A,F,N'⟩ np x:=⟨h.op,h.imm,h.len,h.pa,h.ar,h.fn⟩
theorem LI.names{N N':List zeP}{s:Bd}(h:LI ⟨A,F,N⟩ np s)(hl:N'.length=N.length):LI ⟨A,F,N'⟩ np s:=⟨h.nd,h.wf,fun x hx=>(h.p x hx).names,h.v,h.vl.trans hl.symm,h.st⟩
theorem LI.push{N N':List zeP}{s:Bd}(h:LI ⟨A,F,N⟩ np s){x:Int}(hx:IsT s.l 1 x)(hl:N'.length=N.length+1):LI ⟨A,F,N'⟩ np {s with vars:=s.vars++[x] }:=
 ⟨h.nd,h.wf,fun y hy=>(h.p y hy).names,fun y hy=>by
  rcases mI.1 hy with hy|hy
  .exact h.v y hy
  .simp only[jC]at hy;subst hy;exact hx,by
  have:=h.vl;show(s.vars++[x]).length=_;rw[eO,this,hl];rfl,h.st⟩
theorem NN(hnp:np<=6):∀(m k:Nat) (s:Bd) (N N':List zeP),LI ⟨A,F,N⟩ np s->N'.length=N.length+m->k+m<=np->LI ⟨A,F,N'⟩ np (iC m k s)/\(iC m k s).loops=s.loops/\(iC m k s).l.length<=s.l.length+m
 |0,k,s,N,N',h,hl,_=>⟨h.names hl,rfl,aM _⟩
 |m+1,k,s,N,N',h,hl,hk=>by
  obtain⟨a1,a2,a3⟩:=zgk h (n:=⟨2,k,[]⟩) (zqY ac ac) aY ⟨by show 0<=(2:Int)/\(2:Int)<256;decide,BY,by show 0<=40;decide,fun _=>by show(k:Int)<np;omega,fun e=>by rcases e with e|e<;>exact absurd e (by show ¬(2:Int)=_;decide),fun e=>absurd e (by show ¬(2:Int)=30;decide)⟩;obtain⟨b1,b2,b3⟩:=NN hnp m (k+1) { (zdS ⟨2,k,[]⟩ s).2 with vars:=(zdS ⟨2,k,[]⟩ s).2.vars++[(zdS ⟨2,k,[]⟩ s).1] } ([]::N) N' (a1.push a2 rfl) (by rw[fj];omega) ac;exact⟨b1,b2,by have b4:(iC (m+1) k s).l.length<=(zdS ⟨2,k,[]⟩ s).2.l.length+m:=b3;omega⟩
theorem NO:∀(m:Nat) (s:Bd) (N N':List zeP),LI ⟨A,F,N⟩ np s->N'.length=N.length+m->LI ⟨A,F,N'⟩ np (jW m s)/\(jW m s).loops=s.loops/\(jW m s).l.length<=s.l.length+m
 |0,s,N,N',h,hl=>⟨h.names hl,rfl,aM _⟩
 |m+1,s,N,N',h,hl=>by
  obtain⟨a1,a2,a3⟩:=yF h (n:=0) jZ;obtain⟨b1,b2,b3⟩:=NO m { (zdS ⟨1,0,[]⟩ s).2 with vars:=(zdS ⟨1,0,[]⟩ s).2.vars++[(zdS ⟨1,0,[]⟩ s).1] } ([]::N) N' (a1.push a2 rfl) (by rw[fj];omega);exact⟨b1,b2,by have b4:(jW (m+1) s).l.length<=(zdS ⟨1,0,[]⟩ s).2.l.length+m:=b3;omega⟩
theorem ztN:LI ⟨A,F,[]⟩ np { (zdS ⟨26,0,[]⟩ ⟨[],[],0,0⟩).2 with state:=(zdS ⟨26,0,[]⟩ ⟨[],[],0,0⟩).1}:=by
 obtain⟨a,b⟩:=Ny (l:=[]) (n:=⟨26,0,[]⟩) (fun i hi=>by simp at hi) zqZ aY;refine⟨NA List.nodup_nil,b,fun x hx=>?_,(fun y hy=>by cases hy),rfl,a⟩;rcases(we (l:=[]) (n:=⟨26,0,[]⟩)).1 hx with hx|rfl
 .cases hx
 .exact nr _ _ aY jZ aK aY aY aY aY
end
structure PrIn (p:Pr):Prop where
 ck:zfY p=0
 rg:∀f∈p.funcs,iL f.body/\iK f.value
theorem NP{p:Pr}(h:zfY p=0):kT p=false/\mV p=true/\px p=false/\p.funcs.any (km p)=false/\p.funcs.any (mh p)=false:=by
 unfold zfY at h;split at h
 .cases h
 split at h
 .cases h
 split at h
 .cases h
 split at h
 .cases h
 split at h
 .cases h
 rename_i a b c d e;exact⟨by simpa using a,by simpa using b,by simpa using c,by simpa using d,xD⟩
theorem B6{α:Type}{l:List α}{p:α->Bool}(h:l.any p=false){x:α}(hx:x∈l):p x=false:=by
 cases e:p x with
 |false=>rfl
 |true=>rw[Ak.2 ⟨x,hx,e⟩]at h;cases h
theorem PrIn.lim{p:Pr}(h:PrIn p):(∀a∈p.arrays,1<=a.len/\a.len<=16)/\p.arrays.length<=4/\p.funcs.length<=8/\∀f∈p.funcs,f.params.length<=6/\f.locals.length<=8/\zfE f.body<=16:=by
 have hx:=(NP h.ck).1;unfold kT at hx;simp only[pO,nQ]at hx;obtain⟨⟨⟨h1,h2⟩,h3⟩,h4⟩:=hx;refine⟨fun a ha=>?_,ac,ac,fun f hf=>?_⟩
 .have:=B6 h3 ha;unfold rp at this;simp only[pO,nQ]at this;omega
 .have:=B6 h4 hf;unfold qg at this;simp only[pO,nQ]at this;omega
theorem PrIn.cx{p:Pr}(h:PrIn p){f:Fu}(hf:f∈p.funcs):CxOkU (oA p f):=by
 obtain⟨h1,h2,h3,h4⟩:=h.lim;have:=h4 f hf;exact⟨h1,h2,h3,fun g hg=>(h4 g hg).1,by show(f.params++f.locals).length<=14;rw[eO];omega⟩
theorem PrIn.body{p:Pr}(h:PrIn p){f:Fu}(hf:f∈p.funcs):SsOk (oA p f) f.body/\XOk (oA p f) f.value:=by
 obtain⟨_,h2,_,h4,h5⟩:=NP h.ck;unfold mV at h2;rw[cJ,jL,jL]at h2;have w:=h2.2 f hf;have u:=B6 h4 hf;have b:=B6 h5 hf;unfold rq at w;unfold km at u;unfold mh at b;simp only[cJ,Ek]at w u b;obtain⟨r1,r2⟩:=h.rg f hf;exact⟨⟨w.1.2,u.1,b,r1⟩,⟨w.2,u.2,r2⟩⟩
theorem Gd{p:Pr}(h:PrIn p){n:Nat}(hn:2*p.sz<n){f:Fu}(hf:f∈p.funcs):
 ∃s v,ij (oA p f) n f.body (kA f)=some s/\eL (oA p f) n f.value s=some v/\LI (oA p f) f.params.length v.2/\IsT v.2.l 1 v.1/\v.2.loops<=16/\v.2.l.length<=64*p.sz:=by
 obtain⟨_,_,_,h4⟩:=h.lim;obtain⟨l1,l2,l3⟩:=h4 f hf;obtain⟨hb,hv⟩:=h.body hf;have hc:=h.cx hf;have hfz:=sg hf;have hpz:p.sz=1+zf2 p.arrays+iZ p.funcs:=rfl;have hfs:f.sz=1+f.name.length+zfR f.params+zfR f.locals+zep f.body+f.value.sz:=rfl;have e0:=ztN (A:=p.arrays) (F:=p.funcs) (np:=f.params.length);obtain⟨a1,a2,a3⟩:=NN l1 f.params.length 0 _ [] f.params e0 aK ac;obtain⟨b1,b2,b3⟩:=NO f.locals.length _ f.params (f.params++f.locals) a1 (by rw[eO]);have hs:LI (oA p f) f.params.length (kA f):=b1;have hs2:(kA f).loops=0:=b2.trans a2;have hs3:(kA f).l.length<=15:=by
  have e1:(kA f).l.length<=(iC f.params.length 0 { (zdS ⟨26,0,[]⟩ ⟨[],[],0,0⟩).2 with state:=(zdS ⟨26,0,[]⟩ ⟨[],[],0,0⟩).1}).l.length+f.locals.length:=b3;have e2:(iC f.params.length 0 { (zdS ⟨26,0,[]⟩ ⟨[],[],0,0⟩).2 with state:=(zdS ⟨26,0,[]⟩ ⟨[],[],0,0⟩).1}).l.length<=1+f.params.length:=a3;omega
 obtain⟨s,q1,q2,q3,q4⟩:=(NM hc (np:=f.params.length) n).2.1 f.body (kA f) hb ac hs ac;obtain⟨v,r1,r2,r3,r4⟩:=qu hc n f.value s hv ac q2;have lv:=zfx _ n _ _ _ r1;exact⟨s,v,q1,r1,r2,r3,by rw[lv.n];omega,ac⟩
theorem LI.fin{c:Cx}{np:Nat}{s:Bd}(h:LI c np s)(hl:s.l.length<2^36)(hn:s.loops<=16):Fin s:=by
 refine⟨fun x hx=>?_,hl,ac⟩;have hp:=h.p x hx;obtain⟨i,hi,e⟩:=Ck hx;have hg:s.l[i]?=some x:=by rw[br hi,e]
 have hw:=h.wf i hi;rw[xS hi]at hw;obtain⟨t,hk,_,_⟩:=JC hg hw;refine⟨hp.op,hp.imm,fun k hm=>?_,by have:=hp.len;omega⟩;have:=ss hk k hm;omega
theorem zc2{p:Pr}(h:PrIn p)(hz:p.sz<2^30){n:Nat}(hn:2*p.sz<n):FS p n:=fun f hf=>by
 obtain⟨s,v,h1,h2,h3,h4,h5,h6⟩:=Gd h hn hf;exact⟨s,v,h1,h2,h3.fin ac h5⟩
structure LwOk (p:Pr):Prop where
 sz:p.sz<2^30
 rg:zfY p=0->∀f∈p.funcs,iL f.body/\iK f.value
def nu(p:Pr):Un×Int:=(sP p (2*p.sz+1)).getD (⟨[],[]⟩,0)
theorem NQ{p:Pr}(h:PrIn p){n:Nat}(hn:2*p.sz<n):∀(l:List Fu) (gs:List Gr),(∀f∈l,f∈p.funcs)->∃r,oB p n l gs=some r
 |[],gs,_=>⟨_,rfl⟩
 |f::l,gs,hl=>by
  obtain⟨s,v,e1,e2,_⟩:=Gd h hn (hl f fm);rw[oB,lS,e1,ee,e2,ee,ee];split
  .exact⟨_,rfl⟩
  .exact NQ h hn l _ fun g hg=>hl g (gF _ hg)
theorem LwOk.low{p:Pr}(h:LwOk p):sP p (2*p.sz+1)=some ((nu p).1,(nu p).2):=by
 have:∃r,sP p (2*p.sz+1)=some r:=by
  unfold sP;split
  .rename_i c;exact NQ ⟨c,h.rg c⟩ (cL _) _ _ fun f hf=>hf
  .exact⟨_,rfl⟩
 obtain⟨r,hr⟩:=this;rw[nu,hr];rfl
end
end Go.Proofs.YtpbcimfiofmoeaaGreat
