/- Parts: QaE, QaF, QaG, QaH, QaI, QaJ. -/
import Derived.Test.YtpbcimfiofmoeaaGreatRCO
set_option linter.unusedSimpArgs false
set_option linter.unusedVariables false
set_option linter.unusedSectionVars false
set_option linter.defProp false
set_option maxHeartbeats 32000000
namespace Go.Ab
set_option maxRecDepth 20000
open Go
theorem M2{P:Prop}(h:P:=by rw[Hp.get_set,if_neg h2];exact hsm.get k h1 h2):P:=h
theorem M3{P:Prop}(h:P:=by rw[wn _ _ _ _ _ h2,List.length_replicate]):P:=h
theorem M4{P:Prop}(h:P:=by rw[List.getD_eq_getElem?_getD,List.getElem?_eq_getElem hlt];exact List.getElem_mem hlt):P:=h
theorem M5{P:Prop}(h:P:=by simp only[zdX,Nat.reduceBEq, *];exact zfQ (n:=r.2.vars.length) ac ac):P:=h
theorem FV{P:Prop}(h:P:=by simp only[zdX,Nat.reduceBEq, *];exact zfQ (n:=ws.length) ac ac):P:=h
end Go.Ab
namespace Go.Proofs.YtpbcimfiofmoeaaGreat
set_option maxRecDepth 20000
open Go Go.Ab
section
def tyQaE.tyF:=ad @dC (ad @tM (ad @eU (ad @hO (ad @gg (ad @fW (ad @vr (@iz)))))))
open tyQaE
noncomputable def M6:{c:SC // aS 52 (Tryz.f165.body.getD .skip)=c}:=by
 refine⟨?_,?_⟩;rotate_left
 .simp only[Tryz.f165,cj,aS,zen,zel,zeu,zev,Nat.blt,Nat.ble];rfl
theorem RepQ.smq{X:Qx}{H H2:Hp}{S:Nat->Prop}{s:Bd}{lv vv:AV}{q:Nat}(hR:RepQ X H S s lv vv)(hn:H.next<=H2.next)(hsm:∀k,k<H.next->k≠q->H2.get k=H.get k)(hq1:X.b<q)(hq3:¬S q)(hq4:¬zd3 vv q)(hq5:¬zd3 X.nv q):RepQ X H2 S s lv vv:=hR.keep hn fun k h1 h2=>hsm k h1 fun e=>by
 subst e;rcases h2 with h2|h2|h2|h2
 .omega
 .exact hq3 h2
 .exact hq4 h2
 .exact hq5 h2
set_option maxRecDepth 100000 in
theorem FW{tb:List En}(hG:RefT tb){X:Qx}{c:Cx}(hX:CxQ X c):∀(N n:Nat),n<N->∀(l:List St) (b b':List Bool),lR c.names n l b=some b'->zep l<2^40->∀{H:Hp}{S:Nat->Prop}{s:Bd}{lv vv:AV}{q:Nat},RepQ X H S s lv vv->H.get q=some (.cells (b.map .bool) 0 true)->X.b<q->q<H.next->¬S q->¬zd3 vv q->¬zd3 X.nv q ->
 zd5 Tryz.prog (zdW pls tb) 165 [.ptr X.b 0,.sl q 0 b.length 1,.lst (l.map St.cells)] H (zxo q H b')
 |0,n,hn,_,_,_,_,_,_,_,_,_,_,_,_,_,_,_,_,_,_=>by omega
 |N+1,n,hn,l,b,b',h,hz,H,S,s,lv,vv,q,hR,hg,hq1,hq2,hq3,hq4,hq5=>by
  have hw:Plain (zdW pls tb) 165:=hG.plain ei;have hll:=tT l;refine zed (M:=52) (rs:=[]) (hw.call _) hw.ice hw.froz Tryz.func165 rfl rfl M6.2 rfl ?_;dsimp only[M6,zd8,Nat.reduceAdd];repeat' (first
   |(apply au ?_;clear hK K)|apply Rx.o ?_|(apply aT (fun hb hbp=>?_) (fun hb hbp=>?_)<;>try(cases hb;done))|apply am ?_|(apply zdQ fun K hK=>?_)|apply aA ?_|apply zdR ?_|apply zdT ?_)
  refine zeL [0,1,2] [] 6 l.length (fun i E H2=>∃m bi,m<=n/\bi.length=b.length/\lR c.names m (l.drop i) bi=some b'/\H2.get q=some (.cells (bi.map .bool) 0 true)/\Smq H.next q H H2) eE ⟨n,b,aM _,rfl,h,hg,⟨fun _ _ _=>rfl⟩⟩ ?_;rintro i E H2 hi hcE hrH hnH hsI ⟨m,bi,hm,hbl,hJ,hg2,hsm⟩;(try simp only[zec,zeb,aX,zdX,zd2,Nat.reduceBEq,Nat.reduceAdd,Nat.reduceLeDiff,tyF, *]at hcE);(try simp only[zec,zeb,aX,zdX,zd2,Nat.reduceBEq,Nat.reduceAdd,Nat.reduceLeDiff,tyF, *]at hrH);(try simp only[zea,zef,zeB,bT,Nat.reduceAdd]at hnH);have R2:RepQ X H2 S s lv vv:=hR.smq hnH hsm.get hq1 hq3 hq4 hq5;by_cases hlt:i<l.length
  .have hlt':(i:Int)<l.length:=by omega
   have hgx:l[i]?=some l[i]:=br hlt;have hmem:=zgw (dX hlt);have hsz:=(l[i]).sz_eq;cases m with
   |zero=>simp[lR]at hJ
   |succ m=>
   rw[jl hlt]at hJ;unfold lR at hJ;simp only[]at hJ;generalize l[i]=x at *;split at hJ
   .cases hJ
   rename_i hno;simp only[ir]at hJ;obtain⟨b2,j2,b3,j3,j4⟩:=hJ;repeat' (first
    |(apply au ?_;clear hK K)|apply Ry.o ?_|apply cD ?_|(apply bS (fun hg hgp=>?_) (fun hg hgp=>?_)<;>try(cases hg;done))|apply am ?_|(apply zdQ fun K hK=>?_)|apply aA ?_|apply zdR ?_|apply zdT ?_)
   (apply aT (fun hb hbp=>?_) (fun hb hbp=>?_)<;>try(cases hb;done));apply zdR ?_;apply am ?_;apply aA ?_;apply am ?_;have hix:=CxQ.ix hG hX R2 x.name;have hbl1:(if x.kind=1\/x.kind=6 then bi.set (cR c.names x.name) true else bi).length=b.length:=by split<;>simp[hbl]
   refine vL (fun E' H'=>E'.at 0=.ptr X.b 0/\E'.at 1=.sl q 0 b.length 1/\E'.at 2=.lst (l.map St.cells)/\E'.at 6=.int .i64 i/\H'.get q=some (.cells ((if x.kind=1\/x.kind=6 then bi.set (cR c.names x.name) true else bi).map .bool) 0 true)/\H'.next=H2.next/\Smq H.next q H H') ?_ ?_
   .by_cases hk:x.kind=1\/x.kind=6
    .have hixl:cR c.names x.name<bi.length:=by
      by_cases c2:cR c.names x.name<bi.length
      .exact c2
      .exact absurd ⟨hk,ac⟩ hno
     have hixa:=MD (q:=q) (n:=b.length) (m:=cR c.names x.name) ac;have hst:=zbo hg2 hixl true;rcases hk with h1|h6
     .repeat' (first
       |(apply au ?_;clear hK K)|apply Ry.o ?_|apply cD ?_|(apply dq ?_;first|refine Rx.k (hix) ?_)|(apply bS (fun hg hgp=>?_) (fun hg hgp=>?_)<;>try(cases hg;done))|(apply aV (fun hb hbp=>?_) (fun hb hbp=>?_)<;>try(cases hb;done))|apply am ?_|(apply zdQ fun K hK=>?_)|apply aA ?_|apply zdR ?_|apply zdT ?_)
      exact⟨rfl,eE,eE,eE,eE,by rw[bz,aE rfl,aE (.inl h1)],rfl,⟨fun k h1 h2=>M2⟩⟩
     .have h1:¬x.kind=1:=by omega
      repeat' (first
       |(apply au ?_;clear hK K)|apply Ry.o ?_|apply cD ?_|(apply dq ?_;first|refine Rx.k (hix) ?_)|(apply bS (fun hg hgp=>?_) (fun hg hgp=>?_)<;>try(cases hg;done))|(apply aV (fun hb hbp=>?_) (fun hb hbp=>?_)<;>try(cases hb;done))|apply am ?_|(apply zdQ fun K hK=>?_)|apply aA ?_|apply zdR ?_|apply zdT ?_)
      exact⟨rfl,eE,eE,eE,eE,by rw[bz,aE rfl,aE (.inr h6)],rfl,⟨fun k h1 h2=>M2⟩⟩
    .have h1:¬x.kind=1:=fun e=>hk (.inl e);have h6:¬x.kind=6:=fun e=>hk (.inr e);rw[ah hk];repeat' (first
      |(apply au ?_;clear hK K)|apply Ry.o ?_|apply cD ?_|(apply bS (fun hg hgp=>?_) (fun hg hgp=>?_)<;>try(cases hg;done))|(apply aV (fun hb hbp=>?_) (fun hb hbp=>?_)<;>try(cases hb;done))|apply am ?_|(apply zdQ fun K hK=>?_)|apply aA ?_|apply zdR ?_|apply zdT ?_)
     exact⟨rfl,eE,eE,eE,eE,hg2,rfl,hsm⟩
   generalize (if x.kind=1\/x.kind=6 then bi.set (cR c.names x.name) true else bi)=b1 at *;clear hix;rintro E3 H3 ⟨k0,k1,k2,k6,g3,n3,s3⟩;dsimp only[lA];have R3:RepQ X H3 S s lv vv:=hR.smq ac s3.get hq1 hq3 hq4 hq5;have n3':H2.next<=H3.next:=ac
   clear n3;repeat' (first
    |(apply au ?_;clear hK K)|apply Rx.o ?_|(apply aT (fun hb hbp=>?_) (fun hb hbp=>?_)<;>try(cases hb;done))|apply am ?_|(apply zdQ fun K hK=>?_)|apply aA ?_|apply zdR ?_|apply zdT ?_)
   refine bA rfl bE bF ?_;simp only[bB];refine bp ?_ (by rw[<-hbl1];exact FW hG hX N m ac x.thn b1 b2 j2 ac R3 g3 hq1 ac hq3 hq4 hq5);rintro v H4 ⟨g4,n4,s4⟩;have hbl2:=wn _ _ _ _ _ j2;have s4':Smq H.next q H H4:=⟨fun k h1 h2=>by rw[s4 k ac h2];exact s3.get k h1 h2⟩
   have R4:RepQ X H4 S s lv vv:=hR.smq ac s4'.get hq1 hq3 hq4 hq5;clear s4;dsimp only[zd4];repeat' (first
    |(apply au ?_;clear hK K)|apply Rx.o ?_|(apply aT (fun hb hbp=>?_) (fun hb hbp=>?_)<;>try(cases hb;done))|apply am ?_|(apply zdQ fun K hK=>?_)|apply aA ?_|apply zdR ?_|apply zdT ?_)
   refine bA rfl bE bF ?_;simp only[bB];refine bp ?_ (by rw[<-hbl1,<-hbl2];exact FW hG hX N m ac x.els b2 b3 j3 ac R4 g4 hq1 ac hq3 hq4 hq5);rintro v H5 ⟨g5,n5,s5⟩;have hbl3:=wn _ _ _ _ _ j3;have s5':Smq H.next q H H5:=⟨fun k h1 h2=>by rw[s5 k ac h2];exact s4'.get k h1 h2⟩
   clear s5;dsimp only[zd4];repeat' (first
    |(apply au ?_;clear hK K)|apply Rx.o ?_|(apply aT (fun hb hbp=>?_) (fun hb hbp=>?_)<;>try(cases hb;done))|apply am ?_|(apply zdQ fun K hK=>?_)|apply aA ?_|apply zdR ?_|apply zdT ?_)
   refine⟨ac,zd7,zd7,eN,oZ,?_⟩;exact⟨m,b3,ac,ac,j4,g5,s5'⟩
  .have hlt':¬(i:Int)<l.length:=by omega
   repeat' (first
    |(apply au ?_;clear hK K)|apply Ry.o ?_|apply cD ?_|(apply bS (fun hg hgp=>?_) (fun hg hgp=>?_)<;>try(cases hg;done))|(apply aV (fun hb hbp=>?_) (fun hb hbp=>?_)<;>try(cases hb;done))|apply am ?_|(apply zdQ fun K hK=>?_)|apply aA ?_|apply zdR ?_|apply zdT ?_)
   all_goals (refine⟨zdZ,_,zd6,?_⟩;try simp only[zdY])
   have hd:l.drop i=[]:=rE ac;rw[hd]at hJ;cases m with
   |zero=>simp[lR]at hJ
   |succ m=>
    cases hJ;exact⟨hg2,hnH,hsm.get⟩
end
section
def tyQaF.tyF:=ad @eI (ad @dC (ad @eU (ad @ge (ad @en (ad @jO (ad @kO (ad @iw (ad @iy (ad @hO (ad @gg (ad @fW (ad @iz (ad @qP (ad @BG (@rD)))))))))))))))
open tyQaF
noncomputable def lc:{c:SC // aS 241 (Tryz.f90.body.getD .skip)=c}:=by
 refine⟨?_,?_⟩;rotate_left
 .simp only[Tryz.f90,cj,aS,zen,zel,zeu,zev,Nat.blt,Nat.ble];rfl
section
variable {tb:List En} (hG:RefT tb) {X:Qx} {c:Cx} (hX:CxQ X c) {x:St} {s:Bd} {H:Hp} {S:Nat -> Prop} {lv vv:AV}
set_option maxRecDepth 100000 in
set_option maxHeartbeats 4000000 in
include hG hX in
theorem zbY(hk:x.kind=1){n:Nat}{r:Int×Bd}(he:eL c n x.value s=some r)(hl:cR c.names x.name<r.2.vars.length)(hF:Fin r.2)(hR:RepQ X H S s lv vv):
 zd5 Tryz.prog (zdW pls tb) 90 [.ptr X.b 0,.agg x.cells] H (nf X S vv H {r.2 with vars:=r.2.vars.set (cR c.names x.name) r.1}):=by
 have hw:Plain (zdW pls tb) 90:=hG.plain ei;have R1:=hR.alloc (.cells x.cells 0 true);have F1:=(fd X S vv H).alloc (.cells x.cells 0 true);refine zed (M:=241) (rs:=[]) (hw.call _) hw.ice hw.froz Tryz.func90 rfl rfl lc.2 rfl ?_;dsimp only[lc,zd8,Nat.reduceAdd];repeat' (first
  |(apply au ?_;clear hK K)|apply Ry.o ?_|(apply aV (fun hb hbp=>?_) (fun hb hbp=>?_)<;>try(cases hb;done))|apply am ?_|(apply zdQ fun K hK=>?_)|(apply zdP 4 [(3,7),(3,10),(6,7)] fun K hK=>?_)|(apply zdP 16 [(3,11),(8,11),(10,11)] fun K hK=>?_)|(apply zdP 38 [(3,18),(3,20),(10,18),(14,18),(17,18)] fun K hK=>?_)|(apply zdU ?_;try intro _)|(apply zdV ?_ ?_<;>clear hK K)|apply aH ?_|apply zd9 rfl ?_|apply aA ?_)
 refine bA rfl bE bF ?_;simp only[bB];refine bp ?_ (qt hG hX n x.value s r he hF R1);rintro v H2 ⟨rfl,S2,lv2,R2,F2⟩;have g2:=fK hR F2;have m2:=R2.m;unfold zek at m2;have kix:=CxQ.ix hG hX R2 x.name;obtain⟨q,hix,hld,H3,hst,hq1,hq2,hq3,R3,F3,o3,n3⟩:=R2.setV hl r.1;have n2:H.next+1<=H2.next:=F2.next
 have m3:=R3.m;have g3:H3.get H.next=some (.cells x.cells 0 true):=by rw[o3 _ (by have:=hR.new (aM _);intro e;subst e;rcases F2.own _ hq3 with e|e;exact this.2.1 e;simp only[zea]at e;omega)];exact g2
 dsimp only[zek]at m3;dsimp only[zd4];repeat' (first
  |(apply au ?_;clear hK K)|apply Rx.o ?_|apply ba ?_|(apply eu ?_;first|refine Rx.k (kix) ?_)|apply am ?_|(apply zdQ fun K hK=>?_)|(apply zdP 4 [(3,7),(3,10),(6,7)] fun K hK=>?_)|(apply zdP 16 [(3,11),(8,11),(10,11)] fun K hK=>?_)|(apply zdP 38 [(3,18),(3,20),(10,18),(14,18),(17,18)] fun K hK=>?_)|(apply zdU ?_;try intro _)|(apply zdV ?_ ?_<;>clear hK K)|apply aH ?_|apply zd9 rfl ?_|apply aA ?_)
 .exact eK
 .all_goals (refine⟨zdZ,_,zd6,?_⟩;try simp only[zdY])
  exact⟨S2,lv2,vv,R3,F1.trans (F2.trans F3)⟩
set_option maxRecDepth 100000 in
set_option maxHeartbeats 4000000 in
include hG hX in
theorem zbZ(hk:x.kind=2){n:Nat}{i v:Int×Bd}(h1:eL c n x.at_ s=some i)(h2:eL c n x.value i.2=some v){a:Ar}(ha:c.arrays[cR (c.arrays.map (·.name)) x.name]?=some a)
 (hF:Fin (zdS ⟨28,cR (c.arrays.map (·.name)) x.name,[(fQ a.len i.1 v.2).state,i.1,v.1]⟩ (fQ a.len i.1 v.2)).2) (hR:RepQ X H S s lv vv) :
 zd5 Tryz.prog (zdW pls tb) 90 [.ptr X.b 0,.agg x.cells] H (nf X S vv H { (zdS ⟨28,cR (c.arrays.map (·.name)) x.name,[(fQ a.len i.1 v.2).state,i.1,v.1]⟩ (fQ a.len i.1 v.2)).2 with state:=(zdS ⟨28,cR (c.arrays.map (·.name)) x.name,[(fQ a.len i.1 v.2).state,i.1,v.1]⟩ (fQ a.len i.1 v.2)).1}):=by
 have hw:Plain (zdW pls tb) 90:=hG.plain ei;have R1:=hR.alloc (.cells x.cells 0 true);have F1:=(fd X S vv H).alloc (.cells x.cells 0 true);have hFc:Fin (fQ a.len i.1 v.2):=hF.le (zfa _ _).le;have hFv:Fin v.2:=hFc.le (uy _ _ _).le;have hFi:Fin i.2:=hFv.le (zfx c n _ _ _ h2).le;have ha':X.p.arrays[cR (c.arrays.map (·.name)) x.name]?=some a:=by rw[hX.ar];exact ha
 refine zed (M:=241) (rs:=[]) (hw.call _) hw.ice hw.froz Tryz.func90 rfl rfl lc.2 rfl ?_;dsimp only[lc,zd8,Nat.reduceAdd];repeat' (first
  |(apply au ?_;clear hK K)|apply Ry.o ?_|(apply aV (fun hb hbp=>?_) (fun hb hbp=>?_)<;>try(cases hb;done))|apply am ?_|(apply zdQ fun K hK=>?_)|apply aA ?_)
 refine bA rfl bE bF ?_;simp only[bB];refine bp ?_ (qt hG hX n x.at_ s i h1 hFi R1);rintro w H2 ⟨rfl,S2,lv2,R2,F2⟩;have g2:=fK hR F2;dsimp only[zd4];repeat' (first
  |(apply au ?_;clear hK K)|apply Rx.o ?_|apply ba ?_|apply am ?_|(apply zdQ fun K hK=>?_)|apply aA ?_)
 refine bA rfl bE bF ?_;simp only[bB];refine bp ?_ (qt hG hX n x.value i.2 v h2 hFv R2);rintro w H3 ⟨rfl,S3,lv3,R3,F3⟩;have g3:=fK hR (F2.trans F3);have kax:=M1 hG hX R3 x.name;dsimp only[zd4];repeat' (first
  |(apply au ?_;clear hK K)|apply Rx.o ?_|apply ba ?_|(apply eu ?_;first|refine Rx.k (kax) ?_)|apply am ?_|(apply zdQ fun K hK=>?_)|apply aA ?_)
 refine bA rfl bE bF ?_;simp only[bB];refine bp ?_ (M0 hG R3 (cR (c.arrays.map (·.name)) x.name) i.1 ha' hFc);rintro w H4 ⟨S4,lv4,R4,F4⟩;have m4:=R4.m;unfold zek at m4;dsimp only[zd4];repeat' (first
  |(apply au ?_;clear hK K)|apply Rx.o ?_|apply ba ?_|apply am ?_|(apply zdQ fun K hK=>?_)|apply aA ?_)
 refine bA rfl bE bF ?_;simp only[bB];refine bp ?_ (zgc hG (R4.alloc _) ⟨28,cR (c.arrays.map (·.name)) x.name,[(fQ a.len i.1 v.2).state,i.1,v.1]⟩ rfl ev (cL _) hF rfl rfl);rintro w H5 ⟨rfl,S5,lv5,R5,F5⟩;have m5:=R5.m;unfold zek at m5;dsimp only[zd4];repeat' (first
  |(apply au ?_;clear hK K)|apply Rx.o ?_|apply ba ?_|apply am ?_|(apply zdQ fun K hK=>?_)|apply aA ?_)
 all_goals (refine⟨zdZ,_,zd6,?_⟩;try simp only[zdY])
 obtain⟨R6,F6⟩:=R5.setS (zdS ⟨28,cR (c.arrays.map (·.name)) x.name,[(fQ a.len i.1 v.2).state,i.1,v.1]⟩ (fQ a.len i.1 v.2)).1;exact⟨S5,lv5,vv,R6,F1.trans (F2.trans (F3.trans (F4.trans (((fd X S4 vv H4).alloc _).trans (F5.trans F6)))))⟩
set_option maxRecDepth 100000 in
set_option maxHeartbeats 4000000 in
include hG hX in
theorem zb0(hk:x.kind=5){n:Nat}{v:Int×Bd}(h1:eL c n x.value s=some v)(hF:Fin (zdS ⟨29,0,[v.2.state,v.1]⟩ v.2).2)(hR:RepQ X H S s lv vv):
 zd5 Tryz.prog (zdW pls tb) 90 [.ptr X.b 0,.agg x.cells] H (nf X S vv H { (zdS ⟨29,0,[v.2.state,v.1]⟩ v.2).2 with state:=(zdS ⟨29,0,[v.2.state,v.1]⟩ v.2).1}):=by
 have hw:Plain (zdW pls tb) 90:=hG.plain ei;have R1:=hR.alloc (.cells x.cells 0 true);have F1:=(fd X S vv H).alloc (.cells x.cells 0 true);have hFv:Fin v.2:=hF.le (zfa _ _).le;refine zed (M:=241) (rs:=[]) (hw.call _) hw.ice hw.froz Tryz.func90 rfl rfl lc.2 rfl ?_;dsimp only[lc,zd8,Nat.reduceAdd];repeat' (first
  |(apply au ?_;clear hK K)|apply Ry.o ?_|(apply aV (fun hb hbp=>?_) (fun hb hbp=>?_)<;>try(cases hb;done))|apply am ?_|(apply zdQ fun K hK=>?_)|apply aA ?_)
 refine bA rfl bE bF ?_;simp only[bB];refine bp ?_ (qt hG hX n x.value s v h1 hFv R1);rintro w H4 ⟨rfl,S4,lv4,R4,F4⟩;have m4:=R4.m;unfold zek at m4;dsimp only[zd4];repeat' (first
  |(apply au ?_;clear hK K)|apply Rx.o ?_|apply ba ?_|apply am ?_|(apply zdQ fun K hK=>?_)|apply aA ?_)
 refine bA rfl bE bF ?_;simp only[bB];refine bp ?_ (zgc hG (R4.alloc _) ⟨29,0,[v.2.state,v.1]⟩ rfl ev (cL _) hF rfl rfl);rintro w H5 ⟨rfl,S5,lv5,R5,F5⟩;have m5:=R5.m;unfold zek at m5;dsimp only[zd4];repeat' (first
  |(apply au ?_;clear hK K)|apply Rx.o ?_|apply ba ?_|apply am ?_|(apply zdQ fun K hK=>?_)|apply aA ?_)
 all_goals (refine⟨zdZ,_,zd6,?_⟩;try simp only[zdY])
 obtain⟨R6,F6⟩:=R5.setS (zdS ⟨29,0,[v.2.state,v.1]⟩ v.2).1;exact⟨S5,lv5,vv,R6,F1.trans (F4.trans (((fd X S4 vv H4).alloc _).trans (F5.trans F6)))⟩
set_option maxRecDepth 100000 in
set_option maxHeartbeats 4000000 in
include hG hX in
theorem zb1(hk:x.kind=7)(hF:Fin (ky (cq (16+x.n)) (zdS ⟨1,0,[]⟩ s).1 (zdS ⟨1,0,[]⟩ s).2))(hR:RepQ X H S s lv vv):
 zd5 Tryz.prog (zdW pls tb) 90 [.ptr X.b 0,.agg x.cells] H (nf X S vv H (ky (cq (16+x.n)) (zdS ⟨1,0,[]⟩ s).1 (zdS ⟨1,0,[]⟩ s).2)):=by
 have hw:Plain (zdW pls tb) 90:=hG.plain ei;have R1:=hR.alloc (.cells x.cells 0 true);have F1:=(fd X S vv H).alloc (.cells x.cells 0 true);have hFz:Fin (zdS ⟨1,0,[]⟩ s).2:=hF.le (rB _ _ _).le;refine zed (M:=241) (rs:=[]) (hw.call _) hw.ice hw.froz Tryz.func90 rfl rfl lc.2 rfl ?_;dsimp only[lc,zd8,Nat.reduceAdd];repeat' (first
  |(apply au ?_;clear hK K)|apply Ry.o ?_|(apply aV (fun hb hbp=>?_) (fun hb hbp=>?_)<;>try(cases hb;done))|apply am ?_|(apply zdQ fun K hK=>?_)|(apply zdP 4 [(3,7),(3,10),(6,7)] fun K hK=>?_)|(apply zdP 16 [(3,11),(8,11),(10,11)] fun K hK=>?_)|(apply zdP 38 [(3,18),(3,20),(10,18),(14,18),(17,18)] fun K hK=>?_)|(apply zdU ?_;try intro _)|(apply zdV ?_ ?_<;>clear hK K)|apply aH ?_|apply zd9 rfl ?_|apply aA ?_)
 refine bA rfl bE bF ?_;simp only[bB];refine bp ?_ (qs hG R1 1 0 hFz);rintro w H4 ⟨rfl,S4,lv4,R4,F4⟩;have g4:=fK hR F4;have m4:=R4.m;have ew:IntKind.wrap .i64 (16+x.n)=cq (16+x.n):=rfl;unfold zek at m4;dsimp only[zd4];have hput:=zgc hG (R4.alloc (.cells [.int .i64 (zdS ⟨1,0,[]⟩ s).2.state,.int .i64 (zdS ⟨1,0,[]⟩ s).1] 0 true)) ⟨27,cq (16+x.n),[(zdS ⟨1,0,[]⟩ s).2.state,(zdS ⟨1,0,[]⟩ s).1]⟩ rfl ev (cL _) (hF.le ⟨ol _,aM _⟩) rfl rfl;repeat' (first
  |(apply au ?_;clear hK K)|apply Rx.o ?_|apply ba ?_|apply am ?_|(apply zdQ fun K hK=>?_)|(apply zdP 4 [(3,7),(3,10),(6,7)] fun K hK=>?_)|(apply zdP 16 [(3,11),(8,11),(10,11)] fun K hK=>?_)|(apply zdP 38 [(3,18),(3,20),(10,18),(14,18),(17,18)] fun K hK=>?_)|(apply zdU ?_;try intro _)|(apply zdV ?_ ?_<;>clear hK K)|apply aH ?_|apply zd9 rfl ?_|apply aA ?_)
 refine bA rfl bE bF ?_;simp only[bB];refine bp ?_ hput;rintro w H5 ⟨rfl,S5,lv5,R5,F5⟩;have F45:=((fd X S4 vv H4).alloc _).trans F5;have g5:=fK hR (F4.trans F45);have n4:H.next+1<=H4.next:=F4.next
 have n5:H4.next+1<=H5.next:=F5.next
 have g4a:(H4.alloc (.cells [.int .i64 (zdS ⟨1,0,[]⟩ s).2.state,.int .i64 (zdS ⟨1,0,[]⟩ s).1] 0 true)).get H.next=some (.cells x.cells 0 true):=fK hR (F4.trans ((fd X S4 vv H4).alloc _))
 have m5:H5.get X.b=some (.cells (zek X { (zdS ⟨27,cq (16+x.n),[(zdS ⟨1,0,[]⟩ s).2.state,(zdS ⟨1,0,[]⟩ s).1]⟩ (zdS ⟨1,0,[]⟩ s).2).2 with state:=(zdS ⟨1,0,[]⟩ s).2.state} lv5 vv) 0 true):=R5.m;have m4a:=(R4.alloc (.cells [.int .i64 (zdS ⟨1,0,[]⟩ s).2.state,.int .i64 (zdS ⟨1,0,[]⟩ s).1] 0 true)).m;have m6:=(R5.setS (zdS ⟨27,cq (16+x.n),[(zdS ⟨1,0,[]⟩ s).2.state,(zdS ⟨1,0,[]⟩ s).1]⟩ (zdS ⟨1,0,[]⟩ s).2).1).1.m;obtain⟨R6,F6⟩:=R5.setS (zdS ⟨27,cq (16+x.n),[(zdS ⟨1,0,[]⟩ s).2.state,(zdS ⟨1,0,[]⟩ s).1]⟩ (zdS ⟨1,0,[]⟩ s).2).1;have g6:=fK hR (F4.trans (F45.trans F6));dsimp only[zek]at m4a m5 m6 g6;dsimp only[zd4];repeat' (first
  |(apply au ?_;clear hK K)|apply Rx.o ?_|apply ba ?_|apply am ?_|(apply zdQ fun K hK=>?_)|(apply zdP 4 [(3,7),(3,10),(6,7)] fun K hK=>?_)|(apply zdP 16 [(3,11),(8,11),(10,11)] fun K hK=>?_)|(apply zdP 38 [(3,18),(3,20),(10,18),(14,18),(17,18)] fun K hK=>?_)|(apply zdU ?_;try intro _)|(apply zdV ?_ ?_<;>clear hK K)|apply aH ?_|apply zd9 rfl ?_|apply aA ?_)
 .exact eK
 .all_goals (refine⟨zdZ,_,zd6,?_⟩;try simp only[zdY])
  exact⟨S5,lv5,vv,R6,F1.trans (F4.trans (F45.trans F6))⟩
set_option maxRecDepth 100000 in
set_option maxHeartbeats 4000000 in
include hG in
theorem zb2(h1:¬x.kind=1)(h2:¬x.kind=2)(h3:¬x.kind=3)(h4:¬x.kind=4)(h5:¬x.kind=5)(h6:¬x.kind=6)(h7:¬x.kind=7)(hR:RepQ X H S s lv vv):
 zd5 Tryz.prog (zdW pls tb) 90 [.ptr X.b 0,.agg x.cells] H (nf X S vv H s):=by
 have hw:Plain (zdW pls tb) 90:=hG.plain ei;have R1:=hR.alloc (.cells x.cells 0 true);have F1:=(fd X S vv H).alloc (.cells x.cells 0 true);refine zed (M:=241) (rs:=[]) (hw.call _) hw.ice hw.froz Tryz.func90 rfl rfl lc.2 rfl ?_;dsimp only[lc,zd8,Nat.reduceAdd];repeat' (first
  |(apply au ?_;clear hK K)|apply Ry.o ?_|(apply aV (fun hb hbp=>?_) (fun hb hbp=>?_)<;>try(cases hb;done))|apply am ?_|(apply zdQ fun K hK=>?_)|apply aA ?_|apply zdR ?_)
 all_goals (refine⟨zdZ,_,zd6,?_⟩;try simp only[zdY])
 exact⟨S,lv,vv,R1,F1⟩
end
end
section
def tyQaG.tyF:=ad @eI (ad @dC (ad @eU (ad @ge (ad @en (ad @jO (ad @kO (ad @iw (ad @iy (ad @hO (ad @gg (ad @fW (ad @iz (ad @qP (@wm))))))))))))))
open tyQaG
structure RowQ (X:Qx) (S:Nat->Prop) (vv:AV) (lo:Nat) (H:Hp) (av:AV) (l:List Int):Prop where
 r:ze0 H av l lo
 n:∀k,zd3 av k->¬S k/\¬zd3 vv k/\¬zd3 X.nv k
theorem RowQ.fr{X:Qx}{S S':Nat->Prop}{vv vv':AV}{lo:Nat}{H H':Hp}{av:AV}{l:List Int}(h:RowQ X S vv lo H av l)(hb:X.b<lo)(f:FrQ X S vv H S' vv' H'):RowQ X S' vv' lo H' av l:=by
 refine⟨h.r.keep f.next fun k hk=>?_,fun k hk=>?_⟩
 .have a:=h.r.lt hk;have b:=h.n k hk;exact f.get k a.2 ac b.1 b.2.1
 .have a:=h.r.lt hk;have b:=h.n k hk;refine⟨fun e=>?_,fun e=>?_,b.2.2⟩
  .rcases f.sub k e with e|e
   .exact b.1 e
   .omega
  .rcases f.own k e with e|e
   .exact b.2.1 e
   .omega
theorem RowQ.app{X:Qx}{S:Nat->Prop}{s:Bd}{lv vv:AV}{lo:Nat}{H Hb:Hp}{av:AV}{l:List Int}(h:RowQ X S vv lo H av l)(hR:RepQ X Hb S s lv vv)(hlo:lo<=Hb.next)(hn:H.next<=Hb.next)(hg:∀k,k<H.next->Hb.get k=H.get k)(x:Int){r imm:Nat}(hx:Hb.get r=some (.cells [.int .i64 x] imm true))(hb:X.b<lo)(hl:l.length<2^39):
 ∃v' H',zeZ Tryz.prog false Hb 23 23 av (.sl r 0 1 1)=some (v',H')/\RowQ X S vv lo H' v' (l++[x])/\RepQ X H' S s lv vv/\Hb.next<=H'.next/\(∀k,k<Hb.next->¬zd3 av k->H'.get k=Hb.get k)/\(∀k,zd3 v' k->zd3 av k\/Hb.next<=k)/\fM H' v' (l++[x]) lo:=by
 have hr:ze0 Hb av l lo:=h.r.keep hn fun k hk=>hg k (h.r.lt hk).2;obtain⟨v',H',a1,a2,a3,a4,a5,a6⟩:=pi x hr hlo hx hl;refine⟨v',H',a1,⟨.inr a2,fun k hk=>?_⟩,hR.keep ac fun k h1 h2=>a5 k h1 fun e=>?_,ac,a5,a6,a2⟩
 .rcases a6 k hk with e|e
  .exact h.n k e
  .have:=hR.new e;exact⟨this.1,this.2.1,fun e2=>by have:=(hR.nS k e2).2.1;omega⟩
 .have b:=h.n k e;have c:=h.r.lt e;rcases h2 with h2|h2|h2|h2
  .omega
  .exact b.1 h2
  .exact b.2.1 h2
  .exact b.2.2 h2
theorem RepQ.ldP{X:Qx}{H:Hp}{S:Nat->Prop}{s:Bd}{lv vv:AV}(h:RepQ X H S s lv vv):zfC Tryz.prog H 49 (.ptr X.b 0)=some (.agg X.p.cells):=by
 rw[vk,h.m,Pr.cells_eq];show ze6 2 (List.drop 0 (zek X s lv vv))=_;rfl
theorem zb3{tb:List En}(hG:RefT tb)(p:Pr)(hp:p.funcs.length<2^60)(nm:zeP)(H:Hp):zd5 Tryz.prog (zdW pls tb) 108 [.agg p.cells,.str nm] H fun v H'=>v=.int .i64 (zfc p.funcs nm 0)/\H'=H:=
 zeJ (enc:=ul) (ok:=fun x=>x.1.funcs.length<2^60) (out:=fun x=>.int .i64 (zfc x.1.funcs x.2 0)) ES (x:=(p,nm)) (hG.ff _) hp
section
variable {tb:List En} (hG:RefT tb) {X:Qx} {c:Cx} (hX:CxQ X c) {x:St} {s:Bd} {H:Hp} {S:Nat -> Prop} {lv vv:AV}
set_option maxRecDepth 100000 in
set_option maxHeartbeats 4000000 in
include hG hX in
theorem zb4(hk:x.kind=6){n:Nat}{av:List Int×Bd}(h1:ou c n x.args s=some av)(hl:cR c.names x.name<av.2.vars.length)(hz:x.sz<2^36)
 (hF:Fin (zdS ⟨24,0,[(zdS ⟨30,zfc c.funcs x.to 0,av.2.state::av.1⟩ av.2).1]⟩ { (zdS ⟨30,zfc c.funcs x.to 0,av.2.state::av.1⟩ av.2).2 with state:=(zdS ⟨30,zfc c.funcs x.to 0,av.2.state::av.1⟩ av.2).1}).2) (hR:RepQ X H S s lv vv) :
 zd5 Tryz.prog (zdW pls tb) 90 [.ptr X.b 0,.agg x.cells] H (nf X S vv H (let r:=zdS ⟨30,zfc c.funcs x.to 0,av.2.state::av.1⟩ av.2;let q:=zdS ⟨24,0,[r.1]⟩ {r.2 with state:=r.1};{q.2 with vars:=q.2.vars.set (cR c.names x.name) q.1})):=by
 have hw:Plain (zdW pls tb) 90:=hG.plain ei;have hkeep:(zdW pls tb).keep 90=false:=rfl;have R1:=hR.alloc (.cells x.cells 0 true);have F1:=(fd X S vv H).alloc (.cells x.cells 0 true);have gx1:(H.alloc (.cells x.cells 0 true)).get H.next=some (.cells x.cells 0 true):=eR
 have o5:=hR.o5;have hal:=sf x.args;have hsz:=x.sz_eq;simp only[];generalize hr:zdS ⟨30,zfc c.funcs x.to 0,av.2.state::av.1⟩ av.2=r at *;have hFr:Fin r.2:=hF.le ⟨(zfa ⟨24,0,[r.1]⟩ {r.2 with state:=r.1}).le.l,(zfa ⟨24,0,[r.1]⟩ {r.2 with state:=r.1}).le.n⟩;have hFa:Fin av.2:=by rw[<-hr]at hFr;exact hFr.le (zfa _ _).le
 have happl:=(wh c n _ _ _ h1).2;refine zed (M:=241) (rs:=[]) (hw.call _) hw.ice hw.froz Tryz.func90 rfl rfl lc.2 rfl ?_;dsimp only[lc,zd8,Nat.reduceAdd];repeat' (first
  |(apply au ?_;clear hK K)|apply Ry.o ?_|(apply aV (fun hb hbp=>?_) (fun hb hbp=>?_)<;>try(cases hb;done))|apply am ?_|(apply zdQ fun K hK=>?_)|(apply l7 23 [0,1,2,3,4,5,6,7,9,10,11,12,13,14,8,15,16,17,18,19] [(5,14),(7,14),(11,14),(11,15),(12,14),(12,15)] fun K hK=>?_)|(apply l7 24 [0,1,2,3,4,5,6,8,9,10,11,12,13,7,14,15,16] [(3,13),(3,14),(3,16),(6,13),(11,13),(11,14),(12,13),(12,14)] fun K hK=>?_)|(apply zdU ?_;try intro _)|(apply zdV ?_ ?_<;>clear hK K)|apply aH ?_|apply zd9 rfl ?_|apply aA ?_|apply zdR ?_|apply zdT ?_)
 refine zeL [0,3] [] 11 x.args.length (fun i E H2=>∃acc rest s2 S2 lv2 a,E.at 10=a/\ou c n (x.args.drop i) s2=some (rest,av.2)/\av.1=acc++rest/\RepQ X H2 S2 s2 lv2 vv/\FrQ X S vv (H.alloc (.cells x.cells 0 true)) S2 vv H2/\RowQ X S2 vv (H.next+1) H2 a acc/\acc.length=i) eE ⟨[],av.1,s,S,lv,.nilS,eE,h1,rfl,R1,fd _ _ _ _,⟨.inl ⟨rfl,rfl⟩,fun k hk=>(rC hk).elim⟩,rfl⟩ ?_;rintro i E H2 hi hcE hrH hnH hsI ⟨acc,rest,s2,S2,lv2,a,k8,hJ,happ,R2,F2,W2,hacc⟩;(try simp only[zec,zeb,aX,zdX,zd2,Nat.reduceBEq,Nat.reduceAdd,Nat.reduceLeDiff,tyF, *]at hcE);(try simp only[zec,zeb,aX,zdX,zd2,Nat.reduceBEq,Nat.reduceAdd,Nat.reduceLeDiff,tyF, *]at hrH);(try simp only[zea,zef,zeB,bT,Nat.reduceAdd]at hnH);have n2:H.next+1<=H2.next:=hnH
 have gb2:=fK hR F2;by_cases hlt:i<x.args.length
 .have hlt':(i:Int)<x.args.length:=by omega
  have hgx:x.args[i]?=some x.args[i]:=br hlt;rw[jl hlt]at hJ;unfold ou at hJ;simp only[ir,di]at hJ;obtain⟨e1,he1,r2,hr2,rfl,hr2'⟩:=hJ;generalize x.args[i]=y at *;have hFe:Fin e1.2:=by
   have:=(wh c n _ _ _ hr2).1.le;rw[hr2']at this;exact hFa.le this
  repeat' (first
   |(apply au ?_;clear hK K)|apply Ry.o ?_|(apply aV (fun hb hbp=>?_) (fun hb hbp=>?_)<;>try(cases hb;done))|apply am ?_|(apply zdQ fun K hK=>?_)|(apply l7 23 [0,1,2,3,4,5,6,7,9,10,11,12,13,14,8,15,16,17,18,19] [(5,14),(7,14),(11,14),(11,15),(12,14),(12,15)] fun K hK=>?_)|(apply l7 24 [0,1,2,3,4,5,6,8,9,10,11,12,13,7,14,15,16] [(3,13),(3,14),(3,16),(6,13),(11,13),(11,14),(12,13),(12,14)] fun K hK=>?_)|(apply zdU ?_;try intro _)|(apply zdV ?_ ?_<;>clear hK K)|apply aH ?_|apply zd9 rfl ?_|apply aA ?_|apply zdR ?_|apply zdT ?_)
  refine bA rfl bE bF ?_;simp only[bB];refine bp ?_ (qt hG hX n y s2 e1 he1 hFe R2);rintro w H3 ⟨rfl,S3,lv3,R3,F3⟩;have W3:=W2.fr ac F3;have n3:H2.next<=H3.next:=F3.next
  have R3a:=R3.alloc (.cells [.int .i64 e1.1] 0 true);obtain⟨v5,H5,a5,W5,R5,n5,q5,_,_⟩:=W3.app R3a fx (cZ _) (fun k hk=>ez) e1.1 (r:=H3.next) (imm:=0) eR ac ac;have F5:FrQ X S vv (H.alloc (.cells x.cells 0 true)) S3 vv H5:=by
   have F:=F2.trans F3;refine⟨by have:=F.next;simp only[zea]at n5 this⊢;omega,fun k h1 h2 h4 h5=>?_,F.sub,F.own⟩;rw[q5 k (by simp only[zea]at h1⊢;omega) (fun e=>by have:=W3.r.lt e;simp only[zea]at h1;omega),zd1,ah (by simp only[zea]at h1;omega)];exact F.get k h1 h2 h4 h5
  have n5':H2.next<=H5.next:=pm
  dsimp only[zd4];repeat' (first
   |(apply au ?_;clear hK K)|apply Rx.o ?_|apply ba ?_|apply am ?_|(apply zdQ fun K hK=>?_)|(apply l7 23 [0,1,2,3,4,5,6,7,9,10,11,12,13,14,8,15,16,17,18,19] [(5,14),(7,14),(11,14),(11,15),(12,14),(12,15)] fun K hK=>?_)|(apply l7 24 [0,1,2,3,4,5,6,8,9,10,11,12,13,7,14,15,16] [(3,13),(3,14),(3,16),(6,13),(11,13),(11,14),(12,13),(12,14)] fun K hK=>?_)|(apply zdU ?_;try intro _)|(apply zdV ?_ ?_<;>clear hK K)|apply aH ?_|apply zd9 rfl ?_|apply aA ?_|apply zdR ?_|apply zdT ?_)
  refine⟨ac,zd7,zd7,eN,EJ,?_⟩;exact⟨acc++[e1.1],r2.1,e1.2,S3,lv3,v5,eE,by rw[<-hr2'];exact hr2,by rw[happ];simp,R5,F5,W5,by simp[hacc]⟩
 .have hlt':¬(i:Int)<x.args.length:=by omega
  have hd:x.args.drop i=[]:=rE ac;rw[hd]at hJ;simp only[ou,di]at hJ;obtain⟨hJ1,hJ2⟩:=hJ;subst hJ2;rw[<-hJ1,ll]at happ;rw[<-happ]at W2 hacc;clear hd hacc;have m2:=R2.m;unfold zek at m2;have kf:=zb3 hG X.p (by rw[hX.fs];exact Nat.lt_trans hX.l3 aY) x.to;rw[hX.fs]at kf;have Rb:=R2.alloc (.cells [.int .i64 av.2.state] 0 true);obtain⟨v6,H6,a6,i6,n6,l6,f6,q6⟩:=XA (H:=H2.alloc (.cells [.int .i64 av.2.state] 0 true)) (v:=.sl H2.next 0 1 1) (l:=[av.2.state]) (lo:=H2.next) ⟨H2.next,0,rfl,ev,dE _,aM _,cL _⟩ (cZ _) (W2.r.keep (cZ _) fun k hk=>by rw[zd1,ah (by have:=W2.r.lt hk;omega)]) (by rw[happl];simp only[mF];omega);simp only[zea]at n6 l6 f6 q6;have hf6:∀k,k<H2.next->H6.get k=H2.get k:=fun k hk=>by rw[l6 k hk,zd1,ah ac]
  have R6:RepQ X H6 S2 av.2 lv2 vv:=R2.keep ac fun k h1 _=>hf6 k h1;have F6:FrQ X S2 vv H2 S2 vv H6:=⟨ac,fun k h1 _ _ _=>hf6 k h1,fun _ h=>.inl h,fun _ h=>.inl h⟩;have hput:=BQ (lo:=H2.next) hG R6 ⟨30,zfc c.funcs x.to 0,av.2.state::av.1⟩ (.inr i6) (by rw[hr];exact hFr);have m6:=R6.m;have mb:=Rb.m;have gbb:(H2.alloc (.cells [.int .i64 av.2.state] 0 true)).get H.next=some (.cells x.cells 0 true):=by rw[zd1,ah ac];exact gb2
  have gb6:H6.get H.next=some (.cells x.cells 0 true):=by rw[hf6 _ ac];exact gb2
  unfold zek at m6 mb;have p2:=R2.ldP;have pb:=Rb.ldP;have p6:=R6.ldP;repeat' (first
   |(apply au ?_;clear hK K)|apply Ry.o ?_|(apply dq ?_;first|refine Rx.k (kf _) ?_)|(apply aV (fun hb hbp=>?_) (fun hb hbp=>?_)<;>try(cases hb;done))|apply am ?_|(apply zdQ fun K hK=>?_)|(apply l7 23 [0,1,2,3,4,5,6,7,9,10,11,12,13,14,8,15,16,17,18,19] [(5,14),(7,14),(11,14),(11,15),(12,14),(12,15)] fun K hK=>?_)|(apply l7 24 [0,1,2,3,4,5,6,8,9,10,11,12,13,7,14,15,16] [(3,13),(3,14),(3,16),(6,13),(11,13),(11,14),(12,13),(12,14)] fun K hK=>?_)|(apply zdU ?_;try intro _)|(apply zdV ?_ ?_<;>clear hK K)|apply aH ?_|apply zd9 rfl ?_|apply aA ?_|apply zdR ?_|apply zdT ?_)
  refine bA rfl bE bF ?_;simp only[bB];refine bp ?_ hput;intro w H7 h7;rw[hr]at h7;obtain⟨rfl,S7,lv7,R7,F7'⟩:=h7;have F7:=F6.trans F7';have n67:H6.next<=H7.next:=F7'.next
  have n7:H2.next<=H7.next:=F7.next
  clear hput;have gb7:=fK hR (F2.trans F7);have m7:=R7.m;have p7:=R7.ldP;unfold zek at m7;obtain⟨R8,F8⟩:=R7.setS r.1;have gb8:=fK hR (F2.trans (F7.trans F8));have m8:=R8.m;have p8:=R8.ldP;have hv8:r.2.vars=av.2.vars:=by rw[<-hr];rfl
  have hst8:r.2.state=av.2.state:=by rw[<-hr];rfl
  have hl8:cR c.names x.name<r.2.vars.length:=by rw[hv8];exact hl
  clear hv8;obtain⟨q,hix,hld,_⟩:=R8.setV hl8 0;have R8a:=R8.alloc (.cells [.int .i64 r.1] 0 true);have kix:=CxQ.ix hG hX R8a x.name;have hput:=zgc hG R8a ⟨24,0,[r.1]⟩ rfl ev (cL _) hF rfl rfl;have n8:(H7.set X.b (.cells (zek X {r.2 with state:=r.1} lv7 vv) 0 true)).next=H7.next:=rfl
  have gb8a:=fK hR (F2.trans (F7.trans (F8.alloc (.cells [.int .i64 r.1] 0 true))));have m8a:=R8a.m;dsimp only[zek]at R8 F8 gb8 gb8a m8 m8a p8 R8a hput hld n8 kix;rw[n8]at hput;rw[hst8]at m7;dsimp only[zd4];repeat' (first
   |(apply au ?_;clear hK K)|apply Rx.o ?_|apply ba ?_|(apply eu ?_;first|refine Rx.k (kix) ?_)|apply am ?_|(apply zdQ fun K hK=>?_)|(apply l7 23 [0,1,2,3,4,5,6,7,9,10,11,12,13,14,8,15,16,17,18,19] [(5,14),(7,14),(11,14),(11,15),(12,14),(12,15)] fun K hK=>?_)|(apply l7 24 [0,1,2,3,4,5,6,8,9,10,11,12,13,7,14,15,16] [(3,13),(3,14),(3,16),(6,13),(11,13),(11,14),(12,13),(12,14)] fun K hK=>?_)|(apply zdU ?_;try intro _)|(apply zdV ?_ ?_<;>clear hK K)|apply aH ?_|apply zd9 rfl ?_|apply aA ?_|apply zdR ?_|apply zdT ?_)
  .exact eK
  .refine bA rfl bE bF ?_;simp only[bB];refine bp ?_ hput;rintro w H9 ⟨rfl,S9,lv9,R9,F9⟩;have hl9:cR c.names x.name<(zdS ⟨24,0,[r.1]⟩ {r.2 with state:=r.1}).2.vars.length:=hl8;obtain⟨q',hix',hld',H10,hst,hq1,hq2,hq3,R10,F10,o10,n10⟩:=R9.setV hl9 (zdS ⟨24,0,[r.1]⟩ {r.2 with state:=r.1}).1;have hqq:q'=q:=by
    rw[hix]at hix';simp only[aQ,AV.ptr.injEq]at hix';exact hix'.1.symm
   subst hqq;have m9:H9.get X.b=some (.cells (zek X { (zdS ⟨24,0,[r.1]⟩ {r.2 with state:=r.1}).2 with state:=r.1} lv9 vv) 0 true):=R9.m;have m10:H10.get X.b=some (.cells (zek X { (zdS ⟨24,0,[r.1]⟩ {r.2 with state:=r.1}).2 with state:=r.1} lv9 vv) 0 true):=R10.m;have F89:=F2.trans (F7.trans (F8.trans (((fd X S7 vv _).alloc _).trans F9)));have gb9:=fK hR F89;have gb10:=fK hR (F89.trans F10);have n9:=F9.next
   dsimp only[zek]at m9 m10;simp only[zea,zef]at n9;dsimp only[zd4];repeat' (first
    |(apply au ?_;clear hK K)|apply Rx.o ?_|apply ba ?_|apply am ?_|(apply zdQ fun K hK=>?_)|(apply l7 23 [0,1,2,3,4,5,6,7,9,10,11,12,13,14,8,15,16,17,18,19] [(5,14),(7,14),(11,14),(11,15),(12,14),(12,15)] fun K hK=>?_)|(apply l7 24 [0,1,2,3,4,5,6,8,9,10,11,12,13,7,14,15,16] [(3,13),(3,14),(3,16),(6,13),(11,13),(11,14),(12,13),(12,14)] fun K hK=>?_)|(apply zdU ?_;try intro _)|(apply zdV ?_ ?_<;>clear hK K)|apply aH ?_|apply zd9 rfl ?_|apply aA ?_|apply zdR ?_|apply zdT ?_)
   refine oS eV eV hst ?_;repeat' (first
    |(apply au ?_;clear hK K)|apply Rx.o ?_|apply ba ?_|apply am ?_|(apply zdQ fun K hK=>?_)|(apply l7 23 [0,1,2,3,4,5,6,7,9,10,11,12,13,14,8,15,16,17,18,19] [(5,14),(7,14),(11,14),(11,15),(12,14),(12,15)] fun K hK=>?_)|(apply l7 24 [0,1,2,3,4,5,6,8,9,10,11,12,13,7,14,15,16] [(3,13),(3,14),(3,16),(6,13),(11,13),(11,14),(12,13),(12,14)] fun K hK=>?_)|(apply zdU ?_;try intro _)|(apply zdV ?_ ?_<;>clear hK K)|apply aH ?_|apply zd9 rfl ?_|apply aA ?_|apply zdR ?_|apply zdT ?_)
   .exact eK
   .all_goals (refine⟨zdZ,_,zd6,?_⟩;try simp only[zdY])
    exact⟨S9,lv9,vv,R10,F1.trans (F89.trans F10)⟩
end
end
section
def tyQaH.tyF:=ad @eI (ad @dC (ad @eU (ad @ge (ad @en (ad @jO (ad @kO (ad @iw (ad @iy (ad @hO (ad @gg (ad @fW (ad @iz (ad @qP (@Bv))))))))))))))
open tyQaH
structure RowO (X:Qx) (S:Nat->Prop) (vv:AV) (lo:Nat) (H:Hp) (av:AV) (l:List Int):Prop where
 r:gQ H av l lo
 n:∀k,zd3 av k->¬S k/\¬zd3 vv k/\¬zd3 X.nv k
theorem RowO.fr{X:Qx}{S S':Nat->Prop}{vv vv':AV}{lo:Nat}{H H':Hp}{av:AV}{l:List Int}(h:RowO X S vv lo H av l)(hb:X.b<lo)(f:FrQ X S vv H S' vv' H'):RowO X S' vv' lo H' av l:=by
 refine⟨h.r.keep f.next fun k hk=>?_,fun k hk=>?_⟩
 .have a:=h.r.lt hk;have b:=h.n k hk;exact f.get k a.2 ac b.1 b.2.1
 .have a:=h.r.lt hk;have b:=h.n k hk;refine⟨fun e=>?_,fun e=>?_,b.2.2⟩
  .rcases f.sub k e with e|e
   .exact b.1 e
   .omega
  .rcases f.own k e with e|e
   .exact b.2.1 e
   .omega
theorem RowO.at{X:Qx}{S:Nat->Prop}{vv:AV}{lo:Nat}{H:Hp}{av:AV}{l:List Int}(h:RowO X S vv lo H av l){i:Nat}{x:Int}(hi:l[i]?=some x):∃r,zeE Tryz.prog 23 av (.int .i64 (i:Int))=some (.ptr r i)/\zfC Tryz.prog H 3 (.ptr r i)=some (.int .i64 x)/\zd3 av r:=
 RowZ.at (S:=fun _=>False) (vv:=.nilS) (lo:=lo) ⟨h.r,fun k _=>⟨fun e=>e,fun e=>rC e⟩⟩ hi
def BS(tb:List En)(X:Qx)(c:Cx)(n:Nat):Prop:=∀(l:List St) (s r:Bd),ij c n l s=some r->Fin r->zep l<2^36->s.vars.length<2^36->∀{H:Hp}{S:Nat->Prop}{lv vv:AV},RepQ X H S s lv vv->zd5 Tryz.prog (zdW pls tb) 54 [.ptr X.b 0,.lst (l.map St.cells)] H (nf X S vv H r)
section
variable {tb:List En} (hG:RefT tb) {X:Qx} {c:Cx} (hX:CxQ X c) {x:St} {s:Bd} {H:Hp} {S:Nat -> Prop} {lv vv:AV}
set_option maxRecDepth 100000 in
set_option maxHeartbeats 8000000 in
include hG hX in
theorem qif{n:Nat}(hk:x.kind=3)(IH:BS tb X c n){r:Int×Bd}{a b m:Bd}(h1:eL c n x.value s=some r)(h2:ij c n x.thn r.2=some a)(h3:ij c n x.els {a with state:=r.2.state,vars:=r.2.vars}=some b)(h4:ow r.1 a.vars b.vars.length 0 b=some m)
 (hF:Fin (zet r.1 a.state m.state m).2) (hz:x.sz<2^36) (hvl:s.vars.length<2^36) (hR:RepQ X H S s lv vv) :
 zd5 Tryz.prog (zdW pls tb) 90 [.ptr X.b 0,.agg x.cells] H (nf X S vv H { (zet r.1 a.state m.state m).2 with state:=(zet r.1 a.state m.state m).1}):=by
 have hw:Plain (zdW pls tb) 90:=hG.plain ei;have hkeep:(zdW pls tb).keep 90=false:=rfl;have R1:=hR.alloc (.cells x.cells 0 true);have F1:=(fd X S vv H).alloc (.cells x.cells 0 true);have hFm:Fin m:=hF.le (zfX _ _ _ _).le;have hml:=wi _ _ _ _ _ _ h4;have hFb:Fin b:=hFm.le hml.1;have e3:=(ml c n).2.1 _ _ _ h3;have e2:=(ml c n).2.1 _ _ _ h2;have hFa:Fin a:=hFb.le ⟨e3.1.l,e3.1.n⟩;have hFr:Fin r.2:=hFa.le e2.1;have hsz:=x.sz_eq;have o5:=hR.o5;have hlv:=zfx c n _ _ _ h1;have hrl:r.2.vars.length<2^36:=by rw[hlv.v];exact hvl
 have hbl:b.vars.length<2^36:=by rw[e3.2];exact hrl
 clear e3 e2 hml hlv;refine zed (M:=241) (rs:=[]) (hw.call _) hw.ice hw.froz Tryz.func90 rfl rfl lc.2 rfl ?_;dsimp only[lc,zd8,Nat.reduceAdd];repeat' (first
  |(apply au ?_;clear hK K)|apply Ry.o ?_|(apply aV (fun hb hbp=>?_) (fun hb hbp=>?_)<;>try(cases hb;done))|apply am ?_|(apply zdQ fun K hK=>?_)|(apply zdP 4 [(3,7),(3,10),(6,7)] fun K hK=>?_)|(apply zdP 16 [(3,11),(8,11),(10,11)] fun K hK=>?_)|(apply zdP 38 [(3,18),(3,20),(10,18),(14,18),(17,18)] fun K hK=>?_)|(apply zdU ?_;try intro _)|(apply zdV ?_ ?_<;>clear hK K)|apply aH ?_|apply zd9 rfl ?_|apply aA ?_|apply zdR ?_|apply zdT ?_)
 refine bA rfl bE bF ?_;simp only[bB];refine bp ?_ (qt hG hX n x.value s r h1 hFr R1);rintro w H2 ⟨rfl,S2,lv2,R2,F2⟩;have g2:=fK hR F2;have m2:=R2.m;have n2:H.next+1<=H2.next:=F2.next
 obtain⟨cv,H3,a3,c3,n3,q3⟩:=FU (H:=H2) R2.vars.n ac;have R3:RepQ X H3 S2 r.2 lv2 vv:=R2.keep ac fun k h _=>q3 k h;have F3:FrQ X S2 vv H2 S2 vv H3:=⟨ac,fun k h _ _ _=>q3 k h,fun _ h=>.inl h,fun _ h=>.inl h⟩;have m2a:=(R2.alloc (.cells [] 0 true)).m;have m3:=R3.m;have g3:H3.get H.next=some (.cells x.cells 0 true):=by rw[q3 _ ac];exact g2
 have z3:RowO X S2 vv (H.next+1) H3 cv r.2.vars:=⟨c3.lo fun k hk=>by have:=c3.lt hk;omega,fun k hk=>by
  have:=R2.new (c3.lt hk).1;exact⟨this.1,this.2.1,fun e=>by have:=(R2.nS k e).2.1;have:=(c3.lt hk).1;omega⟩⟩
 obtain⟨hc1,hc2⟩:=c3.one;dsimp only[zek]at m2 m2a m3;dsimp only[zd4];repeat' (first
  |(apply au ?_;clear hK K)|apply Rx.o ?_|apply ba ?_|apply am ?_|(apply zdQ fun K hK=>?_)|(apply zdP 4 [(3,7),(3,10),(6,7)] fun K hK=>?_)|(apply zdP 16 [(3,11),(8,11),(10,11)] fun K hK=>?_)|(apply zdP 38 [(3,18),(3,20),(10,18),(14,18),(17,18)] fun K hK=>?_)|(apply zdU ?_;try intro _)|(apply zdV ?_ ?_<;>clear hK K)|apply aH ?_|apply zd9 rfl ?_|apply aA ?_|apply zdR ?_|apply zdT ?_)
 refine bA rfl bE bF ?_;simp only[bB];refine bp ?_ (IH x.thn r.2 a h2 hFa ac hrl R3);rintro w H4 ⟨S4,lv4,vv4,R4,F4⟩;have F04:=F2.trans (F3.trans F4);have g4:=fK hR F04;have z4:=z3.fr ac F4;have m4:=R4.m;obtain⟨R4s,F4s⟩:=R4.setS r.2.state;have m4s:=R4s.m;have zs:=z4.fr (X:=X) ac F4s;have R5:=R4s.swapV (vw:=cv) (l:=r.2.vars) (zs.r.lo fun k _=>dE _) (fun k hk=>⟨by have:=zs.r.lt hk;omega,(zs.r.lt hk).2,(zs.n k hk).1,(zs.n k hk).2.2⟩);have m5:=R5.m;have hk5:∀k,k≠X.b->((H4.set X.b (.cells (zek X {a with state:=r.2.state} lv4 vv4) 0 true)).set X.b (.cells (zek X {a with state:=r.2.state,vars:=r.2.vars} lv4 cv) 0 true)).get k=H4.get k:=fun k hk=>by rw[bz,ah hk,bz,ah hk]
 have F05:FrQ X S vv (H.alloc (.cells x.cells 0 true)) S4 cv ((H4.set X.b (.cells (zek X {a with state:=r.2.state} lv4 vv4) 0 true)).set X.b (.cells (zek X {a with state:=r.2.state,vars:=r.2.vars} lv4 cv) 0 true)):=⟨F04.next,fun k h1 h2 h4 h5=>by rw[hk5 k h2];exact F04.get k h1 h2 h4 h5,F04.sub,fun k hk=>.inr (z4.r.lt hk).1⟩;have g5:=fK hR F05;have v5:gQ ((H4.set X.b (.cells (zek X {a with state:=r.2.state} lv4 vv4) 0 true)).set X.b (.cells (zek X {a with state:=r.2.state,vars:=r.2.vars} lv4 cv) 0 true)) vv4 a.vars 0:=R4.vars.keep (aM _) fun k hk=>hk5 k (by have:=(R4.vS k hk).1;omega);have y5':RowO X S4 cv (X.b+1) ((H4.set X.b (.cells (zek X {a with state:=r.2.state} lv4 vv4) 0 true)).set X.b (.cells (zek X {a with state:=r.2.state,vars:=r.2.vars} lv4 cv) 0 true)) vv4 a.vars:=⟨v5.lo fun k hk=>(R4.vS k hk).1,fun k hk=>⟨fun e=>(R4.sS k e).2.2 hk,fun e=>(z4.n k e).2.1 hk,fun e=>(R4.nS k e).2.2.2 hk⟩⟩;clear v5;clear hk5 F4s zs z4 z3 F3 F04;dsimp only[zek]at m4 m4s m5 R5 F05 y5' g5;dsimp only[zd4];repeat' (first
  |(apply au ?_;clear hK K)|apply Rx.o ?_|apply ba ?_|apply am ?_|(apply zdQ fun K hK=>?_)|(apply zdP 4 [(3,7),(3,10),(6,7)] fun K hK=>?_)|(apply zdP 16 [(3,11),(8,11),(10,11)] fun K hK=>?_)|(apply zdP 38 [(3,18),(3,20),(10,18),(14,18),(17,18)] fun K hK=>?_)|(apply zdU ?_;try intro _)|(apply zdV ?_ ?_<;>clear hK K)|apply aH ?_|apply zd9 rfl ?_|apply aA ?_|apply zdR ?_|apply zdT ?_)
 refine bA rfl bE bF ?_;simp only[bB];refine bp ?_ (IH x.els _ b h3 hFb ac hrl R5);rintro w H6 ⟨S6,lv6,vv6,R6,F6⟩;have F06:=F05.trans F6;have y6:=y5'.fr ac F6;have n6:H.next+1<=H6.next:=F06.next
 clear F6 F05 R5 R4s R4 y5' m5 m4s m4 g5 g4;dsimp only[zd4];repeat' (first
  |(apply au ?_;clear hK K)|apply Rx.o ?_|apply ba ?_|apply am ?_|(apply zdQ fun K hK=>?_)|(apply zdP 4 [(3,7),(3,10),(6,7)] fun K hK=>?_)|(apply zdP 16 [(3,11),(8,11),(10,11)] fun K hK=>?_)|(apply zdP 38 [(3,18),(3,20),(10,18),(14,18),(17,18)] fun K hK=>?_)|(apply zdU ?_;try intro _)|(apply zdV ?_ ?_<;>clear hK K)|apply aH ?_|apply zd9 rfl ?_|apply aA ?_|apply zdR ?_|apply zdT ?_)
 refine zeL [0,3,12,15,16] [] 17 b.vars.length (fun i E Hi=>∃si Si lvi,ow r.1 a.vars (b.vars.length-i) i si=some m/\RepQ X Hi Si si lvi vv6/\FrQ X S vv (H.alloc (.cells x.cells 0 true)) Si vv6 Hi/\RowO X Si vv6 (X.b+1) Hi vv4 a.vars/\si.vars.length=b.vars.length) eE ⟨b,S6,lv6,h4,R6,F06,y6,rfl⟩ ?_;clear R6 F06 y6;rintro i E Hi hi hcE hrH hnH hsI ⟨si,Si,lvi,hJ,Ri,Fi,yi,hil⟩;(try simp only[zec,zeb,aX,zdX,zd2,Nat.reduceBEq,Nat.reduceAdd,Nat.reduceLeDiff,tyF, *]at hcE);(try simp only[zec,zeb,aX,zdX,zd2,Nat.reduceBEq,Nat.reduceAdd,Nat.reduceLeDiff,tyF, *]at hrH);(try simp only[zea,zef,zeB,bT,Nat.reduceAdd]at hnH);have mi:=Ri.m;have hlen6:=Ri.vars.n.len';rw[hil]at hlen6;dsimp only[zek]at mi;have ni:H.next+1<=Hi.next:=Fi.next
 by_cases hlt:i<b.vars.length
 .have hlt':(i:Int)<b.vars.length:=by omega
  obtain⟨k,hk⟩:∃k,b.vars.length-i=k+1:=⟨b.vars.length-i-1,ac⟩;have hk2:b.vars.length-(i+1)=k:=ac;rw[hk]at hJ;rw[hk2];unfold ow at hJ;simp only[ir]at hJ;obtain⟨xa,hxa,xb,hxb,hJ⟩:=hJ;obtain⟨qa,hixa,hlda,hqa⟩:=yi.at hxa;obtain⟨qb,hixb,hldb⟩:=Ri.atV hxb;have hFx:Fin (zet r.1 xa xb si).2:=hFm.le ⟨(wi _ _ _ _ _ _ hJ).1.l,(wi _ _ _ _ _ _ hJ).1.n⟩;have hx2:(zet r.1 xa xb si).2.vars=si.vars:=(zfX _ _ _ _).v;have hvx:i<(zet r.1 xa xb si).2.vars.length:=by rw[hx2];omega
  repeat' (first
   |(apply au ?_;clear hK K)|apply Ry.o ?_|(apply aV (fun hb hbp=>?_) (fun hb hbp=>?_)<;>try(cases hb;done))|apply am ?_|(apply zdQ fun K hK=>?_)|(apply zdP 4 [(3,7),(3,10),(6,7)] fun K hK=>?_)|(apply zdP 16 [(3,11),(8,11),(10,11)] fun K hK=>?_)|(apply zdP 38 [(3,18),(3,20),(10,18),(14,18),(17,18)] fun K hK=>?_)|(apply zdU ?_;try intro _)|(apply zdV ?_ ?_<;>clear hK K)|apply aH ?_|apply zd9 rfl ?_|apply aA ?_|apply zdR ?_|apply zdT ?_)
  refine bA rfl bE bF ?_;simp only[bB];refine bp ?_ (wr hG Ri r.1 xa xb hFx);rintro w H7 ⟨rfl,S7,lv7,R7,F7⟩;obtain⟨q',hix',hld',H8,hst,hq1,hq2,hq3,R8,F8,o8,n8⟩:=R7.setV hvx (zet r.1 xa xb si).1;have hqq:q'=qb:=by
   rw[hixb]at hix';simp only[aQ,AV.ptr.injEq]at hix';exact hix'.1.symm
  subst hqq;have y7:=yi.fr ac F7;have y8:=y7.fr ac F8;obtain⟨qa7,ix7,ld7,_⟩:=y7.at hxa;obtain⟨qa8,ix8,ld8,_⟩:=y8.at hxa;rw[hixa]at ix7 ix8;simp only[aQ,AV.ptr.injEq,aX]at ix7 ix8;subst ix7 ix8;have m7:=R7.m;have m8:=R8.m;have n7:=F7.next
  obtain⟨qb7,ixb7,ldb7⟩:=R7.atV (i:=i) (x:=xb) (by rw[hx2];exact hxb);rw[hixb]at ixb7;simp only[aQ,AV.ptr.injEq,aX]at ixb7;subst ixb7;dsimp only[zek]at m7 m8;clear hix' hx2;dsimp only[zd4];repeat' (first
   |(apply au ?_;clear hK K)|apply Rx.o ?_|apply ba ?_|apply am ?_|(apply zdQ fun K hK=>?_)|(apply zdP 4 [(3,7),(3,10),(6,7)] fun K hK=>?_)|(apply zdP 16 [(3,11),(8,11),(10,11)] fun K hK=>?_)|(apply zdP 38 [(3,18),(3,20),(10,18),(14,18),(17,18)] fun K hK=>?_)|(apply zdU ?_;try intro _)|(apply zdV ?_ ?_<;>clear hK K)|apply aH ?_|apply zd9 rfl ?_|apply aA ?_|apply zdR ?_|apply zdT ?_)
  .exact eK
  .refine⟨ac,zd7,zd7,eN,(by simp only[zdX,Nat.reduceBEq, *];exact zfQ (n:=b.vars.length) ac ac),?_⟩;exact⟨_,S7,lv7,hJ,R8,Fi.trans (F7.trans F8),y8,by rw[iS,(zfX _ _ _ _).v];exact hil⟩
 .have hlt':¬(i:Int)<b.vars.length:=by omega
  have hk:b.vars.length-i=0:=ac;rw[hk]at hJ;simp only[ow,aQ]at hJ;subst hJ;repeat' (first
   |(apply au ?_;clear hK K)|apply Ry.o ?_|(apply aV (fun hb hbp=>?_) (fun hb hbp=>?_)<;>try(cases hb;done))|apply am ?_|(apply zdQ fun K hK=>?_)|(apply zdP 4 [(3,7),(3,10),(6,7)] fun K hK=>?_)|(apply zdP 16 [(3,11),(8,11),(10,11)] fun K hK=>?_)|(apply zdP 38 [(3,18),(3,20),(10,18),(14,18),(17,18)] fun K hK=>?_)|(apply zdU ?_;try intro _)|(apply zdV ?_ ?_<;>clear hK K)|apply aH ?_|apply zd9 rfl ?_|apply aA ?_|apply zdR ?_|apply zdT ?_)
  refine bA rfl bE bF ?_;simp only[bB];refine bp ?_ (wr hG Ri r.1 a.state si.state hF);rintro w H7 ⟨rfl,S7,lv7,R7,F7⟩;have m7:=R7.m;dsimp only[zek]at m7;dsimp only[zd4];repeat' (first
   |(apply au ?_;clear hK K)|apply Rx.o ?_|apply ba ?_|apply am ?_|(apply zdQ fun K hK=>?_)|(apply zdP 4 [(3,7),(3,10),(6,7)] fun K hK=>?_)|(apply zdP 16 [(3,11),(8,11),(10,11)] fun K hK=>?_)|(apply zdP 38 [(3,18),(3,20),(10,18),(14,18),(17,18)] fun K hK=>?_)|(apply zdU ?_;try intro _)|(apply zdV ?_ ?_<;>clear hK K)|apply aH ?_|apply zd9 rfl ?_|apply aA ?_|apply zdR ?_|apply zdT ?_)
  all_goals (refine⟨zdZ,_,zd6,?_⟩;try simp only[zdY])
  obtain⟨R8,F8⟩:=R7.setS (zet r.1 a.state si.state si).1;exact⟨S7,lv7,vv6,R8,F1.trans (Fi.trans (F7.trans F8))⟩
end
end
section
def tyQaI.tyF:=ad @eI (ad @dC (ad @tM (ad @eU (ad @ge (ad @en (ad @iw (ad @iy (ad @hO (ad @gg (ad @fW (ad @vr (ad @iz (ad @qP (ad @wm (ad @Bv (@rD))))))))))))))))
open tyQaI
noncomputable def M7:{c:SC // aS 197 (Tryz.f139.body.getD .skip)=c}:=by
 refine⟨?_,?_⟩;rotate_left
 .simp only[Tryz.f139,cj,aS,zen,zel,zeu,zev,Nat.blt,Nat.ble];rfl
theorem RowQ.other{X:Qx}{S:Nat->Prop}{vv:AV}{lo:Nat}{H H':Hp}{av wv:AV}{l:List Int}(h:RowQ X S vv lo H av l)(hn:H.next<=H'.next)(hq:∀k,k<H.next->¬zd3 wv k->H'.get k=H.get k)(hd:∀k,zd3 av k->¬zd3 wv k):RowQ X S vv lo H' av l:=⟨h.r.keep hn fun k hk=>hq k (h.r.lt hk).2 (hd k hk),h.n⟩
theorem RowO.other{X:Qx}{S:Nat->Prop}{vv:AV}{lo:Nat}{H H':Hp}{av wv:AV}{l:List Int}(h:RowO X S vv lo H av l)(hn:H.next<=H'.next)(hq:∀k,k<H.next->¬zd3 wv k->H'.get k=H.get k)(hd:∀k,zd3 av k->¬zd3 wv k):RowO X S vv lo H' av l:=⟨h.r.keep hn fun k hk=>hq k (h.r.lt hk).2 (hd k hk),h.n⟩
theorem RowQ.same{X:Qx}{S:Nat->Prop}{vv:AV}{lo:Nat}{H H':Hp}{av:AV}{l:List Int}(h:RowQ X S vv lo H av l)(hn:H.next<=H'.next)(hq:∀k,k<H.next->H'.get k=H.get k):RowQ X S vv lo H' av l:=⟨h.r.keep hn fun k hk=>hq k (h.r.lt hk).2,h.n⟩
theorem RowO.same{X:Qx}{S:Nat->Prop}{vv:AV}{lo:Nat}{H H':Hp}{av:AV}{l:List Int}(h:RowO X S vv lo H av l)(hn:H.next<=H'.next)(hq:∀k,k<H.next->H'.get k=H.get k):RowO X S vv lo H' av l:=⟨h.r.keep hn fun k hk=>hq k (h.r.lt hk).2,h.n⟩
theorem FrQ.other{X:Qx}{S0 S:Nat->Prop}{v0 vv wv:AV}{zeo H H':Hp}(h:FrQ X S0 v0 zeo S vv H)(hn:H.next<=H'.next)(hq:∀k,k<H.next->¬zd3 wv k->H'.get k=H.get k)(hw:∀k,zd3 wv k->zeo.next<=k):FrQ X S0 v0 zeo S vv H':=
 ⟨dr h.next hn,fun k h1 h2 h4 h5=>by rw[hq k (qE h1 h.next) fun e=>by have:=hw k e;omega];exact h.get k h1 h2 h4 h5,h.sub,h.own⟩
theorem FrQ.same{X:Qx}{S0 S:Nat->Prop}{v0 vv:AV}{zeo H H':Hp}(h:FrQ X S0 v0 zeo S vv H)(hn:H.next<=H'.next)(hq:∀k,k<H.next->H'.get k=H.get k):FrQ X S0 v0 zeo S vv H':=
 ⟨dr h.next hn,fun k h1 h2 h4 h5=>by rw[hq k (qE h1 h.next)];exact h.get k h1 h2 h4 h5,h.sub,h.own⟩
theorem RowQ.app1{X:Qx}{S:Nat->Prop}{s:Bd}{lv vv:AV}{lo:Nat}{H:Hp}{wv:AV}{l:List Int}(h:RowQ X S vv lo H wv l)(hR:RepQ X H S s lv vv)(hlo:lo<=H.next)(x:Int)(hb:X.b<lo)(hl:l.length<2^39):
 ∃v' H',zeZ Tryz.prog false (H.alloc (.cells [.int .i64 x] 0 true)) 23 23 wv (.sl H.next 0 1 1)=some (v',H')/\RowQ X S vv lo H' v' (l++[x])/\RepQ X H' S s lv vv/\H.next<=H'.next/\(∀k,k<H.next->¬zd3 wv k->H'.get k=H.get k)/\(∀k,zd3 v' k->zd3 wv k\/H.next<=k)/\H'.get H.next=some (.cells [.int .i64 x] 0 true)/\H.next+1<=H'.next:=by
 obtain⟨v',H',a1,a2,a3,a5,a6,a7,_⟩:=h.app (hR.alloc (.cells [.int .i64 x] 0 true)) fx (cZ _) (fun k hk=>ez) x (r:=H.next) (imm:=0) eR hb hl;simp only[zea]at a5 a6 a7;exact⟨v',H',a1,a2,a3,ac,fun k h1 h2=>by rw[a6 k ac h2,zd1,ah ac],fun k hk=>by
  rcases a7 k hk with e|e
  .exact .inl e
  .exact .inr ac,by rw[a6 _ ac fun e=>by have:=(h.r.lt e).2;omega,zd1,aE rfl],a5⟩
theorem RowQ.appR{X:Qx}{S:Nat->Prop}{s:Bd}{lv vv:AV}{lo:Nat}{H:Hp}{wv:AV}{l m:List Int}(h:RowQ X S vv lo H wv l)(hR:RepQ X H S s lv vv)(hlo:lo<=H.next)(hm:m≠[])(hb:X.b<lo)(hl:l.length+m.length<2^40):
 ∃v' H',zeZ Tryz.prog false (H.alloc (.cells (m.map (.int .i64)) 0 true)) 23 23 wv (.sl H.next 0 m.length 1)=some (v',H')/\RowQ X S vv lo H' v' (l++m)/\RepQ X H' S s lv vv/\H.next<=H'.next/\(∀k,k<H.next->¬zd3 wv k->H'.get k=H.get k)/\(∀k,zd3 v' k->zd3 wv k\/H.next<=k):=by
 have hk:∀k,k<H.next->(H.alloc (.cells (m.map (.int .i64)) 0 true)).get k=H.get k:=fun k hk=>ez
 have hr:ze0 (H.alloc (.cells (m.map (.int .i64)) 0 true)) wv l lo:=h.r.keep (cZ _) fun k h2=>hk k (h.r.lt h2).2;obtain⟨v',H',a1,a2,a3,a4,a5,a6⟩:=D5 hr fx (sq (H:=H.alloc (.cells (m.map (.int .i64)) 0 true)) (r:=H.next) (imm:=0) (m:=m) eR) hm hl;simp only[zea]at a3 a5 a6;have hold:∀k,k<H.next->¬zd3 wv k->H'.get k=H.get k:=fun k h1 h2=>by rw[a5 k ac h2,hk k h1]
 refine⟨v',H',a1,⟨.inr a2,fun k h2=>?_⟩,hR.keep ac fun k h1 h2=>hold k h1 fun e=>?_,ac,hold,fun k h2=>?_⟩
 .rcases a6 k h2 with e|e
  .exact h.n k e
  .have:=hR.new (r:=k) ac;exact⟨this.1,this.2.1,fun e2=>by have:=(hR.nS k e2).2.1;omega⟩
 .have b:=h.n k e;have c:=h.r.lt e;rcases h2 with h2|h2|h2|h2
  .omega
  .exact b.1 h2
  .exact b.2.1 h2
  .exact b.2.2 h2
 .rcases a6 k h2 with e|e
  .exact .inl e
  .exact .inr ac
theorem RowQ.at{X:Qx}{S:Nat->Prop}{vv:AV}{lo:Nat}{H:Hp}{av:AV}{l:List Int}(h:RowQ X S vv lo H av l){i:Nat}{x:Int}(hi:l[i]?=some x):∃r,zeE Tryz.prog 23 av (.int .i64 (i:Int))=some (.ptr r i)/\zfC Tryz.prog H 3 (.ptr r i)=some (.int .i64 x):=
 RowL.at (S:=fun _=>False) (vv:=.nilS) (lo:=lo) ⟨h.r,fun k _=>⟨fun e=>e,fun e=>rC e⟩⟩ hi
section
variable {tb:List En} (hG:RefT tb) {X:Qx} {c:Cx} (hX:CxQ X c) {x:St} {s:Bd} {H:Hp} {S:Nat -> Prop} {lv vv:AV}
set_option maxRecDepth 100000 in
set_option maxHeartbeats 8000000 in
include hG hX in
theorem qwh{n:Nat}(IH:BS tb X c n){r:Int×Bd}{b:List Bool}{t:Bd}{d:Int×Bd}(h1:eL c n x.value {s with loops:=s.loops+1}=some r)(h2:lR c.names n x.thn (List.replicate r.2.vars.length false)=some b)
 (h3:ij c n x.thn (jU (16*(s.loops:Int)+1) (zfS b) 0 { (zdS ⟨3,16*(s.loops:Int),[]⟩ r.2).2 with state:=(zdS ⟨3,16*(s.loops:Int),[]⟩ r.2).1})=some t) (h4:eL c n x.value t=some d)
 {k:Int×Bd} (hk:zdS ⟨31,s.loops,r.2.state::((zfS b).map fun i=>r.2.vars.getD i 0)++[d.1,d.2.state]++((zfS b).map fun i=>d.2.vars.getD i 0)⟩ d.2=k)
 {m:Int×Bd} (hm:zet r.1 (zdS ⟨25,0,[k.1]⟩ {k.2 with vars:=r.2.vars}).1 r.2.state (zdS ⟨25,0,[k.1]⟩ {k.2 with vars:=r.2.vars}).2=m)
 (hF:Fin (jV k.1 r.1 r.2.vars (zfS b) 1 {m.2 with state:=m.1})) (hz:x.sz<2^36) (hvl:s.vars.length<2^36) (hR:RepQ X H S s lv vv) :
 zd5 Tryz.prog (zdW pls tb) 139 [.ptr X.b 0,.agg x.cells] H (nf X S vv H (jV k.1 r.1 r.2.vars (zfS b) 1 {m.2 with state:=m.1})):=by
 have hw:Plain (zdW pls tb) 139:=hG.plain ei;have hkeep:(zdW pls tb).keep 139=false:=rfl;have R1:=hR.alloc (.cells x.cells 0 true);have F1:=(fd X S vv H).alloc (.cells x.cells 0 true);have hdl0:d.2.vars.length=r.2.vars.length:=by
  rw[(zfx c n _ _ _ h4).v,((ml c n).2.1 _ _ _ h3).2,(sR _ _ _ _).2.2.1];rfl
 have hmv:m.2.vars=r.2.vars:=by rw[<-hm,(zfX _ _ _ _).v];rfl
 have hFm:Fin m.2:=hF.le ⟨(uz _ _ _ _ _ {m.2 with state:=m.1}).1.l,(uz _ _ _ _ _ {m.2 with state:=m.1}).1.n⟩;have hFf:Fin (zdS ⟨25,0,[k.1]⟩ {k.2 with vars:=r.2.vars}).2:=by rw[<-hm]at hFm;exact hFm.le (zfX _ _ _ _).le
 have hFk:Fin k.2:=hFf.le ⟨(zfa ⟨25,0,[k.1]⟩ {k.2 with vars:=r.2.vars}).le.l,(zfa ⟨25,0,[k.1]⟩ {k.2 with vars:=r.2.vars}).le.n⟩;have hFd:Fin d.2:=by rw[<-hk]at hFk;exact hFk.le (zfa _ _).le
 have hFt:Fin t:=hFd.le (zfx c n _ _ _ h4).le;have e3:=(ml c n).2.1 _ _ _ h3;have hFl:=hFt.le e3.1;have hFp:Fin (zdS ⟨3,16*(s.loops:Int),[]⟩ r.2).2:=hFl.le ⟨(sR _ _ _ { (zdS ⟨3,16*(s.loops:Int),[]⟩ r.2).2 with state:=(zdS ⟨3,16*(s.loops:Int),[]⟩ r.2).1}).1.l,(sR _ _ _ { (zdS ⟨3,16*(s.loops:Int),[]⟩ r.2).2 with state:=(zdS ⟨3,16*(s.loops:Int),[]⟩ r.2).1}).1.n⟩;have hFr:Fin r.2:=hFp.le (zfa _ _).le;have hlv:=zfx c n _ _ _ h1;have hrl:r.2.vars.length<2^36:=by rw[hlv.v];exact hvl
 have hln:s.loops<2^36:=ur (cZ _) (by have:=hFr.n;rw[hlv.n]at this;exact this);have hbl:b.length=r.2.vars.length:=M3;have hdl:d.2.vars.length=r.2.vars.length:=hdl0;have hsz:=x.sz_eq;have o5:=hR.o5;clear hlv e3;have zeX:=R1.m;have gx1:(H.alloc (.cells x.cells 0 true)).get H.next=some (.cells x.cells 0 true):=eR
 obtain⟨R1s,F1s⟩:=R1.setN (s.loops+1);have m1s:=R1s.m;have g1s:=fK hR F1s;have eL1:IntKind.wrap .i64 ((s.loops:Int)+1)=((s.loops+1:Nat):Int):=pW ac;dsimp only[zek]at zeX m1s R1s F1s g1s;refine zed (M:=197) (rs:=[]) (hw.call _) hw.ice hw.froz Tryz.func139 rfl rfl M7.2 rfl ?_;dsimp only[M7,zd8,Nat.reduceAdd];repeat' (first
  |(apply au ?_;clear hK K)|apply Rx.o ?_|apply ba ?_|apply am ?_|(apply zdQ fun K hK=>?_)|(apply zdP 20 [(3,14),(3,16),(7,14),(7,16)] fun K hK=>?_)|(apply zdP 27 [(4,12),(8,12),(10,12),(11,12)] fun K hK=>?_)|(apply zdP 36 [(3,18),(3,20),(7,18),(7,20),(15,18),(17,18)] fun K hK=>?_)|(apply zdU ?_;try intro _)|(apply zdV ?_ ?_<;>clear hK K)|apply aH ?_|apply zd9 rfl ?_|apply aA ?_|apply zdR ?_|apply zdT ?_)
 refine bA rfl bE bF ?_;simp only[bB];refine bp ?_ (qt hG hX n x.value _ r h1 hFr R1s);rintro w H2 ⟨rfl,S2,lv2,R2,F2⟩;have F02:=F1s.trans F2;have g2:=fK hR F02;have m2:=R2.m;have n2:H.next+1<=H2.next:=F02.next
 have hl2:=R2.vars.n.len';have hmk:∀H:Hp,zf9 Tryz.prog H 84 (.int .i64 r.2.vars.length) (.int .i64 r.2.vars.length)=some (.sl H.next 0 r.2.vars.length 1,H.alloc (.cells ((List.replicate r.2.vars.length false).map .bool) 0 true)):=fun H=>D6 _ ac;have nw2:=R2.new (aM _);have nv2:¬zd3 X.nv H2.next:=fun e=>by have:=(R2.nS _ e).2.1;omega
 have R3:=R2.alloc (.cells ((List.replicate r.2.vars.length false).map .bool) 0 true);have g3:(H2.alloc (.cells ((List.replicate r.2.vars.length false).map .bool) 0 true)).get H.next=some (.cells x.cells 0 true):=by rw[zd1,ah ac];exact g2
 clear R1 R1s zeX m1s g1s;dsimp only[zek]at m2;dsimp only[zd4];repeat' (first
  |(apply au ?_;clear hK K)|apply Rx.o ?_|apply ba ?_|apply am ?_|(apply zdQ fun K hK=>?_)|(apply zdP 20 [(3,14),(3,16),(7,14),(7,16)] fun K hK=>?_)|(apply zdP 27 [(4,12),(8,12),(10,12),(11,12)] fun K hK=>?_)|(apply zdP 36 [(3,18),(3,20),(7,18),(7,20),(15,18),(17,18)] fun K hK=>?_)|(apply zdU ?_;try intro _)|(apply zdV ?_ ?_<;>clear hK K)|apply aH ?_|apply zd9 rfl ?_|apply aA ?_|apply zdR ?_|apply zdT ?_)
 refine bA rfl bE bF ?_;simp only[bB];have hrep:(List.replicate r.2.vars.length false).length=r.2.vars.length:=qX;have hasg:=FW hG hX (n+1) n (cL _) x.thn _ b h2 ac R3 (q:=H2.next) eR nw2.2.2 (cL _) nw2.1 nw2.2.1 nv2;rw[hrep]at hasg;refine bp ?_ hasg;clear hasg;rintro w H3 ⟨gb3,n3,q3⟩;simp only[zea]at n3 q3;have hq3:∀k,k<H2.next->H3.get k=H2.get k:=fun k hk=>by rw[q3 k ac ac,zd1,ah ac]
 have R4:RepQ X H3 S2 r.2 lv2 vv:=R2.keep ac fun k hk _=>hq3 k hk;clear q3 R3 g3;dsimp only[zd4];repeat' (first
  |(apply au ?_;clear hK K)|apply Rx.o ?_|apply ba ?_|apply am ?_|(apply zdQ fun K hK=>?_)|(apply zdP 20 [(3,14),(3,16),(7,14),(7,16)] fun K hK=>?_)|(apply zdP 27 [(4,12),(8,12),(10,12),(11,12)] fun K hK=>?_)|(apply zdP 36 [(3,18),(3,20),(7,18),(7,20),(15,18),(17,18)] fun K hK=>?_)|(apply zdU ?_;try intro _)|(apply zdV ?_ ?_<;>clear hK K)|apply aH ?_|apply zd9 rfl ?_|apply aA ?_|apply zdR ?_|apply zdT ?_)
 refine zeL [0,3,4,5,6] [] 8 r.2.vars.length (fun i E Hi=>∃a,E.at 7=a/\ze0 Hi a (uA (uB b i)) (H2.next+1)/\Sm (H2.next+1) H3 Hi) eE ⟨.nilS,eE,.inl ⟨rfl,rfl⟩,⟨fun _ _=>rfl⟩⟩ ?_;rintro i E Hi hi hcE hrH hnH hsI ⟨a,k7,ha,hsm⟩;(try simp only[zec,zeb,aX,zdX,zd2,Nat.reduceBEq,Nat.reduceAdd,Nat.reduceLeDiff,tyF, *]at hcE);(try simp only[zec,zeb,aX,zdX,zd2,Nat.reduceBEq,Nat.reduceAdd,Nat.reduceLeDiff,tyF, *]at hrH);(try simp only[zea,zef,zeB,bT,Nat.reduceAdd]at hnH);by_cases hlt:i<r.2.vars.length
 .have hlt':(i:Int)<r.2.vars.length:=by omega
  have gbi:Hi.get H2.next=some (.cells (b.map .bool) 0 true):=by rw[hsm.get _ ac];exact gb3
  have hix:=MD (q:=H2.next) hlt;have hld:=zbp gbi (m:=i) ac;have hws:=zk6 b i;have hwl:=MF b i;cases hbi:b.getD i false with
  |true=>
   rw[hbi]at hld;rw[hbi,aE rfl]at hws;obtain⟨v5,H5,a5,s5,n5,f5,o5'⟩:=pi (H:=Hi.alloc (.cells [.int .i64 (i:Int)] 0 true)) (i:Int) (ha.keep (H':=Hi.alloc (.cells [.int .i64 (i:Int)] 0 true)) (cZ _) fun k hk=>by rw[zd1,ah (by have:=(ha.lt hk).2;omega)]) fx (r:=Hi.next) (imm:=0) eR (by simp only[dy];omega);have n5':Hi.next<=H5.next:=pm
   repeat' (first
    |(apply au ?_;clear hK K)|apply Ry.o ?_|(apply aV (fun hb hbp=>?_) (fun hb hbp=>?_)<;>try(cases hb;done))|apply am ?_|(apply zdQ fun K hK=>?_)|(apply zdP 20 [(3,14),(3,16),(7,14),(7,16)] fun K hK=>?_)|(apply zdP 27 [(4,12),(8,12),(10,12),(11,12)] fun K hK=>?_)|(apply zdP 36 [(3,18),(3,20),(7,18),(7,20),(15,18),(17,18)] fun K hK=>?_)|(apply zdU ?_;try intro _)|(apply zdV ?_ ?_<;>clear hK K)|apply aH ?_|apply zd9 rfl ?_|apply aA ?_|apply zdR ?_|apply zdT ?_)
   refine⟨ac,zd7,zd7,eN,M5,?_⟩;exact⟨v5,eE,.inr (by rw[hws];simpa using s5),⟨fun k hk=>by rw[f5 k hk,zd1,ah ac];exact hsm.get k hk⟩⟩
  |false=>
   rw[hbi]at hld;rw[hbi,ah aK,ll]at hws;repeat' (first
    |(apply au ?_;clear hK K)|apply Ry.o ?_|(apply aV (fun hb hbp=>?_) (fun hb hbp=>?_)<;>try(cases hb;done))|apply am ?_|(apply zdQ fun K hK=>?_)|(apply zdP 20 [(3,14),(3,16),(7,14),(7,16)] fun K hK=>?_)|(apply zdP 27 [(4,12),(8,12),(10,12),(11,12)] fun K hK=>?_)|(apply zdP 36 [(3,18),(3,20),(7,18),(7,20),(15,18),(17,18)] fun K hK=>?_)|(apply zdU ?_;try intro _)|(apply zdV ?_ ?_<;>clear hK K)|apply aH ?_|apply zd9 rfl ?_|apply aA ?_|apply zdR ?_|apply zdT ?_)
   refine⟨ac,zd7,zd7,eN,M5,?_⟩;exact⟨a,eE,by rw[hws];exact ha,hsm⟩
 .have hlt':¬(i:Int)<r.2.vars.length:=by omega
  have hie:uB b i=zfS b:=by rw[zfS,hbl,show i=r.2.vars.length by omega];rfl
  rw[hie]at ha;have hwm:∀j∈zfS b,j<r.2.vars.length:=fun j hj=>by have:=ME hj;omega
  have hwl:(zfS b).length<2^36:=by have:=MF b b.length;have e:uB b b.length=zfS b:=rfl;rw[e]at this;omega
  have hnd:=zk7 b;generalize zfS b=ws at *;clear hie gb3 h2 hbl;have hi3:∀k,k<H2.next+1->Hi.get k=H3.get k:=hsm.get
  have hi2:∀k,k<H2.next->Hi.get k=H2.get k:=fun k hk=>by rw[hi3 k ac,hq3 k hk]
  have Ri:RepQ X Hi S2 r.2 lv2 vv:=R2.keep ac fun k hk _=>hi2 k hk;have W:RowQ X S2 vv (H2.next+1) Hi a (uA ws):=⟨ha,fun k hk=>by
   have:=R2.new (r:=k) (by have:=(ha.lt hk).1;omega);exact⟨this.1,this.2.1,fun e=>by have:=(R2.nS k e).2.1;have:=(ha.lt hk).1;omega⟩⟩
  have Fi:FrQ X S vv (H.alloc (.cells x.cells 0 true)) S2 vv Hi:=F02.same ac hi2;have gi:=fK hR Fi;have mi:=Ri.m;have ni:H.next+1<=Hi.next:=Fi.next
  clear hsm R4 F02 hi3 ha hq3 hi2 R2 m2 g2;obtain⟨cv,H4,a4,c4,n4,q4⟩:=FU (H:=Hi) Ri.vars.n ac;have R4:RepQ X H4 S2 r.2 lv2 vv:=Ri.keep ac fun k h _=>q4 k h;have W4:=W.same ac q4;have F4:=Fi.same ac q4;have C4:RowO X S2 vv (H2.next+1) H4 cv r.2.vars:=⟨c4.lo fun k hk=>by have:=(c4.lt hk).1;omega,fun k hk=>by
   have:=Ri.new (c4.lt hk).1;exact⟨this.1,this.2.1,fun e=>by have:=(Ri.nS k e).2.1;have:=(c4.lt hk).1;omega⟩⟩
  have dAC:∀k,zd3 a k->¬zd3 cv k:=fun k h1 h2=>by have:=(W.r.lt h1).2;have:=(c4.lt h2).1;omega
  have m4:=R4.m;have g4:=fK hR F4;have mia:=(Ri.alloc (.cells [] 0 true)).m;have ew:=(MG hln (j:=0) ac).1;have Rb:=R4.alloc (.cells [.int .i64 r.2.state] 0 true);have Fb:=F4.alloc (.cells [.int .i64 r.2.state] 0 true);have gb:=fK hR Fb;have mb:=Rb.m;obtain⟨hc1,hc2⟩:=c4.one;clear W c4;dsimp only[zek]at mi mia m4 mb;repeat' (first
   |(apply au ?_;clear hK K)|apply Ry.o ?_|(apply aV (fun hb hbp=>?_) (fun hb hbp=>?_)<;>try(cases hb;done))|apply am ?_|(apply zdQ fun K hK=>?_)|(apply zdP 20 [(3,14),(3,16),(7,14),(7,16)] fun K hK=>?_)|(apply zdP 27 [(4,12),(8,12),(10,12),(11,12)] fun K hK=>?_)|(apply zdP 36 [(3,18),(3,20),(7,18),(7,20),(15,18),(17,18)] fun K hK=>?_)|(apply zdU ?_;try intro _)|(apply zdV ?_ ?_<;>clear hK K)|apply aH ?_|apply zd9 rfl ?_|apply aA ?_|apply zdR ?_|apply zdT ?_)
  refine bA rfl bE bF ?_;simp only[bB];refine bp ?_ (qs hG Rb 3 (16*(s.loops:Int)) hFp);generalize hp:zdS ⟨3,16*(s.loops:Int),[]⟩ r.2=p at *;have hpv:p.2.vars=r.2.vars:=by rw[<-hp];rfl
  rintro w H5 ⟨rfl,S5,lv5,R5,F5⟩;have kb:∀k,k<H4.next->(H4.alloc (.cells [.int .i64 r.2.state] 0 true)).get k=H4.get k:=fun k hk=>ez
  have W5:=(W4.same (cZ _) kb).fr ac F5;have C5:=(C4.same (cZ _) kb).fr ac F5;have V5:RowQ X S5 vv (H2.next+1) H5 (.sl H4.next 0 1 1) [r.2.state]:=RowQ.fr (X:=X) (H:=H4.alloc (.cells [.int .i64 r.2.state] 0 true)) (S:=S2) (vv:=vv) ⟨.inr ⟨H4.next,0,rfl,ev,dE _,ac,cL _⟩,fun k hk=>by
   have e:=yx hk;have:=R4.new (r:=k) (by rw[e];exact aM _);exact⟨this.1,this.2.1,fun e2=>by have:=(R4.nS k e2).2.1;omega⟩⟩ ac F5
  have d5:∀k,zd3 a k->¬zd3 (.sl H4.next 0 1 1) k:=fun k h1 h2=>by
   have:=(W4.r.lt h1).2;rw[yx h2]at this;omega
  have dC5:∀k,zd3 cv k->¬zd3 (.sl H4.next 0 1 1) k:=fun k h1 h2=>by
   have:=(C4.r.lt h1).2;rw[yx h2]at this;omega
  have m5:=R5.m;obtain⟨R6,F6⟩:=R5.setS p.1;have F06:=Fb.trans (F5.trans F6);have W6:=W5.fr (X:=X) ac F6;have V6:=V5.fr (X:=X) ac F6;have C6:=C5.fr (X:=X) ac F6;have l6:=fun H'=>W5.r.len' (H':=H');have g6:=fK hR F06;have n6:H2.next+1<=H5.next:=by have:=F5.next;simp only[zea]at this;omega
  clear R5 F5 Rb gb W5 V5 C5 Ri W4 C4 F4 R4 m4 mb gi mi mia Fi Fb kb g4;dsimp only[zek]at m5 R6 F06 W6 V6 C6 g6;rw[dy]at l6;dsimp only[zd4];repeat' (first
   |(apply au ?_;clear hK K)|apply Rx.o ?_|apply ba ?_|apply am ?_|(apply zdQ fun K hK=>?_)|(apply zdP 20 [(3,14),(3,16),(7,14),(7,16)] fun K hK=>?_)|(apply zdP 27 [(4,12),(8,12),(10,12),(11,12)] fun K hK=>?_)|(apply zdP 36 [(3,18),(3,20),(7,18),(7,20),(15,18),(17,18)] fun K hK=>?_)|(apply zdU ?_;try intro _)|(apply zdV ?_ ?_<;>clear hK K)|apply aH ?_|apply zd9 rfl ?_|apply aA ?_|apply zdR ?_|apply zdT ?_)
  have hdl1:∀j,j<ws.length->r.2.vars[ws.getD j 0]?=some (r.2.vars.getD (ws.getD j 0) 0):=fun j hj=>by
   have:ws.getD j 0<r.2.vars.length:=hwm _ (by rw[dM,br hj];exact dX hj);generalize ws.getD j 0=q at *;rw[dM,br this];rfl
  have haw:∀j,j<ws.length->(uA ws)[j]?=some ((ws.getD j 0:Nat):Int):=fun j hj=>by
   rw[fF,dM,br hj];rfl
  have hdr:∀j,j<ws.length->ws.drop j=ws.getD j 0::ws.drop (j+1):=fun j hj=>by rw[jl hj,dM,br hj];rfl
  have htk:∀j,j<ws.length->ws.take (j+1)=ws.take j++[ws.getD j 0]:=fun j hj=>by rw[tu,dM,br hj];rfl
  have hnt:∀j,j<ws.length->ws.getD j 0∉ws.take j:=fun j hj hm=>by
   have h:=hnd;rw[<-zn j ws,hdr j hj,List.nodup_append]at h;exact h.2.2 _ hm _ fm rfl
  refine zeL [0,3,4,5,7,9,10] [] 12 ws.length (fun j E Hj=>∃wv sj Sj lvj,E.at 11=wv/\jU (16*(s.loops:Int)+1) (ws.drop j) j sj=jU (16*(s.loops:Int)+1) ws 0 {p.2 with state:=p.1} /\ sj.vars.length=r.2.vars.length/\RepQ X Hj Sj sj lvj vv/\FrQ X S vv (H.alloc (.cells x.cells 0 true)) Sj vv Hj/\RowQ X Sj vv (H2.next+1) Hj a (uA ws)/\RowO X Sj vv (H2.next+1) Hj cv r.2.vars/\RowQ X Sj vv (H2.next+1) Hj wv (r.2.state::(ws.take j).map fun i=>r.2.vars.getD i 0)/\(∀k,zd3 a k->¬zd3 wv k)/\∀k,zd3 cv k->¬zd3 wv k) eE ⟨_,_,S5,lv5,eE,by rw[gD],by rw[<-hp];rfl,R6,F06,W6,C6,V6,d5,dC5⟩ ?_;clear R6 F06 W6 V6 C6 d5 dC5 m5 g6;rintro j E Hj hj hcE hrH hnH hsI ⟨wv,sj,Sj,lvj,k11,hJ,hjv,Rj,Fj,Aj,Cj,Wj,dj,dCj⟩;(try simp only[zec,zeb,aX,zdX,zd2,Nat.reduceBEq,Nat.reduceAdd,Nat.reduceLeDiff,tyF, *]at hcE);(try simp only[zec,zeb,aX,zdX,zd2,Nat.reduceBEq,Nat.reduceAdd,Nat.reduceLeDiff,tyF, *]at hrH);(try simp only[zea,zef,zeB,bT,Nat.reduceAdd]at hnH);have mj:=Rj.m;dsimp only[zek]at mj;have nj:H2.next+1<=Hj.next:=dr n6 hnH
  by_cases hlt:j<ws.length
  .have hlt':(j:Int)<ws.length:=by omega
   have hwj:=haw j hlt;have hvj:=hdl1 j hlt;have htj:=htk j hlt;have hwl1:ws.getD j 0<sj.vars.length:=by rw[hjv];exact hwm _ M4
   rw[hdr j hlt]at hJ;rw[MH]at hJ;rw[htj];generalize ws.getD j 0=w at *;generalize hy:r.2.vars.getD w 0=y at *;obtain⟨qa,ixa,lda⟩:=Aj.at hwj;obtain⟨qc',ixc,ldc,_⟩:=Cj.at hvj;obtain⟨qv,ixv,ldv,_⟩:=Rj.setV hwl1 0;obtain⟨e1,e2,e3⟩:=MG hln (j:=j) ac;have e4:IntKind.wrap .i64 (16*(s.loops:Int)+1)=16*(s.loops:Int)+1:=zft ac ac;have e5:IntKind.wrap .i64 (16*(s.loops:Int)+1+j)=16*(s.loops:Int)+1+j:=zft ac ac;obtain⟨v',H',a1,W',R',n',q',own',_,_⟩:=Wj.app1 Rj nj y ac (by simp only[fj,dy,oK];omega);have A':=Aj.other n' q' dj;have C':=Cj.other n' q' dCj;have F':=Fj.other n' q' (fun k hk=>by have:=(Wj.r.lt hk).1;simp only[zea];omega);have d':∀k,zd3 a k->¬zd3 v' k:=fun k h1 h2=>by
    rcases own' k h2 with e|e
    .exact dj k h1 e
    .have:=(Aj.r.lt h1).2;omega
   have dC':∀k,zd3 cv k->¬zd3 v' k:=fun k h1 h2=>by
    rcases own' k h2 with e|e
    .exact dCj k h1 e
    .have:=(Cj.r.lt h1).2;omega
   have m':=R'.m;have hFx:Fin (zdS ⟨3,16*(s.loops:Int)+1+j,[]⟩ sj).2:=hFl.le (by rw[<-hJ];exact((oC _).setV _).trans (sR _ _ _ _).1);have hput:=qs hG R' 3 (16*(s.loops:Int)+1+j) hFx;obtain⟨qa',ixa',lda'⟩:=A'.at hwj;rw[ixa]at ixa';simp only[aQ,AV.ptr.injEq,aX]at ixa';subst ixa';dsimp only[zek]at m';clear dj dCj Aj Cj Wj q' own' Rj hvj;repeat' (first
    |(apply au ?_;clear hK K)|apply Ry.o ?_|(apply aV (fun hb hbp=>?_) (fun hb hbp=>?_)<;>try(cases hb;done))|apply am ?_|(apply zdQ fun K hK=>?_)|(apply zdP 20 [(3,14),(3,16),(7,14),(7,16)] fun K hK=>?_)|(apply zdP 27 [(4,12),(8,12),(10,12),(11,12)] fun K hK=>?_)|(apply zdP 36 [(3,18),(3,20),(7,18),(7,20),(15,18),(17,18)] fun K hK=>?_)|(apply zdU ?_;try intro _)|(apply zdV ?_ ?_<;>clear hK K)|apply aH ?_|apply zd9 rfl ?_|apply aA ?_|apply zdR ?_|apply zdT ?_)
   refine bA rfl bE bF ?_;simp only[bB];refine bp ?_ hput;generalize hpu:zdS ⟨3,16*(s.loops:Int)+1+j,[]⟩ sj=pu at *;have hpuv:pu.2.vars=sj.vars:=by rw[<-hpu];rfl
   have hwl2:w<pu.2.vars.length:=by rw[hpuv];exact hwl1
   rintro u H7 ⟨rfl,S7,lv7,R7,F7⟩;obtain⟨q',hix',hld',H8,hst,hq1,hq2,hq3,R8,F8,o8,n8⟩:=R7.setV hwl2 pu.1;have hqq:q'=qv:=by
    rw[ixv]at hix';simp only[aQ,AV.ptr.injEq]at hix';exact hix'.1.symm
   subst hqq;have A7:=A'.fr (X:=X) ac F7;have A8:=A7.fr (X:=X) ac F8;have C8:=(C'.fr (X:=X) ac F7).fr (X:=X) ac F8;have W8:=(W'.fr (X:=X) ac F7).fr (X:=X) ac F8;have F08:=F'.trans (F7.trans F8);obtain⟨qa7,ixa7,lda7⟩:=A7.at hwj;obtain⟨qa8,ixa8,lda8⟩:=A8.at hwj;rw[ixa]at ixa7 ixa8;simp only[aQ,AV.ptr.injEq,aX]at ixa7 ixa8;subst ixa7 ixa8;have m7:=R7.m;have m8:=R8.m;have n7:=F7.next
   have nj8:Hj.next<=H8.next:=ac
   have hjv':(pu.2.vars.set w pu.1).length=r.2.vars.length:=by rw[iS,hpuv];exact hjv
   have hmap:(r.2.state::(ws.take j).map fun i=>r.2.vars.getD i 0)++[y]=r.2.state::(ws.take j++[w]).map fun i=>r.2.vars.getD i 0:=by rw[pU,eF,kP,hy];rfl
   rw[hmap]at W8;clear hpuv hmap hjv hix' A' W' C' F' hpu hld' A7;dsimp only[zek]at m7 m8;dsimp only[zd4];repeat' (first
    |(apply au ?_;clear hK K)|apply Rx.o ?_|apply ba ?_|apply am ?_|(apply zdQ fun K hK=>?_)|(apply zdP 20 [(3,14),(3,16),(7,14),(7,16)] fun K hK=>?_)|(apply zdP 27 [(4,12),(8,12),(10,12),(11,12)] fun K hK=>?_)|(apply zdP 36 [(3,18),(3,20),(7,18),(7,20),(15,18),(17,18)] fun K hK=>?_)|(apply zdU ?_;try intro _)|(apply zdV ?_ ?_<;>clear hK K)|apply aH ?_|apply zd9 rfl ?_|apply aA ?_|apply zdR ?_|apply zdT ?_)
   .exact eK
   .refine⟨ac,zd7,zd7,eN,FV,?_⟩;exact⟨v',_,S7,lv7,eE,hJ,hjv',R8,F08,A8,C8,W8,d',dC'⟩
  .have hlt':¬(j:Int)<ws.length:=by omega
   have hd:ws.drop j=[]:=rE ac;have ht:ws.take j=ws:=iq ac;rw[hd]at hJ;rw[ht]at Wj;have hJ:sj=jU (16*(s.loops:Int)+1) ws 0 {p.2 with state:=p.1}:=hJ;rw[<-hJ]at hFl h3;have gj:=fK hR Fj;have nj2:H.next+1<=Hj.next:=Fj.next
   clear hJ hd ht;repeat' (first
    |(apply au ?_;clear hK K)|apply Ry.o ?_|(apply aV (fun hb hbp=>?_) (fun hb hbp=>?_)<;>try(cases hb;done))|apply am ?_|(apply zdQ fun K hK=>?_)|(apply zdP 20 [(3,14),(3,16),(7,14),(7,16)] fun K hK=>?_)|(apply zdP 27 [(4,12),(8,12),(10,12),(11,12)] fun K hK=>?_)|(apply zdP 36 [(3,18),(3,20),(7,18),(7,20),(15,18),(17,18)] fun K hK=>?_)|(apply zdU ?_;try intro _)|(apply zdV ?_ ?_<;>clear hK K)|apply aH ?_|apply zd9 rfl ?_|apply aA ?_|apply zdR ?_|apply zdT ?_)
   refine bA rfl bE bF ?_;simp only[bB];refine bp ?_ (IH x.thn sj t h3 hFt ac ac Rj);rintro u H6 ⟨S6,lv6,vv6,R6,F6⟩;have A6:=Aj.fr (X:=X) ac F6;have W6:=Wj.fr (X:=X) ac F6;have C6:=Cj.fr (X:=X) ac F6;have F06:=Fj.trans F6;have nj6:H2.next+1<=H6.next:=dr nj F6.next
   have g6:=fK hR F06;clear Rj Fj Aj Wj Cj F6 gj mj;dsimp only[zd4];repeat' (first
    |(apply au ?_;clear hK K)|apply Rx.o ?_|apply ba ?_|apply am ?_|(apply zdQ fun K hK=>?_)|(apply zdP 20 [(3,14),(3,16),(7,14),(7,16)] fun K hK=>?_)|(apply zdP 27 [(4,12),(8,12),(10,12),(11,12)] fun K hK=>?_)|(apply zdP 36 [(3,18),(3,20),(7,18),(7,20),(15,18),(17,18)] fun K hK=>?_)|(apply zdU ?_;try intro _)|(apply zdV ?_ ?_<;>clear hK K)|apply aH ?_|apply zd9 rfl ?_|apply aA ?_|apply zdR ?_|apply zdT ?_)
   refine bA rfl bE bF ?_;simp only[bB];refine bp ?_ (qt hG hX n x.value t d h4 hFd R6);rintro u H7 ⟨rfl,S7,lv7,R7,F7⟩;have A7:=A6.fr (X:=X) ac F7;have W7:=W6.fr (X:=X) ac F7;have C7:=C6.fr (X:=X) ac F7;have F07:=F06.trans F7;have m7:=R7.m;have n7:H.next+1<=H7.next:=F07.next
   have nj7:H2.next+1<=H7.next:=dr nj6 F7.next
   clear R6 F06 A6 W6 C6 F7 g6;dsimp only[zek]at m7;dsimp only[zd4];have hwlen:(r.2.state::ws.map fun i=>r.2.vars.getD i 0).length<2^37:=by simp only[fj,dy];omega
   obtain⟨kv,H9,a9,K9,R9,n9,q9,own9⟩:=W7.appR (m:=[d.1,d.2.state]) R7 nj7 aK ac (by simp only[mF]at hwlen⊢;omega);have A9:=A7.other n9 q9 dj;have C9:=C7.other n9 q9 dCj;have F9:=F07.other n9 q9 (fun k hk=>by have:=(W7.r.lt hk).1;simp only[zea];omega);have dA9:∀k,zd3 a k->¬zd3 kv k:=fun k h1 h2=>by
    rcases own9 k h2 with e|e
    .exact dj k h1 e
    .have:=(A7.r.lt h1).2;omega
   have dC9:∀k,zd3 cv k->¬zd3 kv k:=fun k h1 h2=>by
    rcases own9 k h2 with e|e
    .exact dCj k h1 e
    .have:=(C7.r.lt h1).2;omega
   have l9a:=fun H'=>A9.r.len' (H':=H');rw[dy]at l9a;simp only[eF,kP,mF,bT,Nat.reduceAdd]at a9;clear R7 F07 A7 W7 C7 dj dCj own9 q9;repeat' (first
    |(apply au ?_;clear hK K)|apply Rx.o ?_|apply ba ?_|apply am ?_|(apply zdQ fun K hK=>?_)|(apply zdP 20 [(3,14),(3,16),(7,14),(7,16)] fun K hK=>?_)|(apply zdP 27 [(4,12),(8,12),(10,12),(11,12)] fun K hK=>?_)|(apply zdP 36 [(3,18),(3,20),(7,18),(7,20),(15,18),(17,18)] fun K hK=>?_)|(apply zdU ?_;try intro _)|(apply zdV ?_ ?_<;>clear hK K)|apply aH ?_|apply zd9 rfl ?_|apply aA ?_|apply zdR ?_|apply zdT ?_)
   have hdv:∀w,w<r.2.vars.length->d.2.vars[w]?=some (d.2.vars.getD w 0):=fun w hw=>by
    rw[dM,br ac];rfl
   have hwj0:∀j,j<ws.length->ws.getD j 0<r.2.vars.length:=fun j hlt=>hwm _ M4;refine zeL [0,3,4,5,7,9,10] [] 14 ws.length (fun j E Hj=>∃kj,E.at 11=kj/\RepQ X Hj S7 d.2 lv7 vv6/\FrQ X S vv (H.alloc (.cells x.cells 0 true)) S7 vv6 Hj/\RowQ X S7 vv6 (H2.next+1) Hj a (uA ws)/\RowO X S7 vv6 (H2.next+1) Hj cv r.2.vars/\RowQ X S7 vv6 (H2.next+1) Hj kj (r.2.state::(ws.map fun i=>r.2.vars.getD i 0)++[d.1,d.2.state]++((ws.take j).map fun i=>d.2.vars.getD i 0))/\(∀k,zd3 a k->¬zd3 kj k)/\∀k,zd3 cv k->¬zd3 kj k) eE ⟨kv,eE,R9,F9,A9,C9,by rw[Bh,kP,ll];exact K9,dA9,dC9⟩ ?_;clear R9 F9 A9 C9 K9 dA9 dC9 m7 a9;rintro j E Hj hj hcE hrH hnH hsI ⟨kj,k11,Rj,Fj,Aj,Cj,Kj,dAj,dCj⟩;(try simp only[zec,zeb,aX,zdX,zd2,Nat.reduceBEq,Nat.reduceAdd,Nat.reduceLeDiff,tyF, *]at hcE);(try simp only[zec,zeb,aX,zdX,zd2,Nat.reduceBEq,Nat.reduceAdd,Nat.reduceLeDiff,tyF, *]at hrH);(try simp only[zea,zef,zeB,bT,Nat.reduceAdd]at hnH);have mj:=Rj.m;dsimp only[zek]at mj;have nj:H2.next+1<=Hj.next:=ac
   by_cases hlt:j<ws.length
   .have hlt':(j:Int)<ws.length:=by omega
    have hwj:=haw j hlt;have hvj:=hdv _ (hwj0 j hlt);have htj:=htk j hlt;rw[htj];generalize ws.getD j 0=w at *;generalize hy:d.2.vars.getD w 0=y at *;obtain⟨qa,ixa,lda⟩:=Aj.at hwj;obtain⟨qv,ixv,ldv⟩:=Rj.atV hvj;obtain⟨v',H',a1,K',R',n',q',own',gk,n''⟩:=Kj.app1 Rj nj y ac (by simp only[eO,fj,dy,oK,fV];omega);have A':=Aj.other n' q' dAj;have C':=Cj.other n' q' dCj;have F':=Fj.other n' q' (fun k hk=>by have:=(Kj.r.lt hk).1;simp only[zea];omega);have dA':∀k,zd3 a k->¬zd3 v' k:=fun k h1 h2=>by
     rcases own' k h2 with e|e
     .exact dAj k h1 e
     .have:=(Aj.r.lt h1).2;omega
    have dC':∀k,zd3 cv k->¬zd3 v' k:=fun k h1 h2=>by
     rcases own' k h2 with e|e
     .exact dCj k h1 e
     .have:=(Cj.r.lt h1).2;omega
    have hmap:(r.2.state::(ws.map fun i=>r.2.vars.getD i 0)++[d.1,d.2.state]++((ws.take j).map fun i=>d.2.vars.getD i 0))++[y]=r.2.state::(ws.map fun i=>r.2.vars.getD i 0)++[d.1,d.2.state]++((ws.take j++[w]).map fun i=>d.2.vars.getD i 0):=by rw[pU,eF,kP,hy];simp
    rw[hmap]at K';have Rja:=Rj.alloc (.cells [.int .i64 y] 0 true);have Aja:=Aj.same (cZ _) (H':=Hj.alloc (.cells [.int .i64 y] 0 true)) fun k hk=>ez;obtain⟨qa',ixa',lda'⟩:=A'.at hwj;obtain⟨qa2,ixa2,ldaa⟩:=Aja.at hwj;obtain⟨qv',ixv',ldv'⟩:=R'.atV hvj;obtain⟨qv2,ixv2,ldva⟩:=Rja.atV hvj;rw[ixa]at ixa' ixa2;rw[ixv]at ixv' ixv2;simp only[aQ,AV.ptr.injEq,aX]at ixa' ixa2 ixv' ixv2;subst ixa' ixa2 ixv' ixv2;have m':=R'.m;have mja:=Rja.m;dsimp only[zek]at m' mja;clear hmap dAj dCj Aj Cj Kj q' own' Rj Rja Aja hvj;repeat' (first
     |(apply au ?_;clear hK K)|apply Ry.o ?_|(apply aV (fun hb hbp=>?_) (fun hb hbp=>?_)<;>try(cases hb;done))|apply am ?_|(apply zdQ fun K hK=>?_)|(apply zdP 20 [(3,14),(3,16),(7,14),(7,16)] fun K hK=>?_)|(apply zdP 27 [(4,12),(8,12),(10,12),(11,12)] fun K hK=>?_)|(apply zdP 36 [(3,18),(3,20),(7,18),(7,20),(15,18),(17,18)] fun K hK=>?_)|(apply zdU ?_;try intro _)|(apply zdV ?_ ?_<;>clear hK K)|apply aH ?_|apply zd9 rfl ?_|apply aA ?_|apply zdR ?_|apply zdT ?_)
    .exact eK
    .refine⟨ac,zd7,zd7,eN,FV,?_⟩;exact⟨v',eE,R',F',A',C',K',dA',dC'⟩
   .have hlt':¬(j:Int)<ws.length:=by omega
    have ht:ws.take j=ws:=iq ac;rw[ht]at Kj;clear ht;have hput:=BQ (lo:=H2.next+1) hG Rj ⟨31,s.loops,r.2.state::(ws.map fun i=>r.2.vars.getD i 0)++[d.1,d.2.state]++(ws.map fun i=>d.2.vars.getD i 0)⟩ Kj.r (by rw[hk];exact hFk);rw[hk]at hput;repeat' (first
     |(apply au ?_;clear hK K)|apply Ry.o ?_|(apply aV (fun hb hbp=>?_) (fun hb hbp=>?_)<;>try(cases hb;done))|apply am ?_|(apply zdQ fun K hK=>?_)|(apply zdP 20 [(3,14),(3,16),(7,14),(7,16)] fun K hK=>?_)|(apply zdP 27 [(4,12),(8,12),(10,12),(11,12)] fun K hK=>?_)|(apply zdP 36 [(3,18),(3,20),(7,18),(7,20),(15,18),(17,18)] fun K hK=>?_)|(apply zdU ?_;try intro _)|(apply zdV ?_ ?_<;>clear hK K)|apply aH ?_|apply zd9 rfl ?_|apply aA ?_|apply zdR ?_|apply zdT ?_)
    refine bA rfl bE bF ?_;simp only[bB];refine bp ?_ hput;rintro u H10 ⟨rfl,S10,lv10,R10,F10⟩;have A10:=Aj.fr (X:=X) ac F10;have C10:=Cj.fr (X:=X) ac F10;have F010:=Fj.trans F10;have n10:Hj.next<=H10.next:=F10.next
    clear Rj Fj Aj Cj Kj dAj dCj hput mj F10;have m10:=R10.m;have hkv:k.2.vars=d.2.vars:=by rw[<-hk];rfl
    have R11:=R10.swapV (vw:=cv) (l:=r.2.vars) (C10.r.lo fun k _=>dE _) (fun k hk=>⟨by have:=(C10.r.lt hk).1;omega,(C10.r.lt hk).2,(C10.n k hk).1,(C10.n k hk).2.2⟩);have hk11:∀q,q≠X.b->(H10.set X.b (.cells (zek X {k.2 with vars:=r.2.vars} lv10 cv) 0 true)).get q=H10.get q:=fun q hq=>by rw[bz,ah hq]
    have F11:FrQ X S vv (H.alloc (.cells x.cells 0 true)) S10 cv (H10.set X.b (.cells (zek X {k.2 with vars:=r.2.vars} lv10 cv) 0 true)):=⟨F010.next,fun k h1 h2 h4 h5=>by rw[hk11 k h2];exact F010.get k h1 h2 h4 h5,F010.sub,fun k hk=>.inr (by have:=(C10.r.lt hk).1;simp only[zea];omega)⟩;have hAC:∀q,zd3 a q->¬zd3 cv q:=dAC;have A11:RowQ X S10 cv (H2.next+1) (H10.set X.b (.cells (zek X {k.2 with vars:=r.2.vars} lv10 cv) 0 true)) a (uA ws):=⟨A10.r.keep (aM _) fun q hq=>hk11 q (by have:=(A10.r.lt hq).1;omega),fun q hq=>⟨(A10.n q hq).1,hAC q hq,(A10.n q hq).2.2⟩⟩;clear A10 C10 F010 hk11;have R11a:=R11.alloc (.cells [.int .i64 k.1] 0 true);have F11a:=(fd X S10 cv (H10.set X.b (.cells (zek X {k.2 with vars:=r.2.vars} lv10 cv) 0 true))).alloc (.cells [.int .i64 k.1] 0 true);have hput:=zgc hG R11a ⟨25,0,[k.1]⟩ rfl ev (cL _) hFf rfl rfl;have n11:(H10.set X.b (.cells (zek X {k.2 with vars:=r.2.vars} lv10 cv) 0 true)).next=H10.next:=rfl
    dsimp only[zek]at m10 R11 F11 F11a A11 hput n11;rw[n11]at hput;dsimp only[zd4];repeat' (first
     |(apply au ?_;clear hK K)|apply Rx.o ?_|apply ba ?_|apply am ?_|(apply zdQ fun K hK=>?_)|(apply zdP 20 [(3,14),(3,16),(7,14),(7,16)] fun K hK=>?_)|(apply zdP 27 [(4,12),(8,12),(10,12),(11,12)] fun K hK=>?_)|(apply zdP 36 [(3,18),(3,20),(7,18),(7,20),(15,18),(17,18)] fun K hK=>?_)|(apply zdU ?_;try intro _)|(apply zdV ?_ ?_<;>clear hK K)|apply aH ?_|apply zd9 rfl ?_|apply aA ?_|apply zdR ?_|apply zdT ?_)
    refine bA rfl bE bF ?_;simp only[bB];refine bp ?_ hput;generalize hf:zdS ⟨25,0,[k.1]⟩ {k.2 with vars:=r.2.vars}=f at *;rintro u H12 ⟨rfl,S12,lv12,R12,F12⟩;have F012:=F11.trans (F11a.trans F12);have kb:∀q,q<H10.next->(Hp.alloc (Hp.set H10 X.b (.cells [.lst (X.p.arrays.map Ar.cells),.lst (X.p.funcs.map Fu.cells),lv10,X.nv,cv,.int .i64 k.2.state,.int .i64 k.2.loops] 0 true)) (.cells [.int .i64 k.1] 0 true)).get q=(Hp.set H10 X.b (.cells [.lst (X.p.arrays.map Ar.cells),.lst (X.p.funcs.map Fu.cells),lv10,X.nv,cv,.int .i64 k.2.state,.int .i64 k.2.loops] 0 true)).get q:=fun q hq=>by rw[zd1,ah dQ]
    have A12:=(A11.same (cZ _) kb).fr (X:=X) ac F12;have n12:H10.next+1<=H12.next:=F12.next
    clear R11 R11a F11 F11a A11 kb F12 hput;dsimp only[zd4];repeat' (first
     |(apply au ?_;clear hK K)|apply Rx.o ?_|apply ba ?_|apply am ?_|(apply zdQ fun K hK=>?_)|(apply zdP 20 [(3,14),(3,16),(7,14),(7,16)] fun K hK=>?_)|(apply zdP 27 [(4,12),(8,12),(10,12),(11,12)] fun K hK=>?_)|(apply zdP 36 [(3,18),(3,20),(7,18),(7,20),(15,18),(17,18)] fun K hK=>?_)|(apply zdU ?_;try intro _)|(apply zdV ?_ ?_<;>clear hK K)|apply aH ?_|apply zd9 rfl ?_|apply aA ?_|apply zdR ?_|apply zdT ?_)
    refine bA rfl bE bF ?_;simp only[bB];refine bp ?_ (wr hG R12 r.1 f.1 r.2.state (by rw[hm];exact hFm));rw[hm];rintro u H13 ⟨rfl,S13,lv13,R13,F13⟩;have m13:=R13.m;obtain⟨R14,F14⟩:=R13.setS m.1;have F014:=F012.trans (F13.trans F14);have A14:=(A12.fr (X:=X) ac F13).fr (X:=X) ac F14;have n13:H12.next<=H13.next:=F13.next
    have l14:=fun H'=>A14.r.len' (H':=H');rw[dy]at l14;dsimp only[zek]at m13 R14 F014 A14;dsimp only[zd4];repeat' (first
     |(apply au ?_;clear hK K)|apply Rx.o ?_|apply ba ?_|apply am ?_|(apply zdQ fun K hK=>?_)|(apply zdP 20 [(3,14),(3,16),(7,14),(7,16)] fun K hK=>?_)|(apply zdP 27 [(4,12),(8,12),(10,12),(11,12)] fun K hK=>?_)|(apply zdP 36 [(3,18),(3,20),(7,18),(7,20),(15,18),(17,18)] fun K hK=>?_)|(apply zdU ?_;try intro _)|(apply zdV ?_ ?_<;>clear hK K)|apply aH ?_|apply zd9 rfl ?_|apply aA ?_|apply zdR ?_|apply zdT ?_)
    refine zeL [0,3,5,7,9,15] [] 17 ws.length (fun j E Hj=>∃sj Sj lvj,jV k.1 r.1 r.2.vars (ws.drop j) (j+1) sj=jV k.1 r.1 r.2.vars ws 1 {m.2 with state:=m.1} /\ sj.vars.length=r.2.vars.length/\(∀i,i∉ws.take j->sj.vars[i]?=r.2.vars[i]?)/\RepQ X Hj Sj sj lvj cv/\FrQ X S vv (H.alloc (.cells x.cells 0 true)) Sj cv Hj/\RowQ X Sj cv (H2.next+1) Hj a (uA ws)) eE ⟨{m.2 with state:=m.1},S13,lv13,by rw[gD],by rw[<-hmv],fun i _=>by rw[<-hmv],R14,F014,A14⟩ ?_;clear R14 F014 A14 m13 R12 R13 F13 F14 F012 A12;rintro i3 E3 Hi3 hi3 hcE hrH hnH hsI ⟨sj,Sj,lvj,hJ,hjv,hjo,Rj,Fj,Aj⟩;(try simp only[zec,zeb,aX,zdX,zd2,Nat.reduceBEq,Nat.reduceAdd,Nat.reduceLeDiff,tyF, *]at hcE);(try simp only[zec,zeb,aX,zdX,zd2,Nat.reduceBEq,Nat.reduceAdd,Nat.reduceLeDiff,tyF, *]at hrH);(try simp only[zea,zef,zeB,bT,Nat.reduceAdd]at hnH);have mj:=Rj.m;dsimp only[zek]at mj;have nj:H2.next+1<=Hi3.next:=ac
    by_cases hlt:i3<ws.length
    .have hlt':(i3:Int)<ws.length:=by omega
     have hwj:=haw i3 hlt;have hvj:=hdl1 i3 hlt;have hnj:=hnt i3 hlt;have htj:=htk i3 hlt;have hwl1:ws.getD i3 0<sj.vars.length:=by rw[hjv];exact hwj0 i3 hlt
     rw[hdr i3 hlt,MI]at hJ;rw[<-hjo _ hnj]at hvj;rw[htj];generalize ws.getD i3 0=w at *;generalize r.2.vars.getD w 0=y at *;have hsx:IntKind.wrap .i64 (1+(i3:Int))=((i3+1:Nat):Int):=vZ;have hFq:Fin (zet r.1 (zdS ⟨25,((i3+1:Nat):Int),[k.1]⟩ sj).1 y (zdS ⟨25,((i3+1:Nat):Int),[k.1]⟩ sj).2).2:=hF.le (by rw[<-hJ];exact((oC _).setV _).trans (uz _ _ _ _ _ _).1);have hFq0:Fin (zdS ⟨25,((i3+1:Nat):Int),[k.1]⟩ sj).2:=hFq.le (zfX _ _ _ _).le;have Rja:=Rj.alloc (.cells [.int .i64 k.1] 0 true);have hput:=zgc hG Rja ⟨25,((i3+1:Nat):Int),[k.1]⟩ rfl ev (cL _) hFq0 rfl rfl;repeat' (first
      |(apply au ?_;clear hK K)|apply Ry.o ?_|(apply aV (fun hb hbp=>?_) (fun hb hbp=>?_)<;>try(cases hb;done))|apply am ?_|(apply zdQ fun K hK=>?_)|(apply zdP 20 [(3,14),(3,16),(7,14),(7,16)] fun K hK=>?_)|(apply zdP 27 [(4,12),(8,12),(10,12),(11,12)] fun K hK=>?_)|(apply zdP 36 [(3,18),(3,20),(7,18),(7,20),(15,18),(17,18)] fun K hK=>?_)|(apply zdU ?_;try intro _)|(apply zdV ?_ ?_<;>clear hK K)|apply aH ?_|apply zd9 rfl ?_|apply aA ?_|apply zdR ?_|apply zdT ?_)
     refine bA rfl bE bF ?_;simp only[bB];refine bp ?_ hput;generalize hg:zdS ⟨25,((i3+1:Nat):Int),[k.1]⟩ sj=g at *;have hgv:g.2.vars=sj.vars:=by rw[<-hg];rfl
     rintro u H14 ⟨rfl,S14,lv14,R14,F14'⟩;have F14:=((fd X Sj cv Hi3).alloc (.cells [.int .i64 k.1] 0 true)).trans F14';have A14:=Aj.fr (X:=X) ac F14;have F014:=Fj.trans F14;have n14:Hi3.next<=H14.next:=F14.next
     have m14:=R14.m;obtain⟨qa,ixa,lda⟩:=A14.at hwj;obtain⟨qv,ixv,ldv⟩:=R14.atV (i:=w) (x:=y) (by rw[hgv];exact hvj);clear Rja hput F14 F14' Fj Aj;dsimp only[zek]at m14;dsimp only[zd4];repeat' (first
      |(apply au ?_;clear hK K)|apply Rx.o ?_|apply ba ?_|apply am ?_|(apply zdQ fun K hK=>?_)|(apply zdP 20 [(3,14),(3,16),(7,14),(7,16)] fun K hK=>?_)|(apply zdP 27 [(4,12),(8,12),(10,12),(11,12)] fun K hK=>?_)|(apply zdP 36 [(3,18),(3,20),(7,18),(7,20),(15,18),(17,18)] fun K hK=>?_)|(apply zdU ?_;try intro _)|(apply zdV ?_ ?_<;>clear hK K)|apply aH ?_|apply zd9 rfl ?_|apply aA ?_|apply zdR ?_|apply zdT ?_)
     refine bA rfl bE bF ?_;simp only[bB];refine bp ?_ (wr hG R14 r.1 g.1 y hFq);generalize hmq:zet r.1 g.1 y g.2=mq at *;have hmqv:mq.2.vars=sj.vars:=by rw[<-hmq,(zfX _ _ _ _).v];exact hgv
     have hwl2:w<mq.2.vars.length:=by rw[hmqv];exact hwl1
     rintro u H15 ⟨rfl,S15,lv15,R15,F15⟩;obtain⟨q',hix',hld',H16,hst,hq1,hq2,hq3,R16,F16,o16,n16⟩:=R15.setV hwl2 mq.1;have hqq:q'=qv:=by
      rw[ixv]at hix';simp only[aQ,AV.ptr.injEq]at hix';exact hix'.1.symm
     subst hqq;have A15:=A14.fr (X:=X) ac F15;have A16:=A15.fr (X:=X) ac F16;have F016:=F014.trans (F15.trans F16);obtain⟨qa5,ixa5,lda5⟩:=A15.at hwj;obtain⟨qa6,ixa6,lda6⟩:=A16.at hwj;rw[ixa]at ixa5 ixa6;simp only[aQ,AV.ptr.injEq,aX]at ixa5 ixa6;subst ixa5 ixa6;obtain⟨qv5,ixv5,ldv5⟩:=R15.atV (i:=w) (x:=y) (by rw[hmqv];exact hvj);rw[ixv]at ixv5;simp only[aQ,AV.ptr.injEq,aX]at ixv5;subst ixv5;have m15:=R15.m;have m16:=R16.m;have n15:H14.next<=H15.next:=F15.next
     have nj16:Hi3.next<=H16.next:=ac
     have hjv':(mq.2.vars.set w mq.1).length=r.2.vars.length:=by rw[iS,hmqv];exact hjv
     have hjo':∀i,i∉ws.take i3++[w]->(mq.2.vars.set w mq.1)[i]?=r.2.vars[i]?:=fun i hi=>by
      rw[mI,not_or,A1]at hi;rw[zq,ah (fun e=>hi.2 e.symm),hmqv];exact hjo i hi.1
     clear hmqv hjv hjo hix' hld' hmq A14 A15 Rj R14 hgv hg;dsimp only[zek]at m15 m16;dsimp only[zd4];repeat' (first
      |(apply au ?_;clear hK K)|apply Rx.o ?_|apply ba ?_|apply am ?_|(apply zdQ fun K hK=>?_)|(apply zdP 20 [(3,14),(3,16),(7,14),(7,16)] fun K hK=>?_)|(apply zdP 27 [(4,12),(8,12),(10,12),(11,12)] fun K hK=>?_)|(apply zdP 36 [(3,18),(3,20),(7,18),(7,20),(15,18),(17,18)] fun K hK=>?_)|(apply zdU ?_;try intro _)|(apply zdV ?_ ?_<;>clear hK K)|apply aH ?_|apply zd9 rfl ?_|apply aA ?_|apply zdR ?_|apply zdT ?_)
     .exact eK
     .refine⟨ac,zd7,zd7,eN,FV,?_⟩;exact⟨_,S15,lv15,hJ,hjv',hjo',R16,F016,A16⟩
    .have hlt':¬(i3:Int)<ws.length:=by omega
     have hd:ws.drop i3=[]:=rE ac;rw[hd]at hJ;have hJ:sj=jV k.1 r.1 r.2.vars ws 1 {m.2 with state:=m.1}:=hJ;repeat' (first
      |(apply au ?_;clear hK K)|apply Ry.o ?_|(apply aV (fun hb hbp=>?_) (fun hb hbp=>?_)<;>try(cases hb;done))|apply am ?_|(apply zdQ fun K hK=>?_)|(apply zdP 20 [(3,14),(3,16),(7,14),(7,16)] fun K hK=>?_)|(apply zdP 27 [(4,12),(8,12),(10,12),(11,12)] fun K hK=>?_)|(apply zdP 36 [(3,18),(3,20),(7,18),(7,20),(15,18),(17,18)] fun K hK=>?_)|(apply zdU ?_;try intro _)|(apply zdV ?_ ?_<;>clear hK K)|apply aH ?_|apply zd9 rfl ?_|apply aA ?_|apply zdR ?_|apply zdT ?_)
     all_goals (refine⟨zdZ,_,zd6,?_⟩;try simp only[zdY])
     rw[<-hJ];exact⟨Sj,lvj,cv,Rj,F1.trans Fj⟩
end
end
section
def tyQaJ.tyF:=ad @dC (ad @eU (ad @hO (ad @gg (ad @fW (ad @iz (ad @eI (ad @ge (ad @en (ad @jO (ad @kO (ad @iw (ad @iy (@qP)))))))))))))
open tyQaJ
noncomputable def M8:{c:SC // aS 17 (Tryz.f54.body.getD .skip)=c}:=by
 refine⟨?_,?_⟩;rotate_left
 .simp only[Tryz.f54,cj,aS,zen,zel,zeu,zev,Nat.blt,Nat.ble];rfl
section
variable {tb:List En} (hG:RefT tb) {X:Qx} {c:Cx} (hX:CxQ X c)
set_option maxRecDepth 100000 in
set_option maxHeartbeats 4000000 in
include hG hX in
theorem zb7{n:Nat}(IH:∀m,m<n->BS tb X c m){x:St}{s r:Bd}(h:oz c n x s=some r)(hF:Fin r)(hz:x.sz<2^36)(hvl:s.vars.length<2^36){H:Hp}{S:Nat->Prop}{lv vv:AV}(hR:RepQ X H S s lv vv):
 zd5 Tryz.prog (zdW pls tb) 90 [.ptr X.b 0,.agg x.cells] H (nf X S vv H r):=by
 cases n with
 |zero=>simp[oz]at h
 |succ n=>
 have hw:Plain (zdW pls tb) 90:=hG.plain ei;have R1:=hR.alloc (.cells x.cells 0 true);have F1:=(fd X S vv H).alloc (.cells x.cells 0 true);unfold oz at h;by_cases k1:x.kind=1
 .rw[aE k1]at h;simp only[ir]at h;obtain⟨v,h1,h⟩:=h;split at h
  .rename_i hl;cases h;exact zbY hG hX k1 h1 hl ⟨hF.r,hF.l,hF.n⟩ hR
  .cases h
 rw[ah k1]at h;by_cases k2:x.kind=2
 .rw[aE k2]at h;simp only[gL]at h;obtain⟨i,h1,v,h2,a,ha,rfl⟩:=h;exact zbZ hG hX k2 h1 h2 ha ⟨hF.r,hF.l,hF.n⟩ hR
 rw[ah k2]at h;by_cases k3:x.kind=3
 .rw[aE k3]at h;simp only[gL]at h;obtain⟨q,h1,a,h2,b,h3,m,h4,rfl⟩:=h;exact qif hG hX k3 (IH n (cL n)) h1 h2 h3 h4 ⟨hF.r,hF.l,hF.n⟩ hz hvl hR
 rw[ah k3]at h;by_cases k4:x.kind=4
 .rw[aE k4]at h;cases n with
  |zero=>simp[pE]at h
  |succ n=>
  unfold pE at h;simp only[gL]at h;obtain⟨q,h1,b,hb,t,h2,d,h3,rfl⟩:=h;have main:=qwh hG hX (IH n ac) h1 hb h2 h3 rfl rfl hF hz hvl R1;refine zed (M:=241) (rs:=[]) (hw.call _) hw.ice hw.froz Tryz.func90 rfl rfl lc.2 rfl ?_;dsimp only[lc,zd8,Nat.reduceAdd];repeat' (first
   |(apply au ?_;clear hK K)|apply Ry.o ?_|(apply aV (fun hb hbp=>?_) (fun hb hbp=>?_)<;>try(cases hb;done))|apply am ?_|(apply zdQ fun K hK=>?_)|apply aA ?_)
  refine bA rfl bE bF ?_;simp only[bB];refine bp ?_ main;intro w H2 h2;have h3:=h2.pre F1;clear h2 main;dsimp only[zd4];repeat' (first
   |(apply au ?_;clear hK K)|apply am ?_|(apply zdQ fun K hK=>?_)|apply aA ?_)
  all_goals (refine⟨zdZ,_,zd6,?_⟩;try simp only[zdY])
  exact h3
 rw[ah k4]at h;by_cases k5:x.kind=5
 .rw[aE k5]at h;simp only[gL]at h;obtain⟨v,h1,rfl⟩:=h;exact zb0 hG hX k5 h1 ⟨hF.r,hF.l,hF.n⟩ hR
 rw[ah k5]at h;by_cases k6:x.kind=6
 .rw[aE k6]at h;simp only[ir]at h;obtain⟨av,h1,h⟩:=h;split at h
  .rename_i hc;cases h;exact zb4 hG hX k6 h1 hc.2 hz ⟨hF.r,hF.l,hF.n⟩ hR
  .cases h
 rw[ah k6]at h;by_cases k7:x.kind=7
 .rw[aE k7]at h;cases h;exact zb1 hG hX k7 hF hR
 rw[ah k7]at h;cases h;exact zb2 hG k1 k2 k3 k4 k5 k6 k7 hR
set_option maxRecDepth 100000 in
set_option maxHeartbeats 4000000 in
include hG hX in
theorem M9:∀(N n:Nat),n<N->BS tb X c n
 |0,n,hn=>by omega
 |N+1,n,hn=>fun l s r h hF hz hvl H S lv vv hR=>by
  have hw:Plain (zdW pls tb) 54:=hG.plain ei;have hll:=tT l;refine zed (M:=17) (rs:=[]) (hw.call _) hw.ice hw.froz Tryz.func54 rfl rfl M8.2 rfl ?_;dsimp only[M8,zd8,Nat.reduceAdd];repeat' (first
   |(apply au ?_;clear hK K)|apply Rx.o ?_|apply am ?_|(apply zdQ fun K hK=>?_)|apply aA ?_|apply zdR ?_|apply zdT ?_)
  refine zeL [0,1] [] 4 l.length (fun i E H2=>∃m si Si lvi vvi,m<=n/\ij c m (l.drop i) si=some r/\si.vars.length=s.vars.length/\RepQ X H2 Si si lvi vvi/\FrQ X S vv H Si vvi H2) eE ⟨n,s,S,lv,vv,aM _,h,rfl,hR,fd _ _ _ _⟩ ?_;rintro i E H2 hi hcE hrH hnH hsI ⟨m,si,Si,lvi,vvi,hm,hJ,hvi,Ri,Fi⟩;(try simp only[zec,zeb,aX,zdX,zd2,Nat.reduceBEq,Nat.reduceAdd,Nat.reduceLeDiff,tyF, *]at hcE);(try simp only[zec,zeb,aX,zdX,zd2,Nat.reduceBEq,Nat.reduceAdd,Nat.reduceLeDiff,tyF, *]at hrH);(try simp only[zea,zef,zeB,bT,Nat.reduceAdd]at hnH);by_cases hlt:i<l.length
  .have hlt':(i:Int)<l.length:=by omega
   have hgx:l[i]?=some l[i]:=br hlt;have hmem:=zgw (dX hlt);cases m with
   |zero=>simp[ij]at hJ
   |succ m=>
   rw[jl hlt]at hJ;unfold ij at hJ;simp only[ir]at hJ;obtain⟨q,h1,h2⟩:=hJ;generalize l[i]=x at *;have hFq:Fin q:=hF.le ((ml c m).2.1 _ _ _ h2).1;have hql:=((ml c m).1 _ _ _ h1).2;repeat' (first
    |(apply au ?_;clear hK K)|apply Ry.o ?_|(apply aV (fun hb hbp=>?_) (fun hb hbp=>?_)<;>try(cases hb;done))|apply am ?_|(apply zdQ fun K hK=>?_)|apply aA ?_|apply zdR ?_|apply zdT ?_)
   refine bA rfl bE bF ?_;simp only[bB];refine bp ?_ (zb7 hG hX (fun k hk=>M9 N k ac) h1 hFq ac ac Ri);rintro w H3 ⟨S3,lv3,vv3,R3,F3⟩;have F03:=Fi.trans F3;have n3:H2.next<=H3.next:=F3.next
   have hql':q.vars.length=s.vars.length:=ac;clear hql hvi;dsimp only[zd4];repeat' (first
    |(apply au ?_;clear hK K)|apply Rx.o ?_|apply am ?_|(apply zdQ fun K hK=>?_)|apply aA ?_|apply zdR ?_|apply zdT ?_)
   refine⟨ac,zd7,zd7,eN,oZ,?_⟩;exact⟨m,q,S3,lv3,vv3,ac,h2,hql',R3,F03⟩
  .have hlt':¬(i:Int)<l.length:=by omega
   have hd:l.drop i=[]:=rE ac;rw[hd]at hJ;cases m with
   |zero=>simp[ij]at hJ
   |succ m=>
   have hJ:si=r:=by unfold ij at hJ;simpa using hJ
   subst hJ;clear hvi;repeat' (first
    |(apply au ?_;clear hK K)|apply Ry.o ?_|(apply aV (fun hb hbp=>?_) (fun hb hbp=>?_)<;>try(cases hb;done))|apply am ?_|(apply zdQ fun K hK=>?_)|apply aA ?_|apply zdR ?_|apply zdT ?_)
   all_goals (refine⟨zdZ,_,zd6,?_⟩;try simp only[zdY])
   exact⟨Si,lvi,vvi,Ri,Fi⟩
end
end
end Go.Proofs.YtpbcimfiofmoeaaGreat
