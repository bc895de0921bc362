/- Parts: K6, K6t, G2p, K7, K8, Bytes, V1, L4b. -/
import Derived.Test.YtljebeflbbgibaaGreatWCJ
set_option linter.unusedSimpArgs false
set_option linter.unusedVariables false
set_option linter.unusedSectionVars false
set_option linter.defProp false
set_option maxHeartbeats 32000000
namespace Go.Ab
set_option maxRecDepth 20000
open Go
theorem kK{P:Prop}(h:P:=by (try simp only[QA]);omega):P:=h
theorem vW{P:Prop}(h:P:=by have:=(O.lt U).1;omega):P:=h
theorem A8{P:Prop}(h:P:=by rw[P8,if_neg (by have:=(hkv6.lt U).2;omega)]):P:=h
theorem vX{P:Prop}(h:P:=by obtain⟨r,imm,rfl,_⟩:=s5;exact⟨rfl,rfl⟩):P:=h
theorem A9{P:Prop}(h:P:=by rw[Hp.get_set,if_neg (by have:=(s5.lt U).1;omega)]):P:=h
theorem lI{P:Prop}(h:P:=by simp[Rd];omega):P:=h
theorem Ba{P:Prop}(h:P:=by rw[Hp.get_set,if_neg (by have:=(s4.b.lt hk).1;omega)]):P:=h
theorem lJ{P:Prop}(h:P:=by simp only[QZ];omega):P:=h
theorem vY{P:Prop}(h:P:=by rw[I];exact RY Tryz.underlying23 _ _ _ _):P:=h
theorem Bb{P:Prop}(h:P:=by rw[<- hHb,Hp.get_set,if_neg kK,P8,if_neg kK,P8,if_neg kK,P8,if_neg aa]):P:=h
theorem Bc{P:Prop}(h:P:=by simp only[P7,Nat.reduceBEq, *];exact Su (n:=c) aa aa):P:=h
theorem sU{P:Prop}(h:P:=by rw[Hp.get_set,if_neg vW]):P:=h
theorem sV{P:Prop}(h:P:=by simp only[P7,Nat.reduceBEq, *];exact Su (n:=cnt) aa aa):P:=h
theorem sW{P:Prop}(h:P:=by rw[Hp.get_set,if_neg aa];exact C):P:=h
def vZ:=@Nat.min_le_right
end Go.Ab
namespace Go.Proofs.YtljebeflbbgibaaGreat
set_option maxRecDepth 20000
open Go Go.Ab
section
def tyK6.tyF:=ac @dr (ac @cZ (ac @dK (ac @ey (ac @ez (ac @uT (ac @jE (ac @vg (ac @A4 (ac @A5 (ac @A6 (ac @OM (ac @gW (ac @gX (ac @jU (@vU)))))))))))))))
open tyK6
noncomputable def sX:{c:SC // aB 147 (Tryz.f22.body.getD .skip)=c}:=by
 refine⟨?_,?_⟩;rotate_left
 .simp only[Tryz.f22,bh,aB,Qh,Qe,Qm,Qn,Nat.blt,Nat.ble];rfl
theorem Be(q n:Nat):jn Tryz.prog 93 [(0,.sl q 0 n 1)]=some (.agg [.sl q 0 n 1,.int .i64 0]):=ad
theorem ON(y:OfX):(kJ y).any (gT 90)=false:=by obtain⟨l,t,n⟩:=y;rfl
theorem OO(y:List Nd×Nd):(lG y).any (gT 90)=false:=by obtain⟨l,⟨a,b,c⟩⟩:=y;rfl
theorem Bf{tb:List En}(o:∀C,QT tb 42 C=(i9 vQ).sp C)(F:iI tb 42=true){S:Nat->Prop}{n:Nat}{H:Hp}{v:AV}{l:List Nd}(Y:n<58)(J:Q6 S n H 3 v (l.map Nd.cells))(t m:Int)(Z:sP ⟨l,t,m⟩):
 P2 Tryz.prog (PU pls tb) 42 [v,.int .i64 t,.int .i64 m] H fun w H'=>w=.int .i64 (jW l t m)/\Icy S H H':=by
 obtain⟨M,i,g⟩:Q4 S (n+1) H [v,.int .i64 t,.int .i64 m] (kJ ⟨l,t,m⟩):=.cons J.rd (.cons (.int _ _) (.cons (.int _ _) .nil));exact sd (x:=(⟨l,t,m⟩:OfX)) (enc:=kJ) (ok:=sP) (out:=fun x=>.int .i64 (jW x.l x.t x.n)) Ou (fun C=>by rw[o];rfl) F ON Z aa i (g 60 aa)
theorem Bg{tb:List En}(o:∀C,QT tb 45 C=(i9 vP).sp C)(F:iI tb 45=true){S:Nat->Prop}{n:Nat}{H:Hp}{v:AV}{l:List Nd}{cs:List AV}{x:Nd}(m:n<57)(J:Q6 S n H 3 v (l.map Nd.cells))(V:Q4 S n H cs x.cells)(Z:QY l):
 P2 Tryz.prog (PU pls tb) 45 [v,.agg cs] H fun w H'=>w=.bool (ji l x)/\Icy S H H':=by
 obtain⟨M,i,g⟩:Q4 S (n+1) H [v,.agg cs] (lG (l,x)):=.cons J.rd (.cons (.agg V) .nil);exact sd (x:=((l,x):List Nd×Nd)) (enc:=lG) (ok:=fun x=>QY x.1) (out:=fun x=>.bool (ji x.1 x.2)) Oo (fun C=>by rw[o];rfl) F OO Z aa i (g 60 aa)
theorem iS.icy{S:Nat->Prop}{lo:Nat}{H H':Hp}{r:Nat}{L:List Int}{c:Int}(h:iS lo H r L c)(Y:Icy S H H')(hr:¬S r):iS lo H' r L c:=by
 obtain⟨F,V,v,C,g⟩:=h;refine⟨F,by rw[Y.next];exact V,v,by rw[Y.out r hr];exact C,?_⟩;rcases g with g|⟨b,Z,M,U,O,z,I,K,J⟩
 .exact .inl g
 .rcases Y.same b with e|⟨o,i,j,m,A,f2,f3⟩
  .exact .inr ⟨b,Z,M,U,O,by rw[<-e];exact z,I,K,J⟩
  .rw[z]at A;simp only[au,HB.cells.injEq]at A;obtain⟨rfl,rfl,rfl⟩:=A;exact .inr ⟨b,Z,M,j,O,f2,I,K,J⟩
noncomputable def mS:List En:=[iQ,oh,sE,vO,i9 vQ,i9 vP]
theorem Bh(ρ:Nat->Int):dG Tryz.prog ρ mS:=⟨sH ρ,AJ ρ,As ρ,On ρ,nF (Ow ρ),nF (Ot ρ),trivial⟩
def g7(l:List Int):Nat:=min l.length 14
theorem v6(l:List Int)(j:Bool){i:Nat}(F:i<=14):QY (Qf l j i):=by
 refine⟨?_,fun n m=>?_⟩
 .have:=qf l j i;omega
 .have:=sK l j i n m;omega
def gc(n:Int):Int:=if Qd n 11=0 then 1 else ff false n
def d7(n:Int):Int:=if Qd n 11=0 then jM (bM (n.tdiv 11)) n else 0
theorem OP(n:Int):0<=(aM (gc n)).1/\(aM (gc n)).1<=3:=by
 have o:=R0 (n:=bM (n.tdiv 9)) (m:=5) aa aa;have K:=R0 (n:=n) (m:=19) aa aa;refine⟨?_,vM _⟩;unfold gc;split
 .decide
 .unfold ff;split
  .obtain⟨p,hp⟩:=cX o.1;rw[hp,cY];have L:p<5:=aa
   match p,L with
   |0,_=>decide
   |1,_=>decide
   |2,_=>decide
   |3,_=>decide
   |4,_=>decide
  .exact sj aa aa
structure StN (l:List Int) (i:Nat) (v:AV) (H2:Hp) (op imm:Int) (kv:AV) (L:List Int) (E:ai) (H:Hp):Prop where
 k0:E.at 0=Qg l
 k1:E.at 1=.bool false
 k4:E.at 4=.nilS
 k5:E.at 5=v
 k6:E.at 6=.int .i64 i
 k7:E.at 7=.ptr (H2.next+1) 0
 k8:E.at 8=.ptr (H2.next+2) 0
 rd:iS (H2.next+2) H (H2.next+1) L 0
 gn:H.get (H2.next+2)=some (.cells [.int .i64 op,.int .i64 imm,kv] 0 true)
 old:∀k,k<H2.next->RN (H2.get k) (H.get k)
 nx:H2.next+3<=H.next
theorem OQ{p:Nat}(h:p<5):([.int .i64 23,.int .i64 27,.int .i64 28,.int .i64 29,.int .i64 24]:List AV)[p]?=some (.int .i64 ([23,27,28,29,24].getD p 0)):=by
 match p,h with
 |0,_=>rfl
 |1,_=>rfl
 |2,_=>rfl
 |3,_=>rfl
 |4,_=>rfl
set_option maxRecDepth 100000 in
theorem OR(ρ:Nat->Int)(l:List Int)(hl:l.length<2^63):aX Tryz.prog ρ 22 [Qg l,.bool false] (Qz (RP l false)):=vT (n:=60) (cfg:=PU pls mS) fit (gL ρ) (dG.look (Bh ρ)) (.cons (Sv _) (.cons (.bool _) .nil)) (by
 have hw:Plain (PU pls mS) 22:=Ra (fun _=>rfl) rfl;have hkeep:(PU pls mS).keep 22=false:=rfl;have hc1:g7 l<=l.length:=Nat.min_le_left _ _;have hc2:g7 l<=14:=vZ _ _;have hc3:g7 l=l.length\/g7 l=14:=by unfold g7;omega
 have hnl:RP l false=Qf l false (g7 l):=rfl;generalize g7 l=cnt at *;have q7:(7:Int)≠0:=bA;have q101:(101:Int)≠0:=bA;have q1009:(1009:Int)≠0:=bA;have q9:(9:Int)≠0:=bA;have q11:(11:Int)≠0:=bA;have q5:(5:Int)≠0:=bA;refine P4 (M:=147) (rs:=[.tmp 4]) (hw.call _) hw.ice hw.froz Tryz.func22 rfl rfl sX.2 rfl ?_;dsimp only[sX,PZ,Nat.reduceAdd];repeat' (first
  |(apply PO ?_;clear hK K)|apply Rx.o ?_|apply dL ?_|(apply cK (fun A Z=>?_) (fun A Z=>?_)<;>try(cases A;done))|(apply a6 (fun z Y=>?_) (fun z Y=>?_)<;>try(cases z;done))|apply aj ?_|(apply PP fun K hK=>?_)|(apply PQ 5 [(3,19),(8,19),(13,19),(15,19),(17,19)] fun K hK=>?_)|(apply PQ 10 [(3,9),(8,9)] fun K hK=>?_)|(apply PQ 15 [(1,6),(1,8),(1,9),(1,11),(4,6),(10,11)] fun K hK=>?_)|(apply P5 ?_;try intro _)|(apply P6 ?_ ?_<;>clear hK K)|apply aS ?_|apply P9 rfl ?_|apply ay ?_|apply PR ?_|apply aq ?_|apply PX ?_)
 refine Rk [0,1,4] [] 6 cnt (fun i E H=>∃v,E.at 5=v/\Q6 (fun _=>True) 2 H 3 v ((Qf l false i).map Nd.cells)) eE ⟨.sl 0 0 3 3,eE,.inr ⟨0,0,[[.int .i64 2,.int .i64 0,.nilS],[.int .i64 2,.int .i64 1,.nilS],[.int .i64 26,.int .i64 0,.nilS]],rfl,trivial,by rw[QA];omega,by rw[P8,az gz];rfl,ca _,⟨rfl,mR 2 0⟩,⟨rfl,mR 2 1⟩,⟨rfl,mR 26 0⟩,trivial⟩⟩ ?_;rintro i E V hi hcE hrH hnH hsI ⟨v,k5,hv⟩;(try simp only[QK,Qs,a7,P7,Qy,Nat.reduceBEq,Nat.reduceAdd,Nat.reduceLeDiff,tyF, *]at hcE);(try simp only[QK,Qs,a7,P7,Qy,Nat.reduceBEq,Nat.reduceAdd,Nat.reduceLeDiff,tyF, *]at hrH);(try simp only[QA,QZ,Re,bZ,Nat.reduceAdd]at hnH);by_cases hic:i<cnt
 .have hi1:(i:Int)<l.length:=by omega
  have hi2:(i:Int)<14:=aa;have hgx:l[i]?=some (l.getD i 0):=sm;have hns:Qf l false (i+1)=gB (Qf l false i) (fP (Qf l false i) false (l.getD i 0)):=rfl;have hno:=v6 l false (i:=i) aa;have hnb:=sJ l false i;have hnlen:=qf l false i;have hvL:∀H:Hp,(∀k,k<V.next->RN (V.get k) (H.get k))->V.next<=H.next->Q6 (fun k=>k<V.next) 2 H 3 v ((Qf l false i).map Nd.cells):=fun H h1 h2=>(hv.keep (S':=fun k=>k<V.next) (fun k U _=>U) (aC _) fun _ _ _=>rfl).icyB h2 fun k U _=>h1 k U
  have hvq:∀k o m z',v=.sl k o m z'->k<V.next:=fun k o m z' e=>by
   rcases hv with⟨rfl,_⟩|⟨q,imm,rows,rfl,e1,e2,_⟩
   .cases e
   .simp only[AV.sl.injEq]at e;rw[<-e.1];exact e2
  generalize l.getD i 0=n at *;repeat' (first
   |(apply PO ?_;clear hK K)|apply Ry.o ?_|apply bC ?_|(apply aU (fun A Z=>?_) (fun A Z=>?_)<;>try(cases A;done))|apply aj ?_|(apply PP fun K hK=>?_)|(apply PQ 5 [(3,19),(8,19),(13,19),(15,19),(17,19)] fun K hK=>?_)|(apply PQ 10 [(3,9),(8,9)] fun K hK=>?_)|(apply PQ 15 [(1,6),(1,8),(1,9),(1,11),(4,6),(10,11)] fun K hK=>?_)|(apply P5 ?_;try intro _)|(apply P6 ?_ ?_<;>clear hK K)|apply aS ?_|apply P9 rfl ?_|apply ay ?_|apply PR ?_|apply aq ?_|apply PX ?_)
  (apply a6 (fun z Y=>?_) (fun z Y=>?_)<;>try(cases z;done));have gh0:=@Be;repeat' (first
   |(apply PO ?_;clear hK K)|apply Ry.o ?_|apply bC ?_|(apply bD ?_;first|refine Rx.k (RS (fun _=>rfl) _ _ bA _) ?_)|(apply aU (fun A Z=>?_) (fun A Z=>?_)<;>try(cases A;done))|apply aj ?_|(apply PP fun K hK=>?_)|(apply PQ 5 [(3,19),(8,19),(13,19),(15,19),(17,19)] fun K hK=>?_)|(apply PQ 10 [(3,9),(8,9)] fun K hK=>?_)|(apply PQ 15 [(1,6),(1,8),(1,9),(1,11),(4,6),(10,11)] fun K hK=>?_)|(apply P5 ?_;try intro _)|(apply P6 ?_ ?_<;>clear hK K)|apply aS ?_|apply P9 rfl ?_|apply ay ?_|apply PR ?_|apply aq ?_|apply PX ?_)
  .exact eK
  generalize hHb:Hp.set (Hp.alloc (Hp.alloc (Hp.alloc V _) _) _) _ _=Hb;have nb:Hb.next=V.next+3:=by rw[<-hHb];rfl
  have gb0:Hb.get V.next=some (.cells [.int .i64 (Qp n 0),.int .i64 (Qp n 1),.int .i64 (Qp n 2)] 0 true):=by
   rw[<-hHb,a9,af kK,P8,af kK,P8,af kK,P8,az rfl];rfl
  have gb1:Hb.get (V.next+1)=some (.cells [.sl V.next 0 3 1,.int .i64 0] 0 true):=by rw[<-hHb];simp[a9,P8,QA]
  have hrng:=R0 (n:=n) (m:=19) aa aa;have gb2:Hb.get (V.next+2)=some (.cells [.int .i64 (4+Qd n 19),.int .i64 0,.nilS] 0 true):=by
   rw[<-hHb];simp[a9,P8,QA];exact Rr aa aa
  have ob:∀k,k<V.next->Hb.get k=V.get k:=fun k U=>Bb
  have hrd0:iS (V.next+2) Hb (V.next+1) [Qp n 0,Qp n 1,Qp n 2] 0:=⟨aa,aa,_,gb1,.inr ⟨V.next,0,_,0,rfl,gb0,rfl,aa,aa⟩⟩;clear hHb gb0 gb1;refine j5 (fun E' H'=>StN l i v V (ff false n) 0 .nilS [Qp n 0,Qp n 1,Qp n 2] E' H') ?_ ?_
  .have hr5:=R0 (n:=bM (n.tdiv 9)) (m:=5) aa aa;obtain⟨p,hp⟩:=cX hr5.1;have hp5:p<5:=aa;have hg5:=OQ hp5;have hp':Qd (IntKind.wrap .i64 (n.tdiv 9)) 5=p:=hp;repeat' (first
    |(apply PO ?_;clear hK K)|apply Ry.o ?_|apply bC ?_|(apply bD ?_;first|refine Rx.k (RS (fun _=>rfl) _ _ bA _) ?_)|(apply aU (fun A Z=>?_) (fun A Z=>?_)<;>try(cases A;done))|(apply aH (fun z Y=>?_) (fun z Y=>?_)<;>try(cases z;done))|apply aj ?_|(apply PP fun K hK=>?_)|(apply PQ 5 [(3,19),(8,19),(13,19),(15,19),(17,19)] fun K hK=>?_)|(apply PQ 10 [(3,9),(8,9)] fun K hK=>?_)|(apply PQ 15 [(1,6),(1,8),(1,9),(1,11),(4,6),(10,11)] fun K hK=>?_)|(apply P5 ?_;try intro _)|(apply P6 ?_ ?_<;>clear hK K)|apply aS ?_|apply P9 rfl ?_|apply ay ?_|apply PR ?_|apply aq ?_|apply PX ?_)
   .have hop:ff false n=[23,27,28,29,24].getD p 0:=by rw[ff,az ⟨rfl,dj⟩,hp,cY]
    refine⟨rfl,eE,eE,eE,eE,eE,eE,eE,?_,?_,?_,?_⟩
    .exact hrd0.keep (by simp only[QZ,QA];omega) fun k U=>zU
    .rw[a9,az rfl,hop]
    .intro k U;rw[a9,af aa,P8,af aa,ob k U];exact .refl _
    .simp only[QZ,QA];omega
   .have hop:ff false n=4+Qd n 19:=by rw[ff,af (fun h=>by have:=h.2;omega)]
    exact⟨rfl,eE,eE,eE,eE,eE,eE,eE,hrd0,by rw[hop];exact gb2,fun k U=>by rw[ob k U];exact .refl _,aa⟩
  clear hrd0 gb2 ob nb hrng;rintro E3 H3 ⟨k0,k1,k4,k5,k6,k7,k8,F,g,L,nx⟩;dsimp only[Sg];repeat' (first
   |(apply PO ?_;clear hK K)|apply Ry.o ?_|apply bC ?_|(apply bD ?_;first|refine Rx.k (RS (fun _=>rfl) _ _ bA _) ?_)|(apply aU (fun A Z=>?_) (fun A Z=>?_)<;>try(cases A;done))|apply aj ?_|(apply PP fun K hK=>?_)|(apply PQ 5 [(3,19),(8,19),(13,19),(15,19),(17,19)] fun K hK=>?_)|(apply PQ 10 [(3,9),(8,9)] fun K hK=>?_)|(apply PQ 15 [(1,6),(1,8),(1,9),(1,11),(4,6),(10,11)] fun K hK=>?_)|(apply P5 ?_;try intro _)|(apply P6 ?_ ?_<;>clear hK K)|apply aS ?_|apply P9 rfl ?_|apply ay ?_|apply PR ?_|apply aq ?_|apply PX ?_)
  refine j5 (fun E' H'=>StN l i v V (gc n) (d7 n) .nilS [Qp n 0,Qp n 1,Qp n 2] E' H') ?_ ?_
  .repeat' (first
    |(apply PO ?_;clear hK K)|apply Ry.o ?_|apply bC ?_|(apply bD ?_;first|refine Rx.k (vI (fun _=>rfl) _ _ _) ?_)|(apply aU (fun A Z=>?_) (fun A Z=>?_)<;>try(cases A;done))|(apply aH (fun z Y=>?_) (fun z Y=>?_)<;>try(cases z;done))|apply aj ?_|(apply PP fun K hK=>?_)|(apply PQ 5 [(3,19),(8,19),(13,19),(15,19),(17,19)] fun K hK=>?_)|(apply PQ 10 [(3,9),(8,9)] fun K hK=>?_)|(apply PQ 15 [(1,6),(1,8),(1,9),(1,11),(4,6),(10,11)] fun K hK=>?_)|(apply P5 ?_;try intro _)|(apply P6 ?_ ?_<;>clear hK K)|apply aS ?_|apply P9 rfl ?_|apply ay ?_|apply PR ?_|apply aq ?_|apply PX ?_)
   .exact eK
   .have h1:gc n=1:=by rw[gc,az dj]
    have h2:d7 n=jM (bM (n.tdiv 11)) n:=by rw[d7,az dj]
    refine⟨rfl,eE,eE,eE,eE,eE,eE,eE,?_,?_,?_,?_⟩
    .exact F.keep (aC _) fun k U=>jP
    .rw[a9,az rfl,h1,h2]
    .intro k U;rw[a9,af aa];exact L k U
    .exact nx
   .have h1:gc n=ff false n:=by rw[gc,af dj]
    have h2:d7 n=0:=by rw[d7,af dj]
    exact⟨rfl,eE,eE,eE,eE,eE,eE,eE,F,by rw[h1,h2];exact g,L,nx⟩
  clear F g L nx k0 k1 k4 k5 k6 k7 k8 E3 H3;rintro E3 H3 ⟨k0,k1,k4,k5,k6,k7,k8,F,g,L,nx⟩;dsimp only[Sg];have har:=OP n;have I:fP (Qf l false i) false n=⟨gc n,if gc n=27 then 1+Qd (bM (n.tdiv 5)) 2 else if gc n=23\/gc n=28 then Qd (bM (n.tdiv 5)) 2 else d7 n,Rz (Qf l false i) (gc n) n (aM (gc n)).1.toNat⟩:=by
   unfold fP gc d7 vL;split<;>rfl
  generalize gc n=C at *;obtain⟨c,hca⟩:=cX har.1;have hc3':c<=3:=aa;rw[hca,cY]at I;have hav:cU C=.tup [.int .i64 c,.bool (aM C).2]:=by rw[cU,hca]
  clear har;repeat' (first
   |(apply PO ?_;clear hK K)|apply Rx.o ?_|apply dL ?_|(apply eR ?_;first|refine Rx.k (j6 (fun _=>rfl) _ _) ?_)|(apply cK (fun A Z=>?_) (fun A Z=>?_)<;>try(cases A;done))|(apply a6 (fun z Y=>?_) (fun z Y=>?_)<;>try(cases z;done))|apply aj ?_|(apply PP fun K hK=>?_)|(apply PQ 5 [(3,19),(8,19),(13,19),(15,19),(17,19)] fun K hK=>?_)|(apply PQ 10 [(3,9),(8,9)] fun K hK=>?_)|(apply PQ 15 [(1,6),(1,8),(1,9),(1,11),(4,6),(10,11)] fun K hK=>?_)|(apply P5 ?_;try intro _)|(apply P6 ?_ ?_<;>clear hK K)|apply aS ?_|apply P9 rfl ?_|apply ay ?_|apply PR ?_|apply aq ?_|apply PX ?_)
  refine Rk [9] [] 11 c (fun j E H=>∃J,StN l i v V C (d7 n) J ([Qp n 0,Qp n 1,Qp n 2].drop j) E H/\QL H J (Rz (Qf l false i) C n j) (V.next+3)) eE ⟨.nilS,⟨eE,eE,eE,eE,eE,eE,eE,F,g,L,nx⟩,.inl ⟨rfl,rfl⟩⟩ ?_;clear F g L nx k0 k1 k4 k5 k6 k7 k8;rintro j E4 H4 hj hcE hrH hnH hsI ⟨J,⟨k0,k1,k4,k5,k6,k7,k8,F,g,L,nx⟩,O⟩;(try simp only[QK,Qs,a7,P7,Qy,Nat.reduceBEq,Nat.reduceAdd,Nat.reduceLeDiff,tyF, *]at hcE);(try simp only[QK,Qs,a7,P7,Qy,Nat.reduceBEq,Nat.reduceAdd,Nat.reduceLeDiff,tyF, *]at hrH);(try simp only[QA,QZ,Re,bZ,Nat.reduceAdd]at hnH);have h1kv:AV.one J=true/\J.cells=[J]:=by
   rcases O with⟨rfl,_⟩|⟨r,imm,rfl,_⟩<;>exact⟨rfl,rfl⟩
  obtain⟨hkv1,hkv2⟩:=h1kv;by_cases hjc:j<c
  .have hjc':(j:Int)<c:=by omega
   have hnx:(ow ([Qp n 0,Qp n 1,Qp n 2].drop j)).1=Qp n j/\(ow ([Qp n 0,Qp n 1,Qp n 2].drop j)).2=[Qp n 0,Qp n 1,Qp n 2].drop (j+1):=by
    have hj3:j<3:=aa
    match j,hj3 with
    |0,_=>exact⟨rfl,rfl⟩
    |1,_=>exact⟨rfl,rfl⟩
    |2,_=>exact⟨rfl,rfl⟩
   repeat' (first
    |(apply PO ?_;clear hK K)|apply Ry.o ?_|apply bC ?_|(apply bD ?_;first|refine Rx.k (AP (fun _=>rfl) _ _ _) ?_)|(apply aU (fun A Z=>?_) (fun A Z=>?_)<;>try(cases A;done))|(apply aH (fun z Y=>?_) (fun z Y=>?_)<;>try(cases z;done))|apply aj ?_|(apply PP fun K hK=>?_)|(apply PQ 5 [(3,19),(8,19),(13,19),(15,19),(17,19)] fun K hK=>?_)|(apply PQ 10 [(3,9),(8,9)] fun K hK=>?_)|(apply PQ 15 [(1,6),(1,8),(1,9),(1,11),(4,6),(10,11)] fun K hK=>?_)|(apply P5 ?_;try intro _)|(apply P6 ?_ ?_<;>clear hK K)|apply aS ?_|apply P9 rfl ?_|apply ay ?_|apply PR ?_|apply aq ?_|apply PX ?_)
   refine ci rfl cu cy ?_;simp only[fM,e6,b8];refine b3 ?_ (A0 (Ra (fun _=>rfl) rfl) F cQ);rintro w H5 ⟨rfl,rd5,n5,o5⟩;have gn5:H5.get (V.next+2)=_:=(o5 _ aa).trans g;have old5:∀k,k<V.next->RN (V.get k) (H5.get k):=fun k U=>by rw[o5 k aa];exact L k U
   have nx5:V.next+3<=H5.next:=aa
   have hkv5:QL H5 J (Rz (Qf l false i) C n j) (V.next+3):=O.keep aa fun k U=>o5 k vW;rw[hnx.2]at rd5;dsimp only[Qo];repeat' (first
    |(apply PO ?_;clear hK K)|apply Rx.o ?_|apply dL ?_|(apply cK (fun A Z=>?_) (fun A Z=>?_)<;>try(cases A;done))|(apply a6 (fun z Y=>?_) (fun z Y=>?_)<;>try(cases z;done))|apply aj ?_|(apply PP fun K hK=>?_)|(apply PQ 5 [(3,19),(8,19),(13,19),(15,19),(17,19)] fun K hK=>?_)|(apply PQ 10 [(3,9),(8,9)] fun K hK=>?_)|(apply PQ 15 [(1,6),(1,8),(1,9),(1,11),(4,6),(10,11)] fun K hK=>?_)|(apply P5 ?_;try intro _)|(apply P6 ?_ ?_<;>clear hK K)|apply aS ?_|apply P9 rfl ?_|apply ay ?_|apply PR ?_|apply aq ?_|apply PX ?_)
   refine ci rfl cu cy ?_;simp only[fM,e6,b8];refine b3 ?_ (Bf (fun _=>rfl) rfl aa (hvL H5 old5 aa) _ _ ⟨hno,AL hnb (AK _ _)⟩);rintro w H6 ⟨rfl,hy⟩;have n6:=hy.next
   have gn6:H6.get (V.next+2)=_:=(hy.out _ aa).trans gn5;have rd6:=rd5.icy hy aa;have old6:∀k,k<V.next->RN (V.get k) (H6.get k):=fun k U=>(old5 k U).trans (hy.same k)
   have hkv6:QL H6 J (Rz (Qf l false i) C n j) (V.next+3):=hkv5.keep aa fun k U=>hy.out k (by have:=(hkv5.lt U).1;omega);have nx6:V.next+3<=H6.next:=aa
   have n6':H5.next<=H6.next:=aa
   have n5':H4.next<=H5.next:=aa
   clear hy n6 n5;have hks:Rz (Qf l false i) C n (j+1)=Rz (Qf l false i) C n j++[jW (Qf l false i) (Sw C j) (Qp n j)]:=by rw[Rz]
   generalize jW (Qf l false i) (Sw C j) (Qp n j)=x at *;have hvb:QL (H6.alloc (.cells [.int .i64 x] 0 true)) J (Rz (Qf l false i) C n j) (V.next+3):=hkv6.keep (dD _) fun k U=>A8;obtain⟨v5,H7,a5,s5,n7,f7,o7⟩:=SM (r:=H6.next) (imm:=0) x hvb lz eX (by rw[sI];omega);have n7':H6.next+1<=H7.next:=by simp only[QA]at n7;omega
   have o7':∀k,k<V.next+3->H7.get k=H6.get k:=fun k U=>by rw[f7 k U,P8,af aa]
   clear n7 f7 o7 hvb;have gn7:H7.get (V.next+2)=_:=(o7' _ aa).trans gn6;have e7:(V.next+2 == H6.next)=false:=Rw aa;have e8:(V.next+2 == H7.next)=false:=Rw aa;have h1v5:AV.one v5=true/\v5.cells=[v5]:=vX;obtain⟨hv51,hv52⟩:=h1v5;dsimp only[Qo];repeat' (first
    |(apply PO ?_;clear hK K)|apply Rx.o ?_|apply dL ?_|(apply cK (fun A Z=>?_) (fun A Z=>?_)<;>try(cases A;done))|(apply a6 (fun z Y=>?_) (fun z Y=>?_)<;>try(cases z;done))|apply aj ?_|(apply PP fun K hK=>?_)|(apply PQ 5 [(3,19),(8,19),(13,19),(15,19),(17,19)] fun K hK=>?_)|(apply PQ 10 [(3,9),(8,9)] fun K hK=>?_)|(apply PQ 15 [(1,6),(1,8),(1,9),(1,11),(4,6),(10,11)] fun K hK=>?_)|(apply P5 ?_;try intro _)|(apply P6 ?_ ?_<;>clear hK K)|apply aS ?_|apply P9 rfl ?_|apply ay ?_|apply PR ?_|apply aq ?_|apply PX ?_)
   .exact eK
   .refine⟨aa,P1,P1,QN,Bc,?_⟩;refine⟨v5,⟨eE,eE,eE,eE,eE,eE,eE,?_,?_,?_,?_⟩,?_⟩
    .exact(rd6.keep aa fun k U=>o7' k aa).keep (aC _) fun k U=>jP
    .rw[a9,az rfl]
    .intro k U;rw[a9,af aa,o7' k aa];exact old6 k U
    .simp only[QZ];omega
    .rw[hks];exact .inr (s5.keep (aC _) fun k U=>A9)
  .have hje:j=c:=by omega
   subst hje;have hjc':¬(j:Int)<j:=aa;repeat' (first
    |(apply PO ?_;clear hK K)|apply Ry.o ?_|apply bC ?_|(apply aU (fun A Z=>?_) (fun A Z=>?_)<;>try(cases A;done))|apply aj ?_|(apply PP fun K hK=>?_)|(apply PQ 5 [(3,19),(8,19),(13,19),(15,19),(17,19)] fun K hK=>?_)|(apply PQ 10 [(3,9),(8,9)] fun K hK=>?_)|(apply PQ 15 [(1,6),(1,8),(1,9),(1,11),(4,6),(10,11)] fun K hK=>?_)|(apply P5 ?_;try intro _)|(apply P6 ?_ ?_<;>clear hK K)|apply aS ?_|apply P9 rfl ?_|apply ay ?_|apply PR ?_|apply aq ?_|apply PX ?_)
   (apply a6 (fun z Y=>?_) (fun z Y=>?_)<;>try(cases z;done));repeat' (first
    |(apply PO ?_;clear hK K)|apply Rx.o ?_|apply dL ?_|(apply cK (fun A Z=>?_) (fun A Z=>?_)<;>try(cases A;done))|apply aj ?_|(apply PP fun K hK=>?_)|(apply PQ 5 [(3,19),(8,19),(13,19),(15,19),(17,19)] fun K hK=>?_)|(apply PQ 10 [(3,9),(8,9)] fun K hK=>?_)|(apply PQ 15 [(1,6),(1,8),(1,9),(1,11),(4,6),(10,11)] fun K hK=>?_)|(apply P5 ?_;try intro _)|(apply P6 ?_ ?_<;>clear hK K)|apply aS ?_|apply P9 rfl ?_|apply ay ?_|apply PR ?_|apply aq ?_|apply PX ?_)
   have hr5:=R0 (n:=bM (n.tdiv 5)) (m:=2) aa aa;obtain⟨p,hpe⟩:∃p,Qd (bM (n.tdiv 5)) 2=p:=⟨_,rfl⟩;have hp':Qd (IntKind.wrap .i64 (n.tdiv 5)) 2=p:=hpe;rw[hpe]at hr5 I;clear hpe;have ew:IntKind.wrap .i64 (1+p)=1+p:=Rr aa aa;refine j5 (fun E' H'=>StN l i v V C (if C=27 then 1+p else d7 n) J ([Qp n 0,Qp n 1,Qp n 2].drop j) E' H'/\QL H' J (Rz (Qf l false i) C n j) (V.next+3)) ?_ ?_
   .repeat' (first
     |(apply PO ?_;clear hK K)|apply Ry.o ?_|apply bC ?_|(apply bD ?_;first|refine Rx.k (RS (fun _=>rfl) _ _ bA _) ?_)|(apply aU (fun A Z=>?_) (fun A Z=>?_)<;>try(cases A;done))|(apply aH (fun z Y=>?_) (fun z Y=>?_)<;>try(cases z;done))|apply aj ?_|(apply PP fun K hK=>?_)|(apply PQ 5 [(3,19),(8,19),(13,19),(15,19),(17,19)] fun K hK=>?_)|(apply PQ 10 [(3,9),(8,9)] fun K hK=>?_)|(apply PQ 15 [(1,6),(1,8),(1,9),(1,11),(4,6),(10,11)] fun K hK=>?_)|(apply P5 ?_;try intro _)|(apply P6 ?_ ?_<;>clear hK K)|apply aS ?_|apply P9 rfl ?_|apply ay ?_|apply PR ?_|apply aq ?_|apply PX ?_)
    .refine⟨rfl,⟨eE,eE,eE,eE,eE,eE,eE,?_,?_,?_,?_⟩,?_⟩
     .exact F.keep (aC _) fun k U=>jP
     .have hop:C=27:=by assumption
      rw[a9,az rfl,az hop,hop]
     .intro k U;rw[a9,af aa];exact L k U
     .exact nx
     .exact O.keep (aC _) fun k U=>sU
    .refine⟨rfl,⟨eE,eE,eE,eE,eE,eE,eE,F,?_,L,nx⟩,O⟩;rw[af dj];exact g
   clear g F L nx O k0 k1 k4 k5 k6 k7 k8 z Y;rintro E5 H5 ⟨⟨k0,k1,k4,k5,k6,k7,k8,F,g,L,nx⟩,O⟩;dsimp only[Sg];generalize him1:(if C=27 then 1+p else d7 n)=im1 at *;repeat' (first
    |(apply PO ?_;clear hK K)|apply Rx.o ?_|apply dL ?_|(apply cK (fun A Z=>?_) (fun A Z=>?_)<;>try(cases A;done))|apply aj ?_|(apply PP fun K hK=>?_)|(apply PQ 5 [(3,19),(8,19),(13,19),(15,19),(17,19)] fun K hK=>?_)|(apply PQ 10 [(3,9),(8,9)] fun K hK=>?_)|(apply PQ 15 [(1,6),(1,8),(1,9),(1,11),(4,6),(10,11)] fun K hK=>?_)|(apply P5 ?_;try intro _)|(apply P6 ?_ ?_<;>clear hK K)|apply aS ?_|apply P9 rfl ?_|apply ay ?_|apply PR ?_|apply aq ?_|apply PX ?_)
   all_goals
    refine j5 (fun E' H'=>StN l i v V C (if C=27 then 1+p else if C=23\/C=28 then p else d7 n) J ([Qp n 0,Qp n 1,Qp n 2].drop j) E' H'/\QL H' J (Rz (Qf l false i) C n j) (V.next+3)) ?_ ?_
    .repeat' (first
      |(apply PO ?_;clear hK K)|apply Ry.o ?_|apply bC ?_|(apply bD ?_;first|refine Rx.k (RS (fun _=>rfl) _ _ bA _) ?_)|(apply aU (fun A Z=>?_) (fun A Z=>?_)<;>try(cases A;done))|(apply aH (fun z Y=>?_) (fun z Y=>?_)<;>try(cases z;done))|apply aj ?_|(apply PP fun K hK=>?_)|(apply PQ 5 [(3,19),(8,19),(13,19),(15,19),(17,19)] fun K hK=>?_)|(apply PQ 10 [(3,9),(8,9)] fun K hK=>?_)|(apply PQ 15 [(1,6),(1,8),(1,9),(1,11),(4,6),(10,11)] fun K hK=>?_)|(apply P5 ?_;try intro _)|(apply P6 ?_ ?_<;>clear hK K)|apply aS ?_|apply P9 rfl ?_|apply ay ?_|apply PR ?_|apply aq ?_|apply PX ?_)
     all_goals first
      |(refine⟨rfl,⟨eE,eE,eE,eE,eE,eE,eE,?_,?_,?_,?_⟩,?_⟩
        ·exact F.keep (aC _) fun k U=>jP
        .have hop:C=23\/C=28:=by omega
         rw[a9,az rfl,af aa,az hop];first
         |done
         |(have hop:C=23:=by assumption
           rw[hop];done)
         |(have hop:C=28:=by assumption
           rw[hop];done)
        .intro k U;rw[a9,af aa];exact L k U
        .exact nx
        .exact O.keep (aC _) fun k U=>sU)
      |(refine⟨rfl,⟨eE,eE,eE,eE,eE,eE,eE,F,?_,L,nx⟩,O⟩
        rw[g,<-him1,af (by omega:¬(C=23\/C=28))])
    clear g F L nx O k0 k1 k4 k5 k6 k7 k8 him1;rintro E6 H6 ⟨⟨k0,k1,k4,k5,k6,k7,k8,F,g,L,nx⟩,O⟩;dsimp only[Sg];generalize (if C=27 then 1+p else if C=23\/C=28 then p else d7 n)=im2 at *;obtain⟨oo,hoo⟩:∃oo,oo=C:=⟨_,rfl⟩;rw[<-hoo]at g I O;clear hoo;have hvT:Q6 (fun _=>True) 2 H6 3 v ((Qf l false i).map Nd.cells):=(hvL H6 L aa).keep (fun _ _ _=>trivial) (aC _) fun _ _ _=>rfl;have hcw:Q4 (fun k=>V.next+3<=k) 2 H6 [.int .i64 oo,.int .i64 im2,J] (fP (Qf l false i) false n).cells:=by rw[I];exact vV oo im2 O fun _ h=>h
    have h1kv:AV.one J=true:=by rcases O with⟨rfl,_⟩|⟨r,imm,rfl,_⟩<;>rfl
    repeat' (first
     |(apply PO ?_;clear hK K)|apply Rx.o ?_|apply dL ?_|(apply cK (fun A Z=>?_) (fun A Z=>?_)<;>try(cases A;done))|(apply a6 (fun z Y=>?_) (fun z Y=>?_)<;>try(cases z;done))|apply aj ?_|(apply PP fun K hK=>?_)|(apply PQ 5 [(3,19),(8,19),(13,19),(15,19),(17,19)] fun K hK=>?_)|(apply PQ 10 [(3,9),(8,9)] fun K hK=>?_)|(apply PQ 15 [(1,6),(1,8),(1,9),(1,11),(4,6),(10,11)] fun K hK=>?_)|(apply P5 ?_;try intro _)|(apply P6 ?_ ?_<;>clear hK K)|apply aS ?_|apply P9 rfl ?_|apply ay ?_|apply PR ?_|apply aq ?_|apply PX ?_)
    refine ci rfl cu cy ?_;simp only[fM,e6,b8];refine b3 ?_ (Bg (fun _=>rfl) rfl aa hvT (hcw.keep (S':=fun _=>True) (fun _ _=>trivial) (aC _) fun _ _ _=>rfl) hno);rintro w H7 ⟨rfl,hy⟩;have n7:=hy.next
    have hv7:Q6 (fun k=>0<=k) 2 H7 3 v ((Qf l false i).map Nd.cells):=(hvT.icyB aa fun k _ _=>hy.same k).keep (fun _ _ _=>ca _) (aC _) fun _ _ _=>rfl;have hcw7:Q4 (fun k=>V.next+3<=k) 2 H7 [.int .i64 oo,.int .i64 im2,J] (fP (Qf l false i) false n).cells:=hcw.frame (fun _ h=>h) aa fun k _ _=>hy.same k;obtain⟨im,gn7⟩:∃im,H7.get (V.next+2)=some (.cells [.int .i64 oo,.int .i64 im2,J] im true):=by
     rcases hy.same (V.next+2)with e|⟨cs,i1,i2,tip,e1,e2,_⟩
     .exact⟨0,by rw[<-e];exact g⟩
     .rw[g]at e1;simp only[au,HB.cells.injEq]at e1;obtain⟨rfl,rfl,rfl⟩:=e1;exact⟨i2,e2⟩
    have n7':V.next+3<=H7.next:=aa
    clear hy n7 hvT hcw g F L O;dsimp only[Qo];generalize fP (Qf l false i) false n=nd at *;cases hhas:ji (Qf l false i) nd with
    |true=>
     have hadd:gB (Qf l false i) nd=Qf l false i:=by rw[gB,az hhas]
     repeat' (first
      |(apply PO ?_;clear hK K)|apply Rx.o ?_|apply dL ?_|(apply cK (fun A Z=>?_) (fun A Z=>?_)<;>try(cases A;done))|(apply a6 (fun z Y=>?_) (fun z Y=>?_)<;>try(cases z;done))|apply aj ?_|(apply PP fun K hK=>?_)|(apply PQ 5 [(3,19),(8,19),(13,19),(15,19),(17,19)] fun K hK=>?_)|(apply PQ 10 [(3,9),(8,9)] fun K hK=>?_)|(apply PQ 15 [(1,6),(1,8),(1,9),(1,11),(4,6),(10,11)] fun K hK=>?_)|(apply P5 ?_;try intro _)|(apply P6 ?_ ?_<;>clear hK K)|apply aS ?_|apply P9 rfl ?_|apply ay ?_|apply PR ?_|apply aq ?_|apply PX ?_)
     refine⟨aa,P1,P1,QN,sV,?_⟩;refine⟨v,eE,?_⟩;rw[hns,hadd];exact hv7.keep (fun _ _ _=>trivial) (aC _) fun _ _ _=>rfl
    |false=>
     have hadd:gB (Qf l false i) nd=Qf l false i++[nd]:=by rw[gB,af (by rw[hhas];simp)]
     have hone:([.int .i64 oo,.int .i64 im2,J]:List AV).all AV.one=true:=by
      show(true&&(true&&(AV.one J&&true)))=true;rw[h1kv];rfl
     have kbs:=fun H=>sT H (cs:=[.int .i64 oo,.int .i64 im2,J]) rfl hone;have hvb:Q6 (fun k=>0<=k) 2 (H7.alloc (.cells [.int .i64 oo,.int .i64 im2,J] 0 true)) 3 v ((Qf l false i).map Nd.cells):=hv7.keep (fun _ _ h=>h) (dD _) fun k _ U=>fT;obtain⟨v8,H8,a8,s8,n8,f8,q8⟩:=Q6.push (P:=Tryz.prog) (t:=26) Tryz.underlying26 jL nK nL rfl ad hvb (ca _) (r:=H7.next) (imm:=0) (row:=[.int .i64 oo,.int .i64 im2,J]) (w:=nd.cells) eX rfl hone (hcw7.keep (fun k U=>⟨ca _,fun o m z' e=>by have:=hvq k o m z' e;omega⟩) (dD _) fun k _ U=>fT) lI lI;have n8':H7.next<=H8.next:=by simp only[QA]at n8;omega
     clear n8 f8 q8 hvb;repeat' (first
      |(apply PO ?_;clear hK K)|apply Rx.o ?_|apply dL ?_|(apply cK (fun A Z=>?_) (fun A Z=>?_)<;>try(cases A;done))|(apply a6 (fun z Y=>?_) (fun z Y=>?_)<;>try(cases z;done))|apply aj ?_|(apply PP fun K hK=>?_)|(apply PQ 5 [(3,19),(8,19),(13,19),(15,19),(17,19)] fun K hK=>?_)|(apply PQ 10 [(3,9),(8,9)] fun K hK=>?_)|(apply PQ 15 [(1,6),(1,8),(1,9),(1,11),(4,6),(10,11)] fun K hK=>?_)|(apply P5 ?_;try intro _)|(apply P6 ?_ ?_<;>clear hK K)|apply aS ?_|apply P9 rfl ?_|apply ay ?_|apply PR ?_|apply aq ?_|apply PX ?_)
     refine⟨aa,P1,P1,QN,sV,?_⟩;refine⟨v8,eE,?_⟩;rw[hns,hadd,pn];exact s8.keep (fun _ _ _=>trivial) (aC _) fun _ _ _=>rfl
 .have hie:i=cnt:=by omega
  subst hie;have hx:∀H:Hp,Q6 (fun _=>True) 2 H 3 v ((Qf l false i).map Nd.cells)->∃m u,iceV H m v=some u/\bg 60 u=Qz (RP l false):=fun H h=>by
   obtain⟨u,h1,h2⟩:=h.rd;obtain⟨m0,hm⟩:=QG.iceV h1;exact⟨m0,u,hm m0 (aC _),by rw[h2 60 aa,hnl]⟩
  have hxx:=hx V hv;clear hx hv;by_cases c1:(i:Int)<l.length
  .have c2:¬(i:Int)<14:=by omega
   repeat' (first
    |(apply PO ?_;clear hK K)|apply Ry.o ?_|apply bC ?_|(apply aU (fun A Z=>?_) (fun A Z=>?_)<;>try(cases A;done))|(apply aH (fun z Y=>?_) (fun z Y=>?_)<;>try(cases z;done))|apply aj ?_|(apply PP fun K hK=>?_)|(apply PQ 5 [(3,19),(8,19),(13,19),(15,19),(17,19)] fun K hK=>?_)|(apply PQ 10 [(3,9),(8,9)] fun K hK=>?_)|(apply PQ 15 [(1,6),(1,8),(1,9),(1,11),(4,6),(10,11)] fun K hK=>?_)|(apply P5 ?_;try intro _)|(apply P6 ?_ ?_<;>clear hK K)|apply aS ?_|apply P9 rfl ?_|apply ay ?_|apply PR ?_|apply aq ?_|apply PX ?_)
   all_goals (refine⟨eI,_,P0,?_⟩;try simp only[PT])
   exact hxx
  .repeat' (first
    |(apply PO ?_;clear hK K)|apply Ry.o ?_|apply bC ?_|(apply aU (fun A Z=>?_) (fun A Z=>?_)<;>try(cases A;done))|(apply aH (fun z Y=>?_) (fun z Y=>?_)<;>try(cases z;done))|apply aj ?_|(apply PP fun K hK=>?_)|(apply PQ 5 [(3,19),(8,19),(13,19),(15,19),(17,19)] fun K hK=>?_)|(apply PQ 10 [(3,9),(8,9)] fun K hK=>?_)|(apply PQ 15 [(1,6),(1,8),(1,9),(1,11),(4,6),(10,11)] fun K hK=>?_)|(apply P5 ?_;try intro _)|(apply P6 ?_ ?_<;>clear hK K)|apply aS ?_|apply P9 rfl ?_|apply ay ?_|apply PR ?_|apply aq ?_|apply PX ?_)
   all_goals (refine⟨eI,_,P0,?_⟩;try simp only[PT])
   exact hxx)
end
section
def tyK6t.tyF:=ac @dr (ac @cZ (ac @dK (ac @ey (ac @ez (ac @uT (ac @jE (ac @vg (ac @Be (ac @A4 (ac @A5 (ac @A6 (ac @gW (ac @gX (ac @jU (@vU)))))))))))))))
open tyK6t
def ge(n:Int):Int:=if Qd n 11=0 then 1 else ff true n
theorem OS(n:Int):0<=(aM (ge n)).1/\(aM (ge n)).1<=3:=by
 have o:=R0 (n:=bM (n.tdiv 9)) (m:=5) aa aa;have K:=R0 (n:=n) (m:=19) aa aa;refine⟨?_,vM _⟩;unfold ge;split
 .decide
 .unfold ff;rw[af aA];exact sj aa aa
structure StT (l:List Int) (i:Nat) (v:AV) (H2:Hp) (op imm:Int) (kv:AV) (L:List Int) (E:ai) (H:Hp):Prop where
 k0:E.at 0=Qg l
 k1:E.at 1=.bool true
 k4:E.at 4=.nilS
 k5:E.at 5=v
 k6:E.at 6=.int .i64 i
 k7:E.at 7=.ptr (H2.next+1) 0
 k8:E.at 8=.ptr (H2.next+2) 0
 rd:iS (H2.next+2) H (H2.next+1) L 0
 gn:H.get (H2.next+2)=some (.cells [.int .i64 op,.int .i64 imm,kv] 0 true)
 old:∀k,k<H2.next->RN (H2.get k) (H.get k)
 nx:H2.next+3<=H.next
set_option maxRecDepth 100000 in
theorem OT(ρ:Nat->Int)(l:List Int)(hl:l.length<2^63):aX Tryz.prog ρ 22 [Qg l,.bool true] (Qz (RP l true)):=vT (n:=60) (cfg:=PU pls mS) fit (gL ρ) (dG.look (Bh ρ)) (.cons (Sv _) (.cons (.bool _) .nil)) (by
 have hw:Plain (PU pls mS) 22:=Ra (fun _=>rfl) rfl;have hkeep:(PU pls mS).keep 22=false:=rfl;have hc1:g7 l<=l.length:=Nat.min_le_left _ _;have hc2:g7 l<=14:=vZ _ _;have hc3:g7 l=l.length\/g7 l=14:=by unfold g7;omega
 have hnl:RP l true=Qf l true (g7 l):=rfl;generalize g7 l=cnt at *;have q7:(7:Int)≠0:=bA;have q101:(101:Int)≠0:=bA;have q1009:(1009:Int)≠0:=bA;have q9:(9:Int)≠0:=bA;have q11:(11:Int)≠0:=bA;have q5:(5:Int)≠0:=bA;refine P4 (M:=147) (rs:=[.tmp 4]) (hw.call _) hw.ice hw.froz Tryz.func22 rfl rfl sX.2 rfl ?_;dsimp only[sX,PZ,Nat.reduceAdd];repeat' (first
  |(apply PO ?_;clear hK K)|apply Rx.o ?_|apply dL ?_|(apply cK (fun A Z=>?_) (fun A Z=>?_)<;>try(cases A;done))|(apply a6 (fun z Y=>?_) (fun z Y=>?_)<;>try(cases z;done))|apply aj ?_|(apply PP fun K hK=>?_)|(apply PQ 5 [(3,19),(8,19),(13,19),(15,19),(17,19)] fun K hK=>?_)|(apply PQ 10 [(3,9),(8,9)] fun K hK=>?_)|(apply PQ 15 [(1,6),(1,8),(1,9),(1,11),(4,6),(10,11)] fun K hK=>?_)|(apply P5 ?_;try intro _)|(apply P6 ?_ ?_<;>clear hK K)|apply aS ?_|apply P9 rfl ?_|apply ay ?_|apply PR ?_|apply aq ?_|apply PX ?_)
 refine Rk [0,1,4] [] 6 cnt (fun i E H=>∃v,E.at 5=v/\Q6 (fun _=>True) 2 H 3 v ((Qf l true i).map Nd.cells)) eE ⟨.sl 0 0 3 3,eE,.inr ⟨0,0,[[.int .i64 2,.int .i64 0,.nilS],[.int .i64 2,.int .i64 1,.nilS],[.int .i64 26,.int .i64 0,.nilS]],rfl,trivial,by rw[QA];omega,by rw[P8,az gz];rfl,ca _,⟨rfl,mR 2 0⟩,⟨rfl,mR 2 1⟩,⟨rfl,mR 26 0⟩,trivial⟩⟩ ?_;rintro i E V hi hcE hrH hnH hsI ⟨v,k5,hv⟩;(try simp only[QK,Qs,a7,P7,Qy,Nat.reduceBEq,Nat.reduceAdd,Nat.reduceLeDiff,tyF, *]at hcE);(try simp only[QK,Qs,a7,P7,Qy,Nat.reduceBEq,Nat.reduceAdd,Nat.reduceLeDiff,tyF, *]at hrH);(try simp only[QA,QZ,Re,bZ,Nat.reduceAdd]at hnH);by_cases hic:i<cnt
 .have hi1:(i:Int)<l.length:=by omega
  have hi2:(i:Int)<14:=aa;have hgx:l[i]?=some (l.getD i 0):=sm;have hns:Qf l true (i+1)=gB (Qf l true i) (fP (Qf l true i) true (l.getD i 0)):=rfl;have hno:=v6 l true (i:=i) aa;have hnb:=sJ l true i;have hnlen:=qf l true i;have hvL:∀H:Hp,(∀k,k<V.next->RN (V.get k) (H.get k))->V.next<=H.next->Q6 (fun k=>k<V.next) 2 H 3 v ((Qf l true i).map Nd.cells):=fun H h1 h2=>(hv.keep (S':=fun k=>k<V.next) (fun k U _=>U) (aC _) fun _ _ _=>rfl).icyB h2 fun k U _=>h1 k U
  have hvq:∀k o m z',v=.sl k o m z'->k<V.next:=fun k o m z' e=>by
   rcases hv with⟨rfl,_⟩|⟨q,imm,rows,rfl,e1,e2,_⟩
   .cases e
   .simp only[AV.sl.injEq]at e;rw[<-e.1];exact e2
  generalize l.getD i 0=n at *;repeat' (first
   |(apply PO ?_;clear hK K)|apply Ry.o ?_|apply bC ?_|(apply aU (fun A Z=>?_) (fun A Z=>?_)<;>try(cases A;done))|apply aj ?_|(apply PP fun K hK=>?_)|(apply PQ 5 [(3,19),(8,19),(13,19),(15,19),(17,19)] fun K hK=>?_)|(apply PQ 10 [(3,9),(8,9)] fun K hK=>?_)|(apply PQ 15 [(1,6),(1,8),(1,9),(1,11),(4,6),(10,11)] fun K hK=>?_)|(apply P5 ?_;try intro _)|(apply P6 ?_ ?_<;>clear hK K)|apply aS ?_|apply P9 rfl ?_|apply ay ?_|apply PR ?_|apply aq ?_|apply PX ?_)
  (apply a6 (fun z Y=>?_) (fun z Y=>?_)<;>try(cases z;done));repeat' (first
   |(apply PO ?_;clear hK K)|apply Ry.o ?_|apply bC ?_|(apply bD ?_;first|refine Rx.k (RS (fun _=>rfl) _ _ bA _) ?_)|(apply aU (fun A Z=>?_) (fun A Z=>?_)<;>try(cases A;done))|apply aj ?_|(apply PP fun K hK=>?_)|(apply PQ 5 [(3,19),(8,19),(13,19),(15,19),(17,19)] fun K hK=>?_)|(apply PQ 10 [(3,9),(8,9)] fun K hK=>?_)|(apply PQ 15 [(1,6),(1,8),(1,9),(1,11),(4,6),(10,11)] fun K hK=>?_)|(apply P5 ?_;try intro _)|(apply P6 ?_ ?_<;>clear hK K)|apply aS ?_|apply P9 rfl ?_|apply ay ?_|apply PR ?_|apply aq ?_|apply PX ?_)
  .exact eK
  generalize hHb:Hp.set (Hp.alloc (Hp.alloc (Hp.alloc V _) _) _) _ _=Hb;have nb:Hb.next=V.next+3:=by rw[<-hHb];rfl
  have gb0:Hb.get V.next=some (.cells [.int .i64 (Qp n 0),.int .i64 (Qp n 1),.int .i64 (Qp n 2)] 0 true):=by
   rw[<-hHb,a9,af kK,P8,af kK,P8,af kK,P8,az rfl];rfl
  have gb1:Hb.get (V.next+1)=some (.cells [.sl V.next 0 3 1,.int .i64 0] 0 true):=by rw[<-hHb];simp[a9,P8,QA]
  have hrng:=R0 (n:=n) (m:=19) aa aa;have gb2:Hb.get (V.next+2)=some (.cells [.int .i64 (4+Qd n 19),.int .i64 0,.nilS] 0 true):=by
   rw[<-hHb];simp[a9,P8,QA];exact Rr aa aa
  have ob:∀k,k<V.next->Hb.get k=V.get k:=fun k U=>Bb
  have hrd0:iS (V.next+2) Hb (V.next+1) [Qp n 0,Qp n 1,Qp n 2] 0:=⟨aa,aa,_,gb1,.inr ⟨V.next,0,_,0,rfl,gb0,rfl,aa,aa⟩⟩;clear hHb gb0 gb1;refine j5 (fun E' H'=>StT l i v V (ff true n) 0 .nilS [Qp n 0,Qp n 1,Qp n 2] E' H') ?_ ?_
  .have hop:ff true n=4+Qd n 19:=by rw[ff,af aA]
   repeat' (first
    |(apply PO ?_;clear hK K)|apply Ry.o ?_|apply bC ?_|(apply aU (fun A Z=>?_) (fun A Z=>?_)<;>try(cases A;done))|(apply aH (fun z Y=>?_) (fun z Y=>?_)<;>try(cases z;done))|apply aj ?_|(apply PP fun K hK=>?_)|(apply PQ 5 [(3,19),(8,19),(13,19),(15,19),(17,19)] fun K hK=>?_)|(apply PQ 10 [(3,9),(8,9)] fun K hK=>?_)|(apply PQ 15 [(1,6),(1,8),(1,9),(1,11),(4,6),(10,11)] fun K hK=>?_)|(apply P5 ?_;try intro _)|(apply P6 ?_ ?_<;>clear hK K)|apply aS ?_|apply P9 rfl ?_|apply ay ?_|apply PR ?_|apply aq ?_|apply PX ?_)
   exact⟨rfl,eE,eE,eE,eE,eE,eE,eE,hrd0,by rw[hop];exact gb2,fun k U=>by rw[ob k U];exact .refl _,aa⟩
  clear hrd0 gb2 ob nb hrng;rintro E3 H3 ⟨k0,k1,k4,k5,k6,k7,k8,F,g,L,nx⟩;dsimp only[Sg];repeat' (first
   |(apply PO ?_;clear hK K)|apply Ry.o ?_|apply bC ?_|(apply bD ?_;first|refine Rx.k (RS (fun _=>rfl) _ _ bA _) ?_)|(apply aU (fun A Z=>?_) (fun A Z=>?_)<;>try(cases A;done))|apply aj ?_|(apply PP fun K hK=>?_)|(apply PQ 5 [(3,19),(8,19),(13,19),(15,19),(17,19)] fun K hK=>?_)|(apply PQ 10 [(3,9),(8,9)] fun K hK=>?_)|(apply PQ 15 [(1,6),(1,8),(1,9),(1,11),(4,6),(10,11)] fun K hK=>?_)|(apply P5 ?_;try intro _)|(apply P6 ?_ ?_<;>clear hK K)|apply aS ?_|apply P9 rfl ?_|apply ay ?_|apply PR ?_|apply aq ?_|apply PX ?_)
  refine j5 (fun E' H'=>StT l i v V (ge n) (d7 n) .nilS [Qp n 0,Qp n 1,Qp n 2] E' H') ?_ ?_
  .repeat' (first
    |(apply PO ?_;clear hK K)|apply Ry.o ?_|apply bC ?_|(apply bD ?_;first|refine Rx.k (vI (fun _=>rfl) _ _ _) ?_)|(apply aU (fun A Z=>?_) (fun A Z=>?_)<;>try(cases A;done))|(apply aH (fun z Y=>?_) (fun z Y=>?_)<;>try(cases z;done))|apply aj ?_|(apply PP fun K hK=>?_)|(apply PQ 5 [(3,19),(8,19),(13,19),(15,19),(17,19)] fun K hK=>?_)|(apply PQ 10 [(3,9),(8,9)] fun K hK=>?_)|(apply PQ 15 [(1,6),(1,8),(1,9),(1,11),(4,6),(10,11)] fun K hK=>?_)|(apply P5 ?_;try intro _)|(apply P6 ?_ ?_<;>clear hK K)|apply aS ?_|apply P9 rfl ?_|apply ay ?_|apply PR ?_|apply aq ?_|apply PX ?_)
   .exact eK
   .have h1:ge n=1:=by rw[ge,az dj]
    have h2:d7 n=jM (bM (n.tdiv 11)) n:=by rw[d7,az dj]
    refine⟨rfl,eE,eE,eE,eE,eE,eE,eE,?_,?_,?_,?_⟩
    .exact F.keep (aC _) fun k U=>jP
    .rw[a9,az rfl,h1,h2]
    .intro k U;rw[a9,af aa];exact L k U
    .exact nx
   .have h1:ge n=ff true n:=by rw[ge,af dj]
    have h2:d7 n=0:=by rw[d7,af dj]
    exact⟨rfl,eE,eE,eE,eE,eE,eE,eE,F,by rw[h1,h2];exact g,L,nx⟩
  clear F g L nx k0 k1 k4 k5 k6 k7 k8 E3 H3;rintro E3 H3 ⟨k0,k1,k4,k5,k6,k7,k8,F,g,L,nx⟩;dsimp only[Sg];have har:=OS n;have I:fP (Qf l true i) true n=⟨ge n,if ge n=27 then 1+Qd (bM (n.tdiv 5)) 2 else if ge n=23\/ge n=28 then Qd (bM (n.tdiv 5)) 2 else d7 n,Rz (Qf l true i) (ge n) n (aM (ge n)).1.toNat⟩:=by
   unfold fP ge d7 vL;split<;>rfl
  generalize ge n=C at *;obtain⟨c,hca⟩:=cX har.1;have hc3':c<=3:=aa;rw[hca,cY]at I;have hav:cU C=.tup [.int .i64 c,.bool (aM C).2]:=by rw[cU,hca]
  clear har;repeat' (first
   |(apply PO ?_;clear hK K)|apply Rx.o ?_|apply dL ?_|(apply eR ?_;first|refine Rx.k (j6 (fun _=>rfl) _ _) ?_)|(apply cK (fun A Z=>?_) (fun A Z=>?_)<;>try(cases A;done))|(apply a6 (fun z Y=>?_) (fun z Y=>?_)<;>try(cases z;done))|apply aj ?_|(apply PP fun K hK=>?_)|(apply PQ 5 [(3,19),(8,19),(13,19),(15,19),(17,19)] fun K hK=>?_)|(apply PQ 10 [(3,9),(8,9)] fun K hK=>?_)|(apply PQ 15 [(1,6),(1,8),(1,9),(1,11),(4,6),(10,11)] fun K hK=>?_)|(apply P5 ?_;try intro _)|(apply P6 ?_ ?_<;>clear hK K)|apply aS ?_|apply P9 rfl ?_|apply ay ?_|apply PR ?_|apply aq ?_|apply PX ?_)
  refine Rk [9] [] 11 c (fun j E H=>∃J,StT l i v V C (d7 n) J ([Qp n 0,Qp n 1,Qp n 2].drop j) E H/\QL H J (Rz (Qf l true i) C n j) (V.next+3)) eE ⟨.nilS,⟨eE,eE,eE,eE,eE,eE,eE,F,g,L,nx⟩,.inl ⟨rfl,rfl⟩⟩ ?_;clear F g L nx k0 k1 k4 k5 k6 k7 k8;rintro j E4 H4 hj hcE hrH hnH hsI ⟨J,⟨k0,k1,k4,k5,k6,k7,k8,F,g,L,nx⟩,O⟩;(try simp only[QK,Qs,a7,P7,Qy,Nat.reduceBEq,Nat.reduceAdd,Nat.reduceLeDiff,tyF, *]at hcE);(try simp only[QK,Qs,a7,P7,Qy,Nat.reduceBEq,Nat.reduceAdd,Nat.reduceLeDiff,tyF, *]at hrH);(try simp only[QA,QZ,Re,bZ,Nat.reduceAdd]at hnH);have h1kv:AV.one J=true/\J.cells=[J]:=by
   rcases O with⟨rfl,_⟩|⟨r,imm,rfl,_⟩<;>exact⟨rfl,rfl⟩
  obtain⟨hkv1,hkv2⟩:=h1kv;by_cases hjc:j<c
  .have hjc':(j:Int)<c:=by omega
   have hnx:(ow ([Qp n 0,Qp n 1,Qp n 2].drop j)).1=Qp n j/\(ow ([Qp n 0,Qp n 1,Qp n 2].drop j)).2=[Qp n 0,Qp n 1,Qp n 2].drop (j+1):=by
    have hj3:j<3:=aa
    match j,hj3 with
    |0,_=>exact⟨rfl,rfl⟩
    |1,_=>exact⟨rfl,rfl⟩
    |2,_=>exact⟨rfl,rfl⟩
   repeat' (first
    |(apply PO ?_;clear hK K)|apply Ry.o ?_|apply bC ?_|(apply bD ?_;first|refine Rx.k (AP (fun _=>rfl) _ _ _) ?_)|(apply aU (fun A Z=>?_) (fun A Z=>?_)<;>try(cases A;done))|(apply aH (fun z Y=>?_) (fun z Y=>?_)<;>try(cases z;done))|apply aj ?_|(apply PP fun K hK=>?_)|(apply PQ 5 [(3,19),(8,19),(13,19),(15,19),(17,19)] fun K hK=>?_)|(apply PQ 10 [(3,9),(8,9)] fun K hK=>?_)|(apply PQ 15 [(1,6),(1,8),(1,9),(1,11),(4,6),(10,11)] fun K hK=>?_)|(apply P5 ?_;try intro _)|(apply P6 ?_ ?_<;>clear hK K)|apply aS ?_|apply P9 rfl ?_|apply ay ?_|apply PR ?_|apply aq ?_|apply PX ?_)
   refine ci rfl cu cy ?_;simp only[fM,e6,b8];refine b3 ?_ (A0 (Ra (fun _=>rfl) rfl) F cQ);rintro w H5 ⟨rfl,rd5,n5,o5⟩;have gn5:H5.get (V.next+2)=_:=(o5 _ aa).trans g;have old5:∀k,k<V.next->RN (V.get k) (H5.get k):=fun k U=>by rw[o5 k aa];exact L k U
   have nx5:V.next+3<=H5.next:=aa
   have hkv5:QL H5 J (Rz (Qf l true i) C n j) (V.next+3):=O.keep aa fun k U=>o5 k vW;rw[hnx.2]at rd5;dsimp only[Qo];repeat' (first
    |(apply PO ?_;clear hK K)|apply Rx.o ?_|apply dL ?_|(apply cK (fun A Z=>?_) (fun A Z=>?_)<;>try(cases A;done))|(apply a6 (fun z Y=>?_) (fun z Y=>?_)<;>try(cases z;done))|apply aj ?_|(apply PP fun K hK=>?_)|(apply PQ 5 [(3,19),(8,19),(13,19),(15,19),(17,19)] fun K hK=>?_)|(apply PQ 10 [(3,9),(8,9)] fun K hK=>?_)|(apply PQ 15 [(1,6),(1,8),(1,9),(1,11),(4,6),(10,11)] fun K hK=>?_)|(apply P5 ?_;try intro _)|(apply P6 ?_ ?_<;>clear hK K)|apply aS ?_|apply P9 rfl ?_|apply ay ?_|apply PR ?_|apply aq ?_|apply PX ?_)
   refine ci rfl cu cy ?_;simp only[fM,e6,b8];refine b3 ?_ (Bf (fun _=>rfl) rfl aa (hvL H5 old5 aa) _ _ ⟨hno,AL hnb (AK _ _)⟩);rintro w H6 ⟨rfl,hy⟩;have n6:=hy.next
   have gn6:H6.get (V.next+2)=_:=(hy.out _ aa).trans gn5;have rd6:=rd5.icy hy aa;have old6:∀k,k<V.next->RN (V.get k) (H6.get k):=fun k U=>(old5 k U).trans (hy.same k)
   have hkv6:QL H6 J (Rz (Qf l true i) C n j) (V.next+3):=hkv5.keep aa fun k U=>hy.out k (by have:=(hkv5.lt U).1;omega);have nx6:V.next+3<=H6.next:=aa
   have n6':H5.next<=H6.next:=aa
   have n5':H4.next<=H5.next:=aa
   clear hy n6 n5;have hks:Rz (Qf l true i) C n (j+1)=Rz (Qf l true i) C n j++[jW (Qf l true i) (Sw C j) (Qp n j)]:=by rw[Rz]
   generalize jW (Qf l true i) (Sw C j) (Qp n j)=x at *;have hvb:QL (H6.alloc (.cells [.int .i64 x] 0 true)) J (Rz (Qf l true i) C n j) (V.next+3):=hkv6.keep (dD _) fun k U=>A8;obtain⟨v5,H7,a5,s5,n7,f7,o7⟩:=SM (r:=H6.next) (imm:=0) x hvb lz eX (by rw[sI];omega);have n7':H6.next+1<=H7.next:=by simp only[QA]at n7;omega
   have o7':∀k,k<V.next+3->H7.get k=H6.get k:=fun k U=>by rw[f7 k U,P8,af aa]
   clear n7 f7 o7 hvb;have gn7:H7.get (V.next+2)=_:=(o7' _ aa).trans gn6;have e7:(V.next+2 == H6.next)=false:=Rw aa;have e8:(V.next+2 == H7.next)=false:=Rw aa;have h1v5:AV.one v5=true/\v5.cells=[v5]:=vX;obtain⟨hv51,hv52⟩:=h1v5;dsimp only[Qo];repeat' (first
    |(apply PO ?_;clear hK K)|apply Rx.o ?_|apply dL ?_|(apply cK (fun A Z=>?_) (fun A Z=>?_)<;>try(cases A;done))|(apply a6 (fun z Y=>?_) (fun z Y=>?_)<;>try(cases z;done))|apply aj ?_|(apply PP fun K hK=>?_)|(apply PQ 5 [(3,19),(8,19),(13,19),(15,19),(17,19)] fun K hK=>?_)|(apply PQ 10 [(3,9),(8,9)] fun K hK=>?_)|(apply PQ 15 [(1,6),(1,8),(1,9),(1,11),(4,6),(10,11)] fun K hK=>?_)|(apply P5 ?_;try intro _)|(apply P6 ?_ ?_<;>clear hK K)|apply aS ?_|apply P9 rfl ?_|apply ay ?_|apply PR ?_|apply aq ?_|apply PX ?_)
   .exact eK
   .refine⟨aa,P1,P1,QN,Bc,?_⟩;refine⟨v5,⟨eE,eE,eE,eE,eE,eE,eE,?_,?_,?_,?_⟩,?_⟩
    .exact(rd6.keep aa fun k U=>o7' k aa).keep (aC _) fun k U=>jP
    .rw[a9,az rfl]
    .intro k U;rw[a9,af aa,o7' k aa];exact old6 k U
    .simp only[QZ];omega
    .rw[hks];exact .inr (s5.keep (aC _) fun k U=>A9)
  .have hje:j=c:=by omega
   subst hje;have hjc':¬(j:Int)<j:=aa;repeat' (first
    |(apply PO ?_;clear hK K)|apply Ry.o ?_|apply bC ?_|(apply aU (fun A Z=>?_) (fun A Z=>?_)<;>try(cases A;done))|apply aj ?_|(apply PP fun K hK=>?_)|(apply PQ 5 [(3,19),(8,19),(13,19),(15,19),(17,19)] fun K hK=>?_)|(apply PQ 10 [(3,9),(8,9)] fun K hK=>?_)|(apply PQ 15 [(1,6),(1,8),(1,9),(1,11),(4,6),(10,11)] fun K hK=>?_)|(apply P5 ?_;try intro _)|(apply P6 ?_ ?_<;>clear hK K)|apply aS ?_|apply P9 rfl ?_|apply ay ?_|apply PR ?_|apply aq ?_|apply PX ?_)
   (apply a6 (fun z Y=>?_) (fun z Y=>?_)<;>try(cases z;done));repeat' (first
    |(apply PO ?_;clear hK K)|apply Rx.o ?_|apply dL ?_|(apply cK (fun A Z=>?_) (fun A Z=>?_)<;>try(cases A;done))|apply aj ?_|(apply PP fun K hK=>?_)|(apply PQ 5 [(3,19),(8,19),(13,19),(15,19),(17,19)] fun K hK=>?_)|(apply PQ 10 [(3,9),(8,9)] fun K hK=>?_)|(apply PQ 15 [(1,6),(1,8),(1,9),(1,11),(4,6),(10,11)] fun K hK=>?_)|(apply P5 ?_;try intro _)|(apply P6 ?_ ?_<;>clear hK K)|apply aS ?_|apply P9 rfl ?_|apply ay ?_|apply PR ?_|apply aq ?_|apply PX ?_)
   have hr5:=R0 (n:=bM (n.tdiv 5)) (m:=2) aa aa;obtain⟨p,hpe⟩:∃p,Qd (bM (n.tdiv 5)) 2=p:=⟨_,rfl⟩;have hp':Qd (IntKind.wrap .i64 (n.tdiv 5)) 2=p:=hpe;rw[hpe]at hr5 I;clear hpe;have ew:IntKind.wrap .i64 (1+p)=1+p:=Rr aa aa;refine j5 (fun E' H'=>StT l i v V C (if C=27 then 1+p else d7 n) J ([Qp n 0,Qp n 1,Qp n 2].drop j) E' H'/\QL H' J (Rz (Qf l true i) C n j) (V.next+3)) ?_ ?_
   .repeat' (first
     |(apply PO ?_;clear hK K)|apply Ry.o ?_|apply bC ?_|(apply bD ?_;first|refine Rx.k (RS (fun _=>rfl) _ _ bA _) ?_)|(apply aU (fun A Z=>?_) (fun A Z=>?_)<;>try(cases A;done))|(apply aH (fun z Y=>?_) (fun z Y=>?_)<;>try(cases z;done))|apply aj ?_|(apply PP fun K hK=>?_)|(apply PQ 5 [(3,19),(8,19),(13,19),(15,19),(17,19)] fun K hK=>?_)|(apply PQ 10 [(3,9),(8,9)] fun K hK=>?_)|(apply PQ 15 [(1,6),(1,8),(1,9),(1,11),(4,6),(10,11)] fun K hK=>?_)|(apply P5 ?_;try intro _)|(apply P6 ?_ ?_<;>clear hK K)|apply aS ?_|apply P9 rfl ?_|apply ay ?_|apply PR ?_|apply aq ?_|apply PX ?_)
    .refine⟨rfl,⟨eE,eE,eE,eE,eE,eE,eE,?_,?_,?_,?_⟩,?_⟩
     .exact F.keep (aC _) fun k U=>jP
     .have hop:C=27:=by assumption
      rw[a9,az rfl,az hop,hop]
     .intro k U;rw[a9,af aa];exact L k U
     .exact nx
     .exact O.keep (aC _) fun k U=>sU
    .refine⟨rfl,⟨eE,eE,eE,eE,eE,eE,eE,F,?_,L,nx⟩,O⟩;rw[af dj];exact g
   clear g F L nx O k0 k1 k4 k5 k6 k7 k8 z Y;rintro E5 H5 ⟨⟨k0,k1,k4,k5,k6,k7,k8,F,g,L,nx⟩,O⟩;dsimp only[Sg];generalize him1:(if C=27 then 1+p else d7 n)=im1 at *;repeat' (first
    |(apply PO ?_;clear hK K)|apply Rx.o ?_|apply dL ?_|(apply cK (fun A Z=>?_) (fun A Z=>?_)<;>try(cases A;done))|apply aj ?_|(apply PP fun K hK=>?_)|(apply PQ 5 [(3,19),(8,19),(13,19),(15,19),(17,19)] fun K hK=>?_)|(apply PQ 10 [(3,9),(8,9)] fun K hK=>?_)|(apply PQ 15 [(1,6),(1,8),(1,9),(1,11),(4,6),(10,11)] fun K hK=>?_)|(apply P5 ?_;try intro _)|(apply P6 ?_ ?_<;>clear hK K)|apply aS ?_|apply P9 rfl ?_|apply ay ?_|apply PR ?_|apply aq ?_|apply PX ?_)
   all_goals
    refine j5 (fun E' H'=>StT l i v V C (if C=27 then 1+p else if C=23\/C=28 then p else d7 n) J ([Qp n 0,Qp n 1,Qp n 2].drop j) E' H'/\QL H' J (Rz (Qf l true i) C n j) (V.next+3)) ?_ ?_
    .repeat' (first
      |(apply PO ?_;clear hK K)|apply Ry.o ?_|apply bC ?_|(apply bD ?_;first|refine Rx.k (RS (fun _=>rfl) _ _ bA _) ?_)|(apply aU (fun A Z=>?_) (fun A Z=>?_)<;>try(cases A;done))|(apply aH (fun z Y=>?_) (fun z Y=>?_)<;>try(cases z;done))|apply aj ?_|(apply PP fun K hK=>?_)|(apply PQ 5 [(3,19),(8,19),(13,19),(15,19),(17,19)] fun K hK=>?_)|(apply PQ 10 [(3,9),(8,9)] fun K hK=>?_)|(apply PQ 15 [(1,6),(1,8),(1,9),(1,11),(4,6),(10,11)] fun K hK=>?_)|(apply P5 ?_;try intro _)|(apply P6 ?_ ?_<;>clear hK K)|apply aS ?_|apply P9 rfl ?_|apply ay ?_|apply PR ?_|apply aq ?_|apply PX ?_)
     all_goals first
      |(refine⟨rfl,⟨eE,eE,eE,eE,eE,eE,eE,?_,?_,?_,?_⟩,?_⟩
        ·exact F.keep (aC _) fun k U=>jP
        .have hop:C=23\/C=28:=by omega
         rw[a9,az rfl,af aa,az hop];first
         |done
         |(have hop:C=23:=by assumption
           rw[hop];done)
         |(have hop:C=28:=by assumption
           rw[hop];done)
        .intro k U;rw[a9,af aa];exact L k U
        .exact nx
        .exact O.keep (aC _) fun k U=>sU)
      |(refine⟨rfl,⟨eE,eE,eE,eE,eE,eE,eE,F,?_,L,nx⟩,O⟩
        rw[g,<-him1,af (by omega:¬(C=23\/C=28))])
    clear g F L nx O k0 k1 k4 k5 k6 k7 k8 him1;rintro E6 H6 ⟨⟨k0,k1,k4,k5,k6,k7,k8,F,g,L,nx⟩,O⟩;dsimp only[Sg];generalize (if C=27 then 1+p else if C=23\/C=28 then p else d7 n)=im2 at *;obtain⟨oo,hoo⟩:∃oo,oo=C:=⟨_,rfl⟩;rw[<-hoo]at g I O;clear hoo;have hvT:Q6 (fun _=>True) 2 H6 3 v ((Qf l true i).map Nd.cells):=(hvL H6 L aa).keep (fun _ _ _=>trivial) (aC _) fun _ _ _=>rfl;have hcw:Q4 (fun k=>V.next+3<=k) 2 H6 [.int .i64 oo,.int .i64 im2,J] (fP (Qf l true i) true n).cells:=by rw[I];exact vV oo im2 O fun _ h=>h
    have h1kv:AV.one J=true:=by rcases O with⟨rfl,_⟩|⟨r,imm,rfl,_⟩<;>rfl
    repeat' (first
     |(apply PO ?_;clear hK K)|apply Rx.o ?_|apply dL ?_|(apply cK (fun A Z=>?_) (fun A Z=>?_)<;>try(cases A;done))|(apply a6 (fun z Y=>?_) (fun z Y=>?_)<;>try(cases z;done))|apply aj ?_|(apply PP fun K hK=>?_)|(apply PQ 5 [(3,19),(8,19),(13,19),(15,19),(17,19)] fun K hK=>?_)|(apply PQ 10 [(3,9),(8,9)] fun K hK=>?_)|(apply PQ 15 [(1,6),(1,8),(1,9),(1,11),(4,6),(10,11)] fun K hK=>?_)|(apply P5 ?_;try intro _)|(apply P6 ?_ ?_<;>clear hK K)|apply aS ?_|apply P9 rfl ?_|apply ay ?_|apply PR ?_|apply aq ?_|apply PX ?_)
    refine ci rfl cu cy ?_;simp only[fM,e6,b8];refine b3 ?_ (Bg (fun _=>rfl) rfl aa hvT (hcw.keep (S':=fun _=>True) (fun _ _=>trivial) (aC _) fun _ _ _=>rfl) hno);rintro w H7 ⟨rfl,hy⟩;have n7:=hy.next
    have hv7:Q6 (fun k=>0<=k) 2 H7 3 v ((Qf l true i).map Nd.cells):=(hvT.icyB aa fun k _ _=>hy.same k).keep (fun _ _ _=>ca _) (aC _) fun _ _ _=>rfl;have hcw7:Q4 (fun k=>V.next+3<=k) 2 H7 [.int .i64 oo,.int .i64 im2,J] (fP (Qf l true i) true n).cells:=hcw.frame (fun _ h=>h) aa fun k _ _=>hy.same k;obtain⟨im,gn7⟩:∃im,H7.get (V.next+2)=some (.cells [.int .i64 oo,.int .i64 im2,J] im true):=by
     rcases hy.same (V.next+2)with e|⟨cs,i1,i2,tip,e1,e2,_⟩
     .exact⟨0,by rw[<-e];exact g⟩
     .rw[g]at e1;simp only[au,HB.cells.injEq]at e1;obtain⟨rfl,rfl,rfl⟩:=e1;exact⟨i2,e2⟩
    have n7':V.next+3<=H7.next:=aa
    clear hy n7 hvT hcw g F L O;dsimp only[Qo];generalize fP (Qf l true i) true n=nd at *;cases hhas:ji (Qf l true i) nd with
    |true=>
     have hadd:gB (Qf l true i) nd=Qf l true i:=by rw[gB,az hhas]
     repeat' (first
      |(apply PO ?_;clear hK K)|apply Rx.o ?_|apply dL ?_|(apply cK (fun A Z=>?_) (fun A Z=>?_)<;>try(cases A;done))|(apply a6 (fun z Y=>?_) (fun z Y=>?_)<;>try(cases z;done))|apply aj ?_|(apply PP fun K hK=>?_)|(apply PQ 5 [(3,19),(8,19),(13,19),(15,19),(17,19)] fun K hK=>?_)|(apply PQ 10 [(3,9),(8,9)] fun K hK=>?_)|(apply PQ 15 [(1,6),(1,8),(1,9),(1,11),(4,6),(10,11)] fun K hK=>?_)|(apply P5 ?_;try intro _)|(apply P6 ?_ ?_<;>clear hK K)|apply aS ?_|apply P9 rfl ?_|apply ay ?_|apply PR ?_|apply aq ?_|apply PX ?_)
     refine⟨aa,P1,P1,QN,sV,?_⟩;refine⟨v,eE,?_⟩;rw[hns,hadd];exact hv7.keep (fun _ _ _=>trivial) (aC _) fun _ _ _=>rfl
    |false=>
     have hadd:gB (Qf l true i) nd=Qf l true i++[nd]:=by rw[gB,af (by rw[hhas];simp)]
     have hone:([.int .i64 oo,.int .i64 im2,J]:List AV).all AV.one=true:=by
      show(true&&(true&&(AV.one J&&true)))=true;rw[h1kv];rfl
     have kbs:=fun H=>sT H (cs:=[.int .i64 oo,.int .i64 im2,J]) rfl hone;have hvb:Q6 (fun k=>0<=k) 2 (H7.alloc (.cells [.int .i64 oo,.int .i64 im2,J] 0 true)) 3 v ((Qf l true i).map Nd.cells):=hv7.keep (fun _ _ h=>h) (dD _) fun k _ U=>fT;obtain⟨v8,H8,a8,s8,n8,f8,q8⟩:=Q6.push (P:=Tryz.prog) (t:=26) Tryz.underlying26 jL nK nL rfl ad hvb (ca _) (r:=H7.next) (imm:=0) (row:=[.int .i64 oo,.int .i64 im2,J]) (w:=nd.cells) eX rfl hone (hcw7.keep (fun k U=>⟨ca _,fun o m z' e=>by have:=hvq k o m z' e;omega⟩) (dD _) fun k _ U=>fT) lI lI;have n8':H7.next<=H8.next:=by simp only[QA]at n8;omega
     clear n8 f8 q8 hvb;repeat' (first
      |(apply PO ?_;clear hK K)|apply Rx.o ?_|apply dL ?_|(apply cK (fun A Z=>?_) (fun A Z=>?_)<;>try(cases A;done))|(apply a6 (fun z Y=>?_) (fun z Y=>?_)<;>try(cases z;done))|apply aj ?_|(apply PP fun K hK=>?_)|(apply PQ 5 [(3,19),(8,19),(13,19),(15,19),(17,19)] fun K hK=>?_)|(apply PQ 10 [(3,9),(8,9)] fun K hK=>?_)|(apply PQ 15 [(1,6),(1,8),(1,9),(1,11),(4,6),(10,11)] fun K hK=>?_)|(apply P5 ?_;try intro _)|(apply P6 ?_ ?_<;>clear hK K)|apply aS ?_|apply P9 rfl ?_|apply ay ?_|apply PR ?_|apply aq ?_|apply PX ?_)
     refine⟨aa,P1,P1,QN,sV,?_⟩;refine⟨v8,eE,?_⟩;rw[hns,hadd,pn];exact s8.keep (fun _ _ _=>trivial) (aC _) fun _ _ _=>rfl
 .have hie:i=cnt:=by omega
  subst hie;have hx:∀H:Hp,Q6 (fun _=>True) 2 H 3 v ((Qf l true i).map Nd.cells)->∃m u,iceV H m v=some u/\bg 60 u=Qz (RP l true):=fun H h=>by
   obtain⟨u,h1,h2⟩:=h.rd;obtain⟨m0,hm⟩:=QG.iceV h1;exact⟨m0,u,hm m0 (aC _),by rw[h2 60 aa,hnl]⟩
  have hxx:=hx V hv;clear hx hv;by_cases c1:(i:Int)<l.length
  .have c2:¬(i:Int)<14:=by omega
   repeat' (first
    |(apply PO ?_;clear hK K)|apply Ry.o ?_|apply bC ?_|(apply aU (fun A Z=>?_) (fun A Z=>?_)<;>try(cases A;done))|(apply aH (fun z Y=>?_) (fun z Y=>?_)<;>try(cases z;done))|apply aj ?_|(apply PP fun K hK=>?_)|(apply PQ 5 [(3,19),(8,19),(13,19),(15,19),(17,19)] fun K hK=>?_)|(apply PQ 10 [(3,9),(8,9)] fun K hK=>?_)|(apply PQ 15 [(1,6),(1,8),(1,9),(1,11),(4,6),(10,11)] fun K hK=>?_)|(apply P5 ?_;try intro _)|(apply P6 ?_ ?_<;>clear hK K)|apply aS ?_|apply P9 rfl ?_|apply ay ?_|apply PR ?_|apply aq ?_|apply PX ?_)
   all_goals (refine⟨eI,_,P0,?_⟩;try simp only[PT])
   exact hxx
  .repeat' (first
    |(apply PO ?_;clear hK K)|apply Ry.o ?_|apply bC ?_|(apply aU (fun A Z=>?_) (fun A Z=>?_)<;>try(cases A;done))|(apply aH (fun z Y=>?_) (fun z Y=>?_)<;>try(cases z;done))|apply aj ?_|(apply PP fun K hK=>?_)|(apply PQ 5 [(3,19),(8,19),(13,19),(15,19),(17,19)] fun K hK=>?_)|(apply PQ 10 [(3,9),(8,9)] fun K hK=>?_)|(apply PQ 15 [(1,6),(1,8),(1,9),(1,11),(4,6),(10,11)] fun K hK=>?_)|(apply P5 ?_;try intro _)|(apply P6 ?_ ?_<;>clear hK K)|apply aS ?_|apply P9 rfl ?_|apply ay ?_|apply PR ?_|apply aq ?_|apply PX ?_)
   all_goals (refine⟨eI,_,P0,?_⟩;try simp only[PT])
   exact hxx)
end
section
theorem OU{P:Program}{t e:TypeId}{z b:Nat}{J:List AV}(g:P.underlying t=some (.slice e))(hs:P3 P e=some z)(Y:QI P e=some b)(hz:Qx P e=some J)(F:J.length=z)(U:Sr P t=true)
 {S S':Nat->Prop}{n:Nat}{H:Hp}{v:AV}{O:List (List AV)} (h:Q6 S n H z v O) (M:∀k,k<H.next->S k->S' k) (hN:S' H.next) {r imm:Nat}{row:List AV} (hg:H.get r=some (.cells row imm true)) (hrow:row.length=z) (j:row.all AV.one=true)
 (A:(O.length+1)*b<=Rd) (C:O.length+1<=Rd) :
 ∃H' rows Z,Rj P false H t t v (.sl r 0 1 z)=some (.sl H.next 0 (O.length+1) z,H')/\rows.length=O.length/\(∀x∈rows,x.length=z)/\H'.get H.next=some (.cells (rows.flatten++row) Z true)/\Z<=rows.flatten.length/\H'.next=H.next+1/\(∀k,k<H.next->(∀o m z',v≠.sl k o m z')->H'.get k=H.get k) /\
  dV (fun k=>S' k/\k≠H.next) n H' z rows O:=by
 have hx:RE H z (.sl r 0 1 z)=some (1,row):=by
  have:=nD (H:=H) (r:=r) (o:=0) (n:=1) (z:=z) (s:=z) hg vB;rw[this,eN,fF aa]
 rcases h with⟨rfl,rfl⟩|⟨q,Z,rows,rfl,h1,h2,h3,h4,V⟩
 .exact⟨H.alloc (.cells row 0 true),[],0,append_nil g hs Y hz U hx j F kY oV,rfl,aA,by rw[P8,az rfl];simp,ca _,rfl,fun k hk _=>fT,trivial⟩
 .have hrl:=nE (dV.len V);have I:rows.length=O.length:=QB.len V;have K:RJ false H z (.sl q 0 rows.length z)=H:=by
   unfold RJ;simp only[h3,bZ];have:Nat.blt (rows.length*z) rows.flatten.length=false:=by
    cases Y:Nat.blt (rows.length*z) rows.flatten.length with
    |false=>rfl
    |true=>rw[eZ]at Y;omega
   simp only[f6,ev,this,gN]
  refine⟨(H.kill q).alloc (.cells (rows.flatten++row) (Z-0) true),rows,Z-0,?_,I,dV.len V,?_,aa,rfl,fun k hk i=>?_,?_⟩
  .simp only[Rj,g,hs,Y,hz,U,hx,j,K,F,lg,cr,SH,h3,bZ,eN,b9,cC];rw[az ⟨by rw[I];exact A,by rw[I];exact C,aa,trivial,h4⟩,I]
  .show((H.kill q).alloc _).get (H.kill q).next=_
   rw[P8,az rfl]
  .rw[P8,af ja,RH,af (fun e=>i 0 rows.length z i6)]
  .exact V.keep2 (fun k L h7=>⟨M k L h7.1,aa⟩) (dD _) fun k L h7=>by rw[P8,af ja,RH,af L.2]
theorem Q6.of{S:Nat->Prop}{n q z imm:Nat}{H:Hp}{rows O:List (List AV)}{row w:List AV}(hS:S q)(I:q<H.next)(Y:∀x∈rows,x.length=z)(C:row.length=z)(A:H.get q=some (.cells (rows.flatten++row) imm true))(F:imm<=rows.flatten.length)(hr:dV (fun k=>S k/\k≠q) n H z rows O)(L:Q4 (fun k=>S k/\k≠q) n H row w):Q6 S n H z (.sl q 0 (O.length+1) z) (O++[w]):=by
 have Z:rows.length=O.length:=QB.len hr;exact .inr ⟨q,imm,rows++[row],by rw[eh,Z];rfl,hS,I,by rw[A];simp,Au,hr.append ⟨⟨C,L⟩,trivial⟩⟩
def tyK7.tyF:=ac @dr (ac @cZ (ac @dK (ac @ey (ac @ez (ac @jE (ac @jU (@vU)))))))
open tyK7
noncomputable def Bi:{c:SC // aB 111 (Tryz.f23.body.getD .skip)=c}:=by
 refine⟨?_,?_⟩;rotate_left
 .simp only[Tryz.f23,bh,aB,Qh,Qe,Qm,Qn,Nat.blt,Nat.ble];rfl
theorem OV(H:Hp):Rs Tryz.prog H 26 0 []=some (.sl H.next 0 0 3,H.alloc (.cells [] 0 true)):=ad
theorem OW(H:Hp):Rs Tryz.prog H 23 0 []=some (.sl H.next 0 0 1,H.alloc (.cells [] 0 true)):=ad
theorem qg(l:List Nd):∀x∈l.map Nd.cells,x.length=3:=fun r hr=>by
 obtain⟨a,_,rfl⟩:=jA.1 hr;exact a.clen
theorem Bj:∀l:List Nd,(l.map Nd.cells).flatten.all AV.one=true
 |[]=>rfl
 |a::l=>by rw[dS,ju,List.all_append,a.one,Bj l];rfl
theorem OX{S:Nat->Prop}{n:Nat}{H:Hp}(x:Nd):Q4 S (n+1) H x.cells x.cells:=by
 refine .cons (.int _ _) (.cons (.int _ _) (.cons ?_ .nil));exact .flat ⟨Sv _,trivial⟩ (A1 _)
theorem v7{S:Nat->Prop}{n:Nat}{H:Hp}:∀l:List Nd,dV S (n+1) H 3 (l.map Nd.cells) (l.map Nd.cells)
 |[]=>trivial
 |a::l=>⟨⟨a.clen,OX a⟩,v7 l⟩
theorem OY{H:Hp}{v:AV}{l:List Int}{lo:Nat}(m:List Int)(J:iL H v l lo)(Z:lo<=H.next)(z:l.length+m.length<2^40):
 ∃A H',Rj Tryz.prog false H 23 23 v (Qg m)=some (A,H')/\iL H' A (l++m) lo/\H.next<=H'.next/\(∀k,k<lo->H'.get k=H.get k):=by
 by_cases V:m=[]
 .subst V;refine⟨v,H,?_,by rw[b8];exact J,aC _,fun _ _=>rfl⟩;obtain⟨r,rfl,g,_⟩:=J;simp only[Rj,Tryz.underlying23,fy,mq,mr,show Sr Tryz.prog 23=true by kernel_rfl,n0,RE,List.all_nil,cr,iX]
 .obtain⟨A,H',i,g,o,U,_⟩:=zt (.inr J) Z (Mv H m) V z;exact⟨A,H',i,g,aa,U⟩
theorem OZ{P:Program}{t e:TypeId}{z b:Nat}{J:List AV}(M:P.underlying t=some (.slice e))(K:P3 P e=some z)(Z:QI P e=some b)(L:Qx P e=some J)(F:J.length=z)(U:Sr P t=true)
 {H:Hp}{q r imm:Nat}{rows:List (List AV)}{row:List AV} (V:H.get q=some (.cells rows.flatten 0 true)) (I:∀x∈rows,x.length=z) (m:H.get r=some (.cells row imm true)) (O:row.length=z) (j:row.all AV.one=true) (A:(rows.length+1)*b<=Rd) (C:rows.length+1<=Rd) :
 Rj P false H t t (.sl q 0 rows.length z) (.sl r 0 1 z)=some (.sl H.next 0 (rows.length+1) z,(H.kill q).alloc (.cells (rows.flatten++row) 0 true)):=by
 have i:RE H z (.sl r 0 1 z)=some (1,row):=by
  have:=nD (H:=H) (r:=r) (o:=0) (n:=1) (z:=z) (s:=z) m vB;rw[this,eN,fF aa]
 have g:=nE I;have Y:RJ false H z (.sl q 0 rows.length z)=H:=by
  unfold RJ;simp only[V,bZ];have:Nat.blt (rows.length*z) rows.flatten.length=false:=by
   cases Z:Nat.blt (rows.length*z) rows.flatten.length with
   |false=>rfl
   |true=>rw[eZ]at Z;omega
  simp only[f6,ev,this,gN]
 simp only[Rj,M,K,Z,L,U,i,j,Y,F,lg,cr,SH,V,bZ,eN,b9,cC];rw[az ⟨A,C,aa,trivial,ca _⟩]
theorem O0{S:Nat->Prop}{r:Nat}{H:Hp}{kids:List Int}(z:kids.length≠0)(A:H.get r=some (.cells (kids.map (.int .i64)) 0 true))(hr:r<H.next)(hS:S r):
 ∃M,RD Tryz.prog 23 (.sl r 0 kids.length 1) (some (.int .i64 1)) none=some M/\AV.one M=true/\M.cells=[M]/\∀H',H.next<=H'.next->H'.get r=H.get r->eC S 2 H' M (Qg (kids.drop 1)):=by
 have V:(1:Int)=Int.ofNat 1:=rfl;have K:RD Tryz.prog 23 (.sl r 0 kids.length 1) (some (.int .i64 1)) none=some (if 1=kids.length then .lst []else .sl r (0+1*1) (kids.length-1) 1):=by
  simp only[RD,Tryz.underlying23,fy,V,Rl];rw[az ⟨aa,aC _,trivial⟩];split<;>rfl
 rw[K];by_cases c:1=kids.length
 .rw[az c];refine⟨_,rfl,rfl,rfl,fun H' _ _=>?_⟩;have:kids.drop 1=[]:=uZ tX;rw[this];exact eC.lst0
 .rw[af c];refine⟨_,rfl,rfl,rfl,fun H' U Z=>?_⟩;have Y:(kids.drop 1).length=kids.length-1:=hI;refine⟨.lst (Rv 1 (kids.length-1) ((kids.drop 1).map (.int .i64))),⟨hS,aa,_,0,true,(kids.drop 1).map (.int .i64),by rw[Z];exact A,ca _,by rw[cS];omega,?_,rfl⟩,fun m O=>?_⟩
  .rw[<-vr,fF (by rw[cS,hI];omega)];exact vt _ _ _ _
  .rw[<-Y,sf];obtain⟨k,rfl⟩:∃k,m=k+2:=⟨m-2,aa⟩;exact ss k _
structure MutF (ws:List (List AV)) (w:List AV) (k:Nat) (E:ai) (H:Hp) (q:Nat) (rows:List (List AV)) (row:List AV):Prop where
 k7:E.at 7=.sl q 0 rows.length 3
 k8:E.at 8=.int .i64 k
 k9:∃r,E.at 9=.ptr r 0/\H.get r=some (.cells row 0 true)/\r≠q
 gq:H.get q=some (.cells rows.flatten 0 true)
 r3:∀x∈rows,x.length=3
 w3:row.length=3
 one:row.all AV.one=true
 rw_:dV (fun j=>j≠q) 2 H 3 rows ws
 cw:Q4 (fun j=>j≠q) 2 H row w
 lt:q<H.next
structure MuX where
 l:List Nd
 how:Int
 a:Int
def mT(x:MuX):List AV:=[Qz x.l,.int .i64 x.how,.int .i64 x.a]
theorem O1(x y:MuX)(h:mT x=mT y):x=y:=by
 obtain⟨a,b,c⟩:=x;obtain⟨m,K,j⟩:=y;simp only[mT,dz,AV.int.injEq,a7,fJ]at h;rw[mI h.1,h.2.1,h.2.2]
def v9(x:MuX):Prop:=QY x.l/\x.l≠[]
set_option maxRecDepth 100000 in
theorem O2(ρ:Nat->Int)(x:MuX)(hx:v9 x):aX Tryz.prog ρ 23 (mT x) (Qz (iR x.l x.how x.a)):=vT (n:=60) (cfg:=PU pls [iQ]) fit (gL ρ) (dG.look ⟨sH ρ,trivial⟩) (.cons (Sq _) (.cons (.int _ _) (.cons (.int _ _) .nil))) (by
 obtain⟨l,Z,a⟩:=x;obtain⟨hl,hne⟩:=hx;simp only[]at hl hne;have hl1:=hl.1;have hw:Plain (PU pls [iQ]) 23:=Ra (fun _=>rfl) rfl;have hkeep:(PU pls [iQ]).keep 23=false:=rfl;have hlp:0<l.length:=mB.2 hne;have hr:=R0 (n:=a) (m:=l.length) aa aa;obtain⟨k,hk⟩:=cX hr.1;rw[hk]at hr;have hkl:k<l.length:=aa;have hgk:l[k]?=some (l.getD k ⟨0,0,[]⟩):=by rw[cN,a1 hkl];rfl
 have hnk:(l.getD k ⟨0,0,[]⟩).kids.length<2^30:=by
  have:=jv hgk;exact hl.2 _ this
 have hmut:iR l Z a=(if Qd Z 10=5 then l++[l.getD k ⟨0,0,[]⟩]else l).set k (mP l (l.getD k ⟨0,0,[]⟩) Z a):=by
  rw[iR,af hne,hk,cY]
 generalize hn:l.getD k ⟨0,0,[]⟩=n at *;rw[mT];simp only[];have hlne:(l.length:Int)≠0:=aa;refine P4 (M:=111) (rs:=[.tmp 6]) (hw.call _) hw.ice hw.froz Tryz.func23 rfl rfl Bi.2 rfl ?_;dsimp only[Bi,PZ,Nat.reduceAdd];have gh0:=@OV;repeat' (first
  |(apply PO ?_;clear hK K)|apply Rx.o ?_|apply dL ?_|apply aj ?_|(apply PP fun K hK=>?_)|(apply PQ 13 [(1,7),(1,10),(5,7),(9,10)] fun K hK=>?_)|(apply PQ 16 [(1,7),(1,13),(1,16),(5,7),(6,7),(11,7),(11,13)] fun K hK=>?_)|(apply P5 ?_;try intro _)|(apply P6 ?_ ?_<;>clear hK K)|apply aS ?_|apply P9 rfl ?_|apply ay ?_|apply PR ?_|apply aq ?_)
 obtain⟨q,H1,RQ,gq,hq1,hq2,S0,n1',o1⟩:=OK (P:=Tryz.prog) (t:=26) (H:=Qv.alloc (.cells [] 0 true)) (q:=0) Tryz.underlying26 jL nK nL rfl ad sn (by rw[QA];omega) (rows:=l.map Nd.cells) (qg l) (Bj l) lI lI;refine mg eV eV (by rw[hkeep];exact RQ) ?_;have hrow:(l.map Nd.cells)[k]?=some n.cells:=by rw[dY,hgk];rfl
 have hagg:=OJ (qg l) hrow;repeat' (first
  |(apply PO ?_;clear hK K)|apply Ry.o ?_|apply bC ?_|(apply bD ?_;first|refine Rx.k (RS (fun _=>rfl) _ _ hlne _) ?_)|(apply aH (fun z Y=>?_) (fun z Y=>?_)<;>try(cases z;done))|apply aj ?_|(apply PP fun K hK=>?_)|(apply PQ 13 [(1,7),(1,10),(5,7),(9,10)] fun K hK=>?_)|(apply PQ 16 [(1,7),(1,13),(1,16),(5,7),(6,7),(11,7),(11,13)] fun K hK=>?_)|(apply P5 ?_;try intro _)|(apply P6 ?_ ?_<;>clear hK K)|apply aS ?_|apply P9 rfl ?_|apply ay ?_|apply PR ?_|apply aq ?_)
 generalize F:Hp.set (Hp.alloc H1 _) _ _=H2;have n2:H1.next+1<=H2.next:=by rw[<-F];exact aC _
 have g9:H2.get H1.next=some (.cells [.int .i64 n.op,.int .i64 n.imm,Qg n.kids] 0 true):=by rw[<-F,a9,az rfl];rfl
 have gq2:H2.get q=some (.cells (l.map Nd.cells).flatten 0 true):=by rw[<-F,a9,af aa,P8,af aa];exact gq
 have hq9:q<H1.next:=hq2
 clear F RQ o1 S0 n1' hq1 hq2 gq hagg hrow;obtain⟨V,H3,a3,s3,n3,o3⟩:=OY (H:=H2.alloc (.cells [] 0 true)) (v:=.sl H2.next 0 0 1) (l:=[]) (lo:=H2.next) n.kids ⟨H2.next,rfl,ga,aC _,dh _⟩ (dD _) cQ;rw[e6]at s3;have n3':H2.next+1<=H3.next:=n3
 have g93:H3.get H1.next=some (.cells [.int .i64 n.op,.int .i64 n.imm,Qg n.kids] 0 true):=by rw[o3 _ aa,P8,af aa];exact g9
 have gq3:H3.get q=some (.cells (l.map Nd.cells).flatten 0 true):=by rw[o3 _ aa,P8,af aa];exact gq2
 have L:AV.one V=true/\V.cells=[V]:=by obtain⟨r,rfl,_⟩:=s3;exact⟨rfl,rfl⟩
 obtain⟨L,hkv2⟩:=L;have e1:(H1.next == H2.next)=false:=Rw aa;clear n3 o3 gq2;have gh0:=@OW;repeat' (first
  |(apply PO ?_;clear hK K)|apply Rx.o ?_|apply dL ?_|(apply eR ?_;first|refine Rx.k (RS (fun _=>rfl) _ _ bA _) ?_)|apply aj ?_|(apply PP fun K hK=>?_)|(apply PQ 13 [(1,7),(1,10),(5,7),(9,10)] fun K hK=>?_)|(apply PQ 16 [(1,7),(1,13),(1,16),(5,7),(6,7),(11,7),(11,13)] fun K hK=>?_)|(apply P5 ?_;try intro _)|(apply P6 ?_ ?_<;>clear hK K)|apply aS ?_|apply P9 rfl ?_|apply ay ?_|apply PR ?_|apply aq ?_)
 generalize F:Hp.set H3 _ _=U;have n4:U.next=H3.next:=by rw[<-F];rfl
 have g94:U.get H1.next=some (.cells [.int .i64 n.op,.int .i64 n.imm,V] 0 true):=by rw[<-F,a9,az rfl]
 have C:U.get q=some (.cells (l.map Nd.cells).flatten 0 true):=by rw[<-F,a9,af aa];exact gq3
 have s4:iL U V n.kids H2.next:=s3.keep aa fun k hk=>by rw[<-F,a9,af (by have:=(s3.b.lt hk).1;omega)]
 have n4':H1.next+1<=U.next:=aa
 have nq4:q<U.next:=aa
 have nq2:H1.next<H2.next:=aa
 clear F a3 s3 g93 gq3 g9 n2 n3' n4 e1;obtain⟨m,hm⟩:∃m,Qd Z 10=m:=⟨_,rfl⟩;have hmr:=R0 (n:=Z) (m:=10) aa aa;rw[hm]at hmr hmut;have g:mP l n Z a=if m=0 then ⟨Qd (bM (Z.tdiv 10)) 36-1,n.imm,n.kids⟩
  else if m=1 then ⟨n.op,Qd (bM (Z.tdiv 10)) 300-3,n.kids⟩
  else if m=2 then ⟨n.op,n.imm,n.kids++[Qd (bM (Z.tdiv 10)) (l.length+2)-1]⟩
  else if m=3 then (if n.kids=[]then n else ⟨n.op,n.imm,n.kids.set (Qd (bM (Z.tdiv 10)) n.kids.length).toNat (Qd (bM (a.tdiv 3)) (l.length+2)-1)⟩)
  else if m=4 then ⟨n.op,n.imm,n.kids.drop 1⟩
  else if m=6 then ⟨3,Qd (bM (Z.tdiv 10)) 40,[]⟩
  else n:=by rw[mP,hm]
 generalize mP l n Z a=w at *;have q10:(10:Int)≠0:=bA;have q3:(3:Int)≠0:=bA;have hml:∀S,dV (fun j=>j≠q) 2 S 3 (l.map Nd.cells) (l.map Nd.cells):=fun S=>v7 l;have hlm:(l.map Nd.cells).length=l.length:=cS _;refine j5 (fun E' H'=>∃q' rows row,MutF ((if m=5 then l++[n]else l).map Nd.cells) w.cells k E' H' q' rows row) ?_ ?_
 .have hS:∀(O:AV) (kids:List Int) (o i:Int) (H:Hp),QL H O kids H2.next->Q4 (fun j=>j≠q) 2 H [.int .i64 o,.int .i64 i,O] (Nd.mk o i kids).cells:=fun O kids o i H h=>vV o i h fun k hk=>by omega
  have ho3:∀(o i:Int) (O:AV),AV.one O=true->([.int .i64 o,.int .i64 i,O]:List AV).all AV.one=true:=fun o i O h=>by
   show(true&&(true&&(AV.one O&&true)))=true;rw[h];rfl
  have J:∀(E:ai) (o i:Int) (O:AV) (kids:List Int) (Hx:Hp),E.at 7=.sl q 0 l.length 3->E.at 8=.int .i64 k->E.at 9=.ptr H1.next 0->Hx.get H1.next=some (.cells [.int .i64 o,.int .i64 i,O] 0 true)->Hx.get q=some (.cells (l.map Nd.cells).flatten 0 true)->AV.one O=true->Q4 (fun j=>j≠q) 2 Hx [.int .i64 o,.int .i64 i,O] (Nd.mk o i kids).cells->q<Hx.next->m≠5->w=⟨o,i,kids⟩->∃q' rows row,MutF ((if m=5 then l++[n]else l).map Nd.cells) w.cells k E Hx q' rows row:=fun E o i O kids Hx h7 h8 h9 hg hq h1 hc hlt h5 hw=>by
   subst hw;exact⟨q,l.map Nd.cells,[.int .i64 o,.int .i64 i,O],⟨by rw[hlm];exact h7,h8,⟨H1.next,h9,hg,aa⟩,hq,qg l,rfl,ho3 _ _ _ h1,by rw[af h5];exact hml _,hc,hlt⟩⟩
  by_cases c0:m=0
  .have hr0:=R0 (n:=bM (Z.tdiv 10)) (m:=36) aa aa;obtain⟨p,hp⟩:∃p,Qd (bM (Z.tdiv 10)) 36=p:=⟨_,rfl⟩;have hp':Qd (IntKind.wrap .i64 (Z.tdiv 10)) 36=p:=hp;rw[az c0,hp]at g;rw[hp]at hr0;have ew:IntKind.wrap .i64 (p-1)=p-1:=Rr aa aa;clear hp;repeat' (first
    |(apply PO ?_;clear hK K)|apply Ry.o ?_|apply bC ?_|(apply bD ?_;first|refine Rx.k (RS (fun _=>rfl) _ _ bA _) ?_)|(apply aH (fun z Y=>?_) (fun z Y=>?_)<;>try(cases z;done))|apply aj ?_|(apply PP fun K hK=>?_)|(apply PQ 13 [(1,7),(1,10),(5,7),(9,10)] fun K hK=>?_)|(apply PQ 16 [(1,7),(1,13),(1,16),(5,7),(6,7),(11,7),(11,13)] fun K hK=>?_)|(apply P5 ?_;try intro _)|(apply P6 ?_ ?_<;>clear hK K)|apply aS ?_|apply P9 rfl ?_|apply ay ?_|apply PR ?_|apply aq ?_)
   exact⟨rfl,J _ (p-1) n.imm V n.kids _ eE eE eE dQ sW L (hS _ _ _ _ _ (.inr (s4.b.keep (aC _) fun k hk=>Ba))) nq4 aa g⟩
  rw[af c0]at g;by_cases c1:m=1
  .have hr0:=R0 (n:=bM (Z.tdiv 10)) (m:=300) aa aa;obtain⟨p,hp⟩:∃p,Qd (bM (Z.tdiv 10)) 300=p:=⟨_,rfl⟩;have hp':Qd (IntKind.wrap .i64 (Z.tdiv 10)) 300=p:=hp;rw[az c1,hp]at g;rw[hp]at hr0;have ew:IntKind.wrap .i64 (p-3)=p-3:=Rr aa aa;clear hp;repeat' (first
    |(apply PO ?_;clear hK K)|apply Ry.o ?_|apply bC ?_|(apply bD ?_;first|refine Rx.k (RS (fun _=>rfl) _ _ bA _) ?_)|(apply aH (fun z Y=>?_) (fun z Y=>?_)<;>try(cases z;done))|apply aj ?_|(apply PP fun K hK=>?_)|(apply PQ 13 [(1,7),(1,10),(5,7),(9,10)] fun K hK=>?_)|(apply PQ 16 [(1,7),(1,13),(1,16),(5,7),(6,7),(11,7),(11,13)] fun K hK=>?_)|(apply P5 ?_;try intro _)|(apply P6 ?_ ?_<;>clear hK K)|apply aS ?_|apply P9 rfl ?_|apply ay ?_|apply PR ?_|apply aq ?_)
   exact⟨rfl,J _ n.op (p-3) V n.kids _ eE eE eE dQ sW L (hS _ _ _ _ _ (.inr (s4.b.keep (aC _) fun k hk=>Ba))) nq4 aa g⟩
  rw[af c1]at g;have hl2:(l.length:Int)+2≠0:=aa;have ew2:IntKind.wrap .i64 ((l.length:Int)+2)=(l.length:Int)+2:=Rr aa aa;by_cases c2:m=2
  .have hr0:=R0 (n:=bM (Z.tdiv 10)) (m:=(l.length:Int)+2) aa aa;obtain⟨p,hp⟩:∃p,Qd (bM (Z.tdiv 10)) ((l.length:Int)+2)=p:=⟨_,rfl⟩;have hp':Qd (IntKind.wrap .i64 (Z.tdiv 10)) ((l.length:Int)+2)=p:=hp;rw[az c2,hp]at g;rw[hp]at hr0;have ew:IntKind.wrap .i64 (p-1)=p-1:=Rr aa aa;clear hp;have hvb:QL (U.alloc (.cells [.int .i64 (p-1)] 0 true)) V n.kids H2.next:=.inr (s4.b.keep (dD _) fun k hk=>by rw[P8,af (by have:=(s4.b.lt hk).2;omega)])
   have hH24:H2.next<=U.next:=by obtain⟨r,_,_,h1,h2⟩:=s4;omega
   obtain⟨v5,H5,a5,s5,n5,f5,o5⟩:=SM (r:=U.next) (imm:=0) (p-1) hvb lz eX aa;have n5':U.next+1<=H5.next:=kH
   have g95:H5.get H1.next=some (.cells [.int .i64 n.op,.int .i64 n.imm,V] 0 true):=by rw[f5 _ aa,P8,af aa];exact g94
   have gq5:H5.get q=some (.cells (l.map Nd.cells).flatten 0 true):=by rw[f5 _ aa,P8,af aa];exact C
   have h1v5:AV.one v5=true/\v5.cells=[v5]:=vX;obtain⟨hv51,hv52⟩:=h1v5;have e1:(H1.next == U.next)=false:=Rw aa;clear n5 f5 o5 hvb;repeat' (first
    |(apply PO ?_;clear hK K)|apply Ry.o ?_|apply bC ?_|(apply bD ?_;first|refine Rx.k (RS (fun _=>rfl) _ _ hl2 _) ?_)|(apply aH (fun z Y=>?_) (fun z Y=>?_)<;>try(cases z;done))|apply aj ?_|(apply PP fun K hK=>?_)|(apply PQ 13 [(1,7),(1,10),(5,7),(9,10)] fun K hK=>?_)|(apply PQ 16 [(1,7),(1,13),(1,16),(5,7),(6,7),(11,7),(11,13)] fun K hK=>?_)|(apply P5 ?_;try intro _)|(apply P6 ?_ ?_<;>clear hK K)|apply aS ?_|apply P9 rfl ?_|apply ay ?_|apply PR ?_|apply aq ?_)
   .exact eK
   .exact⟨rfl,J _ n.op n.imm v5 (n.kids++[p-1]) _ eE eE eE dQ (by rw[a9,af aa];exact gq5) hv51 (hS _ _ _ _ _ (.inr (s5.keep (aC _) fun k hk=>by rw[a9,af (by have:=(s5.lt hk).1;omega)]))) lJ aa g⟩
  rw[af c2]at g;have hd0:∀(Hx:Hp),iL Hx V n.kids H2.next->Q4 (fun j=>j≠q) 2 Hx [.int .i64 n.op,.int .i64 n.imm,V] (Nd.mk n.op n.imm n.kids).cells:=fun Hx h=>hS _ _ _ _ _ (.inr h.b)
  by_cases c3:m=3
  .rw[az c3]at g;by_cases hke:n.kids=[]
   .rw[az hke]at g;obtain⟨r,I,gr,lr,rl⟩:=s4;have hlen0:n.kids.length=0:=by rw[hke];rfl
    have hz:=hd0 U ⟨r,I,gr,lr,rl⟩;rw[hlen0]at I;have hlk:Qr Tryz.prog U 23 V=some (.int .i64 0):=vY;clear I;repeat' (first
     |(apply PO ?_;clear hK K)|apply Ry.o ?_|apply bC ?_|(apply aH (fun z Y=>?_) (fun z Y=>?_)<;>try(cases z;done))|apply aj ?_|(apply PP fun K hK=>?_)|(apply PQ 13 [(1,7),(1,10),(5,7),(9,10)] fun K hK=>?_)|(apply PQ 16 [(1,7),(1,13),(1,16),(5,7),(6,7),(11,7),(11,13)] fun K hK=>?_)|(apply P5 ?_;try intro _)|(apply P6 ?_ ?_<;>clear hK K)|apply aS ?_|apply P9 rfl ?_|apply ay ?_|apply PR ?_|apply aq ?_)
    exact⟨rfl,J _ n.op n.imm V n.kids _ eE eE eE g94 C L hz nq4 aa g⟩
   .rw[af hke]at g;have hlp2:0<n.kids.length:=mB.2 hke;have hkne:(n.kids.length:Int)≠0:=aa;have hr1:=R0 (n:=bM (Z.tdiv 10)) (m:=n.kids.length) aa aa;obtain⟨p1,hp1⟩:=cX hr1.1;have hp1':Qd (IntKind.wrap .i64 (Z.tdiv 10)) n.kids.length=p1:=hp1;have hr2:=R0 (n:=bM (a.tdiv 3)) (m:=(l.length:Int)+2) aa aa;obtain⟨p2,hp2⟩:∃p,Qd (bM (a.tdiv 3)) ((l.length:Int)+2)=p:=⟨_,rfl⟩;have hp2':Qd (IntKind.wrap .i64 (a.tdiv 3)) ((l.length:Int)+2)=p2:=hp2;rw[hp1,hp2,cY]at g;rw[hp1]at hr1;rw[hp2]at hr2;have ew:IntKind.wrap .i64 (p2-1)=p2-1:=Rr aa aa;have hp1l:p1<n.kids.length:=aa;clear hp1 hp2;obtain⟨r,I,gr,lr,rl⟩:=s4;have hlk:∀H:Hp,Qr Tryz.prog H 23 V=some (.int .i64 n.kids.length):=fun H=>vY;have hix:Qt Tryz.prog 23 V (.int .i64 (p1:Int))=some (.ptr r p1):=by rw[I,mh Tryz.underlying23 fy hp1l];simp
    have hgt:(0:Int)<n.kids.length:=aa;have er:(H1.next == r)=false:=Rw aa;repeat' (first
     |(apply PO ?_;clear hK K)|apply Ry.o ?_|apply bC ?_|(apply bD ?_;first|refine Rx.k (RS (fun _=>rfl) _ _ hkne _) ?_|refine Rx.k (RS (fun _=>rfl) _ _ hl2 _) ?_)|(apply aH (fun z Y=>?_) (fun z Y=>?_)<;>try(cases z;done))|apply aj ?_|(apply PP fun K hK=>?_)|(apply PQ 13 [(1,7),(1,10),(5,7),(9,10)] fun K hK=>?_)|(apply PQ 16 [(1,7),(1,13),(1,16),(5,7),(6,7),(11,7),(11,13)] fun K hK=>?_)|(apply P5 ?_;try intro _)|(apply P6 ?_ ?_<;>clear hK K)|apply aS ?_|apply P9 rfl ?_|apply ay ?_|apply PR ?_|apply aq ?_)
    refine jD eV eV (pY gr (by rw[cS];exact hp1l) _) ?_;repeat' (first
     |(apply PO ?_;clear hK K)|apply Rx.o ?_|apply dL ?_|apply aj ?_|(apply PP fun K hK=>?_)|(apply PQ 13 [(1,7),(1,10),(5,7),(9,10)] fun K hK=>?_)|(apply PQ 16 [(1,7),(1,13),(1,16),(5,7),(6,7),(11,7),(11,13)] fun K hK=>?_)|(apply P5 ?_;try intro _)|(apply P6 ?_ ?_<;>clear hK K)|apply aS ?_|apply P9 rfl ?_|apply ay ?_|apply PR ?_|apply aq ?_)
    .exact eK
    .refine⟨rfl,J _ n.op n.imm V (n.kids.set p1 (p2-1)) _ eE eE eE (by rw[a9,af aa];exact g94) sW L (hS _ _ _ _ _ (.inr ⟨r,0,by rw[me];exact I,by rw[a9,az rfl,lq],ca _,lr,rl⟩)) nq4 aa g⟩
  rw[af c3]at g;by_cases c4:m=4
  .rw[az c4]at g;obtain⟨r,I,gr,lr,rl⟩:=s4;have hz:=hd0 U ⟨r,I,gr,lr,rl⟩;have hlk:∀H:Hp,Qr Tryz.prog H 23 V=some (.int .i64 n.kids.length):=fun H=>vY;by_cases hke:n.kids.length=0
   .have hgt:¬(0:Int)<n.kids.length:=by omega
    have hke2:n.kids.drop 1=n.kids:=by rw[uZ hke];rfl
    rw[hke2]at g;clear hke;repeat' (first
     |(apply PO ?_;clear hK K)|apply Ry.o ?_|apply bC ?_|(apply aH (fun z Y=>?_) (fun z Y=>?_)<;>try(cases z;done))|apply aj ?_|(apply PP fun K hK=>?_)|(apply PQ 13 [(1,7),(1,10),(5,7),(9,10)] fun K hK=>?_)|(apply PQ 16 [(1,7),(1,13),(1,16),(5,7),(6,7),(11,7),(11,13)] fun K hK=>?_)|(apply P5 ?_;try intro _)|(apply P6 ?_ ?_<;>clear hK K)|apply aS ?_|apply P9 rfl ?_|apply ay ?_|apply PR ?_|apply aq ?_)
    exact⟨rfl,J _ n.op n.imm V n.kids _ eE eE eE g94 C L hz nq4 aa g⟩
   .have hgt:(0:Int)<n.kids.length:=by omega
    obtain⟨kv5,hsl,h51,h52,hc5⟩:=O0 (S:=fun j=>j≠q) (r:=r) (H:=U) (kids:=n.kids) aa gr rl aa;have hslH:∀H:Hp,jB Tryz.prog H 23 V (some (.int .i64 1)) none=some kv5:=fun H=>by rw[I];exact hsl
    clear hsl I;repeat' (first
     |(apply PO ?_;clear hK K)|apply Ry.o ?_|apply bC ?_|(apply aH (fun z Y=>?_) (fun z Y=>?_)<;>try(cases z;done))|apply aj ?_|(apply PP fun K hK=>?_)|(apply PQ 13 [(1,7),(1,10),(5,7),(9,10)] fun K hK=>?_)|(apply PQ 16 [(1,7),(1,13),(1,16),(5,7),(6,7),(11,7),(11,13)] fun K hK=>?_)|(apply P5 ?_;try intro _)|(apply P6 ?_ ?_<;>clear hK K)|apply aS ?_|apply P9 rfl ?_|apply ay ?_|apply PR ?_|apply aq ?_)
    exact⟨rfl,J _ n.op n.imm kv5 (n.kids.drop 1) _ eE eE eE dQ sW h51 (.cons (.int _ _) (.cons (.int _ _) (.cons (hc5 _ lJ jP) .nil))) nq4 aa g⟩
  rw[af c4]at g;by_cases c5:m=5
  .rw[af aa]at g;have hcw:∀Hx:Hp,U.next<=Hx.next->(∀k,H2.next<=k->k<U.next->Hx.get k=U.get k)->Q4 (fun j=>j≠q) 2 Hx [.int .i64 n.op,.int .i64 n.imm,V] n.cells:=fun Hx h1 h2=>hS V n.kids n.op n.imm Hx (.inr (s4.b.keep h1 fun k hk=>h2 k (s4.b.lt hk).1 (s4.b.lt hk).2))
   have A:=ho3 n.op n.imm V L;have kbs:=fun H=>sT H (cs:=[.int .i64 n.op,.int .i64 n.imm,V]) rfl A;have hH24:H2.next<=U.next:=by obtain⟨r,_,_,h1,h2⟩:=s4;omega
   have a5:=OZ (P:=Tryz.prog) (t:=26) (H:=U.alloc (.cells [.int .i64 n.op,.int .i64 n.imm,V] 0 true)) (q:=q) (r:=U.next) (imm:=0) (rows:=l.map Nd.cells) (row:=[.int .i64 n.op,.int .i64 n.imm,V]) Tryz.underlying26 jL nK nL rfl ad (by rw[P8,af aa];exact C) (qg l) eX rfl A lI lI;rw[hlm]at a5;generalize hHc:Hp.alloc (Hp.kill (U.alloc _) _) _=H5 at a5;have n5:U.next+2<=H5.next:=by rw[<-hHc];exact aC _
   have g5:H5.get (U.next+1)=some (.cells ((l.map Nd.cells).flatten++[.int .i64 n.op,.int .i64 n.imm,V]) 0 true):=by rw[<-hHc,P8,az (by simp only[SS,QA])]
   have o5:∀j,j<U.next->j≠q->H5.get j=U.get j:=fun j hj hjq=>by rw[<-hHc,P8,af (by simp only[SS,QA];omega),RH,af hjq,P8,af aa]
   clear hHc;have g95:H5.get H1.next=some (.cells [.int .i64 n.op,.int .i64 n.imm,V] 0 true):=by rw[o5 _ aa aa];exact g94
   rw[QA]at a5;obtain⟨rk,I,grk,lrk,rrk⟩:=s4;have hrd5:eC (fun j=>j≠U.next+1) 2 H5 V (Qg n.kids):=by
    rw[I];exact vR n.kids aa aa (by rw[o5 rk rrk aa];exact grk) (ca _)
   have hcw5:Q4 (fun j=>j≠U.next+1) 2 H5 [.int .i64 n.op,.int .i64 n.imm,V] n.cells:=.cons (.int _ _) (.cons (.int _ _) (.cons hrd5 .nil));have hrl5:(l.map Nd.cells++[[.int .i64 n.op,.int .i64 n.imm,V]]).length=l.length+1:=aA;clear I grk hrd5 o5;repeat' (first
    |(apply PO ?_;clear hK K)|apply Ry.o ?_|apply bC ?_|(apply aH (fun z Y=>?_) (fun z Y=>?_)<;>try(cases z;done))|apply aj ?_|(apply PP fun K hK=>?_)|(apply PQ 13 [(1,7),(1,10),(5,7),(9,10)] fun K hK=>?_)|(apply PQ 16 [(1,7),(1,13),(1,16),(5,7),(6,7),(11,7),(11,13)] fun K hK=>?_)|(apply P5 ?_;try intro _)|(apply P6 ?_ ?_<;>clear hK K)|apply aS ?_|apply P9 rfl ?_|apply ay ?_|apply PR ?_|apply aq ?_)
   refine⟨rfl,U.next+1,l.map Nd.cells++[[.int .i64 n.op,.int .i64 n.imm,V]],[.int .i64 n.op,.int .i64 n.imm,V],⟨?_,eE,⟨H1.next,eE,g95,aa⟩,by rw[g5];simp,?_,rfl,A,?_,by rw[g];exact hcw5,aa⟩⟩
   .rw[hrl5];exact eE
   .intro x hx;rcases lb.1 hx with h|h
    .exact qg l x h
    .rw[vD]at h;subst h;rfl
   .rw[az c5,pn];exact QB.append (v7 l) ⟨⟨rfl,hcw5⟩,trivial⟩
  by_cases c6:m=6
  .rw[az c6]at g;obtain⟨p,hp⟩:∃p,Qd (bM (Z.tdiv 10)) 40=p:=⟨_,rfl⟩;have hp':Qd (IntKind.wrap .i64 (Z.tdiv 10)) 40=p:=hp;rw[hp]at g;clear hp;repeat' (first
    |(apply PO ?_;clear hK K)|apply Ry.o ?_|apply bC ?_|(apply bD ?_;first|refine Rx.k (RS (fun _=>rfl) _ _ bA _) ?_)|(apply aH (fun z Y=>?_) (fun z Y=>?_)<;>try(cases z;done))|apply aj ?_|(apply PP fun K hK=>?_)|(apply PQ 13 [(1,7),(1,10),(5,7),(9,10)] fun K hK=>?_)|(apply PQ 16 [(1,7),(1,13),(1,16),(5,7),(6,7),(11,7),(11,13)] fun K hK=>?_)|(apply P5 ?_;try intro _)|(apply P6 ?_ ?_<;>clear hK K)|apply aS ?_|apply P9 rfl ?_|apply ay ?_|apply PR ?_|apply aq ?_)
   exact⟨rfl,J _ 3 p .nilS [] _ eE eE eE dQ (by rw[a9,af aa,a9,af aa,a9,af aa];exact C) rfl (mR 3 p) nq4 aa g⟩
  rw[af c6]at g;repeat' (first
   |(apply PO ?_;clear hK K)|apply Ry.o ?_|apply bC ?_|(apply aH (fun z Y=>?_) (fun z Y=>?_)<;>try(cases z;done))|apply aj ?_|(apply PP fun K hK=>?_)|(apply PQ 13 [(1,7),(1,10),(5,7),(9,10)] fun K hK=>?_)|(apply PQ 16 [(1,7),(1,13),(1,16),(5,7),(6,7),(11,7),(11,13)] fun K hK=>?_)|(apply P5 ?_;try intro _)|(apply P6 ?_ ?_<;>clear hK K)|apply aS ?_|apply P9 rfl ?_|apply ay ?_|apply PR ?_|apply aq ?_)
  exact⟨rfl,J _ n.op n.imm V n.kids _ eE eE eE g94 C L (hd0 U s4) nq4 aa g⟩
 .rintro E5 H5 ⟨q',rows,row,hF⟩;obtain⟨k7,k8,⟨r,k9,gr,hrq⟩,gq',hr3,hw3,A,hrw,hcw,hlt⟩:=hF;have hrl:rows.length=((if m=5 then l++[n]else l).map Nd.cells).length:=QB.len hrw;have hkr:k<rows.length:=by
   rw[hrl,cS];split
   .rw[eh];omega
   .exact hkl
  have hst:=OL (P:=Tryz.prog) (t:=25) jL gq' hr3 hkr hw3 A;dsimp only[Sg,pB];obtain⟨x0,x1,x2,rfl⟩:=A7 hw3;have hix:Qt Tryz.prog 26 (.sl q' 0 rows.length 3) (.int .i64 (k:Int))=some (.ptr q' (k*3)):=by
   rw[mh Tryz.underlying26 jL hkr,bZ]
  clear hrl;repeat' (first
   |(apply PO ?_;clear hK K)|apply Rx.o ?_|apply dL ?_|apply aj ?_|(apply PP fun K hK=>?_)|(apply PQ 13 [(1,7),(1,10),(5,7),(9,10)] fun K hK=>?_)|(apply PQ 16 [(1,7),(1,13),(1,16),(5,7),(6,7),(11,7),(11,13)] fun K hK=>?_)|(apply P5 ?_;try intro _)|(apply P6 ?_ ?_<;>clear hK K)|apply aS ?_|apply P9 rfl ?_|apply ay ?_|apply PR ?_|apply aq ?_)
  all_goals (refine⟨eI,_,P0,?_⟩;try simp only[PT])
  have hsl:(rows.set k [x0,x1,x2]).length=rows.length:=me;have hrd:eC (fun _=>True) 3 (H5.set q' (.cells (rows.set k [x0,x1,x2]).flatten 0 true)) (.sl q' 0 (rows.set k [x0,x1,x2]).length 3) (.lst (((if m=5 then l++[n]else l).map Nd.cells).set k w.cells)):=by
   refine eC.rows (imm:=0) (tip:=true) trivial hlt dQ (ca _) ?_;have hk2:∀j,j≠q'->(H5.set q' (.cells (rows.set k [x0,x1,x2]).flatten 0 true)).get j=H5.get j:=fun j hj=>by rw[a9,af hj]
   exact QB.set (dV.keep2 (H':=H5.set q' (.cells (rows.set k [x0,x1,x2]).flatten 0 true)) hrw (fun _ _ _=>trivial) (aC _) fun j hj _=>hk2 j hj) ⟨rfl,Q4.keep2 (H':=H5.set q' (.cells (rows.set k [x0,x1,x2]).flatten 0 true)) hcw (fun _ _ _=>trivial) (aC _) fun j hj _=>hk2 j hj⟩
  obtain⟨u,h1,h2⟩:=hrd;obtain⟨m0,hm0⟩:=QG.iceV h1;rw[hsl]at hm0;refine⟨m0,u,hm0 m0 (aC _),?_⟩;rw[h2 60 aa,hmut,Qz,lq])
end
section
noncomputable def wa:En:=⟨23,true,bG v9 mT fun x=>Qz (iR x.l x.how x.a)⟩
theorem O3(ρ:Nat->Int):QM Tryz.prog ρ wa:=QP fun x C=>O2 ρ x C
theorem O4{tb:List En}(o:∀C,QT tb 23 C=wa.sp C)(l:List Nd)(m a:Int)(I:QY l/\l≠[])(H:Hp):P2 Tryz.prog (PU pls tb) 23 [Qz l,.int .i64 m,.int .i64 a] H fun v H'=>v=Qz (iR l m a)/\H'=H:=
 Q0 (enc:=mT) (ok:=v9) (out:=fun x=>Qz (iR x.l x.how x.a)) O1 (x:=⟨l,m,a⟩) (o _) I
def gf(H:Hp)(v:AV)(l:List Int)(lo:Nat):Prop:=∃r j,v=.sl r 0 l.length 1/\H.get r=some (.cells (l.map (.int .u8)) j true)/\j<=l.length/\lo<=r/\r<H.next
def wc(H:Hp)(v:AV)(l:List Int)(lo:Nat):Prop:=(v=.nilS/\l=[])\/gf H v l lo
theorem gf.low{H H':Hp}{v:AV}{l:List Int}{lo:Nat}(h:gf H v l lo)(m:H.next<=H'.next)(A:∀k,lo<=k->k<H.next->H'.get k=H.get k):gf H' v l lo:=by
 obtain⟨r,j,i,g,o,U,Z⟩:=h;exact⟨r,j,i,by rw[A r U Z];exact g,o,U,aa⟩
theorem gf.lt{H:Hp}{v:AV}{l:List Int}{lo:Nat}(h:gf H v l lo){k:Nat}(j:Rb v k):lo<=k/\k<H.next:=by
 obtain⟨r,Z,rfl,_,_,U,A⟩:=h;obtain⟨n,e⟩:=j;simp only[AV.sl.injEq]at e;rw[<-e.1];exact⟨U,A⟩
theorem gf.keep{H H':Hp}{v:AV}{l:List Int}{lo:Nat}(h:gf H v l lo)(m:H.next<=H'.next)(A:∀k,Rb v k->H'.get k=H.get k):gf H' v l lo:=by
 obtain⟨r,j,rfl,g,o,U,Z⟩:=h;exact⟨r,j,rfl,uW,o,U,aa⟩
theorem Bk(l:List Int):(l.map (AV.int .u8)).all AV.one=true:=by simp[AV.one]
theorem O5{H:Hp}{r imm:Nat}{m:List Int}(h:H.get r=some (.cells (m.map (.int .u8)) imm true)):RE H 1 (.sl r 0 m.length 1)=some (m.length,m.map (.int .u8)):=by
 have:=nD (H:=H) (r:=r) (o:=0) (n:=m.length) (z:=1) (s:=1) h aA;rw[this,eN,fF aA]
theorem O6{H:Hp}{v x:AV}{l m:List Int}{lo:Nat}(U:wc H v l lo)(J:lo<=H.next)(C:RE H 1 x=some (m.length,m.map (.int .u8)))(O:m≠[])(V:l.length+m.length<2^40):
 ∃A H',Rj Tryz.prog false H 200 200 v x=some (A,H')/\gf H' A (l++m) lo/\H'.next=H.next+1/\(∀k,k<lo->H'.get k=H.get k)/\nU v A H H':=by
 obtain⟨n,Y⟩:∃n,m.length=n+1:=⟨m.length-1,by have:=mB.2 O;omega⟩;have M:Rd=70368744177664:=rfl;rw[Y]at C;rcases U with⟨rfl,rfl⟩|⟨r,Z,rfl,g,o,K,I⟩
 .refine⟨.sl H.next 0 (n+1) 1,H.alloc (.cells (m.map (.int .u8)) 0 true),append_nil Tryz.underlying200 uP uQ uR ad C (Bk m) rfl iJ iJ,⟨H.next,0,by simp[Y],ga,aa,J,dh _⟩,rfl,fun k j=>fT,fun k j _=>fT,fun k j=>.inr ?_⟩;obtain⟨L,e⟩:=j;simp only[AV.sl.injEq]at e;omega
 .have z:RJ false H 1 (.sl r 0 l.length 1)=H:=by
   unfold RJ;simp only[g,bZ,cS,jw];have:Nat.blt l.length l.length=false:=by
    cases V:Nat.blt l.length l.length with
    |false=>rfl
    |true=>rw[eZ]at V;omega
   simp[this]
  refine⟨.sl H.next 0 (l.length+(n+1)) 1,(H.kill r).alloc (.cells (l.map (.int .u8)++m.map (.int .u8)) (Z-0) true),?_,⟨H.next,Z,by simp[Y],?_,cQ,J,dh _⟩,rfl,fun k j=>?_,fun k j i=>?_,fun k j=>.inr ?_⟩
  .simp only[Rj,Tryz.underlying200,uP,uQ,uR,show Sr Tryz.prog 200=true by kernel_rfl,C,Bk,z,lg,cr,em,iX,SH,g,cS,bZ,jw,eN];rw[az ⟨iJ,iJ,trivial,trivial,o⟩];simp
  .show((H.kill r).alloc _).get (H.kill r).next=_
   rw[P8,az rfl];simp
  .rw[P8,af ja,RH,af aa]
  .rw[P8,af ja,RH,af (fun e=>i ⟨_,i6⟩)]
  .obtain⟨L,e⟩:=j;simp only[AV.sl.injEq]at e;omega
theorem O7{H:Hp}{v:AV}{l:List Int}{lo r imm:Nat}(s:Int)(Z:wc H v l lo)(J:lo<=H.next)(K:H.get r=some (.cells [.int .u8 s] imm true))(z:l.length<2^39):
 ∃A H',Rj Tryz.prog false H 200 200 v (.sl r 0 1 1)=some (A,H')/\gf H' A (l++[s]) lo/\H'.next=H.next+1/\(∀k,k<lo->H'.get k=H.get k)/\nU v A H H':=
 O6 Z J (O5 (m:=[s]) K) aA cQ
theorem Bl(H:Hp)(n:Int):Rs Tryz.prog H 200 1 [(0,.int .u8 n)]=some (.sl H.next 0 1 1,H.alloc (.cells [.int .u8 n] 0 true)):=ad
theorem bin_shr{D:BinOp->Sx->Sx->Option Bool}{t:TypeId}{k Z:IntKind}{a:Int}{m:Nat}(h:m<64)(j:k=.u64):QR Tryz.prog D .shr t (.int k a) (.int Z (m:Int))=some (.int k (a.fdiv (2^ m))):=by
 subst j;have e:QR Tryz.prog D .shr t (.int .u64 a) (.int Z (Int.ofNat m))=some (.int .u64 (a.fdiv (2^ min m 64))):=rfl;rw[show min m 64=m by omega]at e;exact e
def gD(n:Int)(i:Nat):Int:=IntKind.wrap .u8 (n.fdiv (2^ (8*i)))
def RI(n:Int)(i:Nat):List Int:=(List.range i).map (gD n)
theorem SX(n:Int)(i:Nat):(RI n i).length=i:=by simp[RI]
theorem O8(n:Int)(i:Nat):RI n (i+1)=RI n i++[gD n i]:=by simp[RI,List.range_succ]
def lK(l:List Int):List UInt8:=l.map fun n=>UInt8.ofNat n.toNat
def tyV1.tyF:=ac @dr (ac @cZ (ac @uS (ac @jK (ac @dK (ac @ey (ac @r5 (ac @yM (ac @r7 (ac @yO (ac @yQ (ac @r4 (ac @yP (ac @yS (@Bl))))))))))))))
open tyV1
def mU(n:Nd):List Int:=IntKind.wrap .u8 n.op::(RI (IntKind.wrap .u64 n.imm) 8++n.kids.flatMap fun k=>RI (IntKind.wrap .u64 k) 8)
theorem O9(n:Nd):mU n=[IntKind.wrap .u8 n.op]++RI (IntKind.wrap .u64 n.imm) 8++n.kids.flatMap fun k=>RI (IntKind.wrap .u64 k) 8:=by
 rw[mU];simp
theorem Bm:∀l:List Int,lS (l.map (.int .u8))=some (lK l)
 |[]=>rfl
 |a::l=>by
  have:=Bm l;simp only[dS,lS,this];rfl
theorem Pa{H:Hp}{v:AV}{l:List Int}{lo:Nat}(J:gf H v l lo):RU Tryz.prog H 200 9 v=some (.str (lK l)):=by
 obtain⟨r,O,rfl,A,_⟩:=J;have C:RE H 1 (.sl r 0 l.length 1)=some (l.length,l.map (.int .u8)):=by
  have:=nD (H:=H) (r:=r) (o:=0) (n:=l.length) (z:=1) (s:=1) A aA;rw[this,eN,fF aA]
 simp only[RU,Tryz.underlying200,Tryz.underlying9,Tryz.underlying5,C];rw[Bm]
end
section
def Pb(p:Pr):List (List UInt8):=p.funcs.map (·.name)
section
variable (c:Sc)
end
section
variable {p:Pr} (hd:AF [] (Pb p)=false) (c:Sc) (hc:c.p=p)
include hd hc
end
end
end Go.Proofs.YtljebeflbbgibaaGreat
