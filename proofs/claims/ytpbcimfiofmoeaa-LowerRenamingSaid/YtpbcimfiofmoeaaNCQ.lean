/- Parts: RenG, SnC, SuC, AbArg, Seeds. -/
import Derived.Deep.Slices
import Derived.Test.YtpbcimfiofmoeaaNCP
import Derived.WideKeyArgs
import Derived.WideShapes
set_option linter.unusedSimpArgs false
set_option linter.unusedVariables false
set_option linter.unusedSectionVars false
set_option linter.defProp false
set_option maxHeartbeats 32000000
namespace Go.Ab
set_option maxRecDepth 20000
open Go
theorem DQ{P:Prop}(h:P:=by rw[<- L];exact Nat.le_refl _):P:=h
end Go.Ab
namespace Go.Proofs.Ytpbcimfiofmoeaa
set_option maxRecDepth 20000
open Go Go.Ab
section
def tyRenG.tyF:=ad @eJ (ad @cQ (ad @cW (ad @kQ (ad @ly (ad @gI (ad @gJ (ad @eK (ad @eA (ad @dX (ad @lA (ad @fj (ad @oM (@DP)))))))))))))
open tyRenG
noncomputable def Lw:{c:SC // aD 120 (Try.f18.body.getD .skip)=c}:=by
 refine⟨?_,?_⟩;rotate_left
 .simp only[Try.f18,bP,aD,zby,zbt,zbA,zbB,Nat.blt,Nat.ble];rfl
structure RpX where
 p:Pr
 w:Int
def sX(y:RpX):List AV:=[.agg y.p.cells,.int .i64 y.w]
def zdt(k w:Int):Bool:=if w=k then true else decide (w=3)
def nF(y:RpX):Pr:=jW (zdt 0 y.w) (zdt 1 y.w) (zdt 2 y.w) y.p
noncomputable def rD:En:=⟨32,false,dA (fun y=>zbC y.l<2^36) qt fun y=>.lst ((y.l.map (zbr y.v y.a y.f)).map St.cells)⟩
theorem zwt(ρ:Nat->Int):fk Try.prog ρ rD:=zcQ fun x I=>zqm ρ x I
theorem bAr(s:List UInt8)(n:Int):zb5 Try.prog 74 [(0,.str s),(1,.int .i64 n)]=some (.agg [.str s,.int .i64 n]):=ah
theorem zar(H:Hp)(s:List UInt8)(n:Int):zcv Try.prog H 32 1 [(0,.agg [.str s,.int .i64 n])]=some (.sl H.next 0 1 2,H.alloc (.cells [.str s,.int .i64 n] 0 true)):=ah
theorem bFr(s:List UInt8)(xs:List (List AV))(a b c d e:AV):zb5 Try.prog 53 [(0,.str s),(3,.lst xs),(4,.agg [a,b,c,d,e])]=some (.agg [.str s,.nilS,.nilS,.lst xs,a,b,c,d,e]):=ah
theorem Ly(H:Hp)(s:List UInt8):zcv Try.prog H 47 1 [(0,.str s)]=some (.sl H.next 0 1 1,H.alloc (.cells [.str s] 0 true)):=ah
theorem Lz(c0 c1 C o Z g i M V:AV):zbJ 9 [c0,c1,C,o,Z,g,i,M,V]=some (.agg [c0,c1,C,o,Z,g,i,M,V]):=rfl
theorem zat(H:Hp)(c0 c1 C o Z g i M V:AV):zcv Try.prog H 40 1 [(0,.agg [c0,c1,C,o,Z,g,i,M,V])]=some (.sl H.next 0 1 9,H.alloc (.cells [c0,c1,C,o,Z,g,i,M,V] 0 true)):=ah
theorem zbN.not{S:Nat->Prop}{n:Nat}{H:Hp}{z:Nat}{w:AV}{Y:List (List AV)}(h:zbN S n H z w Y){q:Nat}(I:¬S q\/H.next<=q):∀o m Z,w≠.sl q o m Z:=fun o m Z e=>by
 rcases h with⟨h,_⟩|⟨V,L,O,i,g,U,_⟩
 .rw[h]at e;cases e
 .rw[i]at e;simp only[AV.sl.injEq]at e;obtain⟨rfl,_⟩:=e;rcases I with h|h
  .exact h g
  .omega
set_option maxRecDepth 100000 in
theorem zmU(ρ:Nat->Int)(y:RpX)(hy:y.p.sz<2^36):cn Try.prog ρ 18 (sX y) (.agg (nF y).cells):=
 zr (n:=60) (cfg:=za3 pls [lT,ox,rD]) fit (pL ρ) (fun g args r hg=>jc.look (l:=[lT,ox,rD]) ⟨DN ρ,Lu ρ,zwt ρ,trivial⟩ g args r hg) (.cons (.agg y.p.pure) (.cons (.int _ _) .nil)) (by
 obtain⟨p,w⟩:=y;have agg2r:∀(b c:AV),zbJ 2 [b,c]=some (.agg [b,c]):=fun _ _=>rfl;have hw:Plain (za3 pls [lT,ox,rD]) 18:=zcB (fun _=>rfl) rfl;have hkeep:(za3 pls [lT,ox,rD]).keep 18=false:=rfl;have kn:∀(s:za5) (o:Bool),s.length<2^40->∀H,za9 Try.prog (za3 pls [lT,ox,rD]) 31 [.str s,.bool o] H fun w H'=>w=.str (rn o s)/\H'=H:=fun s o h H=>
  zcz (enc:=qs) (ok:=fun x=>x.1.length<2^40) (out:=fun x=>.str (rn x.2 x.1)) DM (x:=(s,o)) rfl h
 have ke:∀(v a:Bool) (y:Ex),y.sz<2^36->∀H,za9 Try.prog (za3 pls [lT,ox,rD]) 33 [.agg y.cells,.bool v,.bool a] H fun w H'=>w=.agg (zbc v a y).cells/\H'=H:=fun v a y h H=>
  zcz (enc:=py) (ok:=fun y=>y.x.sz<2^36) (out:=fun y=>.agg (zbc y.v y.a y.x).cells) Ao (x:=⟨y,v,a⟩) rfl h
 have ks:∀(v a f:Bool) (y:List St),zbC y<2^36->∀H,za9 Try.prog (za3 pls [lT,ox,rD]) 32 [.lst (y.map St.cells),.bool v,.bool a,.bool f] H fun w H'=>w=.lst ((y.map (zbr v a f)).map St.cells)/\H'=H:=fun v a f y h H=>
  zcz (enc:=qt) (ok:=fun y=>zbC y.l<2^36) (out:=fun y=>.lst ((y.l.map (zbr y.v y.a y.f)).map St.cells)) DO (x:=⟨y,v,a,f⟩) rfl h
 simp only[sX,nF]at hy⊢;have hpz:p.sz=1+zcU p.arrays+fV p.funcs:=rfl;have hla:=qP p.arrays;have hlf:=qO p.funcs;rw[Pr.cells_eq];generalize hv:zdt 0 w=v;generalize ha:zdt 1 w=a;generalize hf:zdt 2 w=f;unfold zdt at hv ha hf;refine zbs (M:=120) (rs:=[.cell 4 42]) (hw.call _) hw.ice hw.froz Try.func18 rfl rfl Lw.2 rfl ?_;dsimp only[Lw,zbj,Nat.reduceAdd];refine aq ?_;(apply zaW fun K hK=>?_);repeat' (first|(apply ai ?_;clear hK K)|apply Rx.o ?_)
 refine aq ?_;refine zaW fun K hK0=>?_;have bP0:zb5 Try.prog 42 []=some (.agg [.nilS,.nilS]):=ah;have hK:∀E2 H2,(E2.at 2=.ptr 0 0/\E2.at 4=.ptr 1 0/\E2.at 5=.bool v/\E2.at 6=.bool a/\E2.at 7=.bool f/\H2=((zbk.alloc (.cells [.lst (p.arrays.map Ar.cells),.lst (p.funcs.map Fu.cells)] 0 true)).alloc (.cells [.nilS,.nilS] 0 true)))->K E2 H2:=by
  rintro E2 H2 ⟨k2,k4,k5,k6,k7,rfl⟩;apply hK0;clear hK0 K hv ha hf;dsimp only[kM,pN];repeat' (first
   |(apply ai ?_;clear hK K)|apply Rx.o ?_|apply bN ?_|apply aq ?_|(apply zaW fun K hK=>?_)|apply aO ?_|fail)
  refine zcj [2,4,5,6,7,8,38,39] [0,1] 40 p.arrays.length (fun i E H=>∃va,H.get 2=some (.cells [va,.nilS] 0 true)/\zbN (fun k=>3<=k) 1 H 2 va ((p.arrays.take i).map fun y=>(iS a y).cells)) eE ⟨.nilS,CF,.inl ⟨rfl,aw⟩⟩ ?_;rintro i E3 Y hi hcE hrH hnH hsI ⟨va,g2,hw3⟩;(try simp only[zbR,zbq,br,za4,zbg,Nat.reduceBEq, *]at hcE);(try simp only[zbR,zbq,br,za4,zbg,Nat.reduceBEq,Nat.reduceAdd, *]at hrH);(try simp only[zbb,zbl,zb4,b4,Nat.reduceAdd]at hnH);have hB0:(0 == Y.next)=false:=zbn ac;have hC0:(Y.next == 0)=false:=zbn ac;have hB1:(1 == Y.next)=false:=zbn ac;have hC1:(Y.next == 1)=false:=zbn ac;have n3:3<=Y.next:=ac
  have y2:(2 == Y.next)=false:=zbn ac;have y3:(2 == Y.next+1)=false:=zbn ac;obtain⟨o1,o2⟩:=hw3.one;by_cases hlt:i<p.arrays.length
  .have hlt':(i:Int)<p.arrays.length:=by omega
   have hgx:p.arrays[i]?=some p.arrays[i]:=aY hlt;have hsm:=Ct (dW hlt);have htk:p.arrays.take (i+1)=p.arrays.take i++[p.arrays[i]]:=z8;generalize p.arrays[i]=x at *;obtain⟨J,ln⟩:=x;simp only at hsm;have hxc:(Ar.mk J ln).cells=[.str J,.int .i64 ln]:=rfl;have hbs:=fun H=>zar H (rn a J) ln;have hba:=bAr (rn a J) ln;repeat' (first
    |(apply ai ?_;clear hK K)|apply Ry.o ?_|apply dD ?_|(apply jb ?_;first|refine zbV (kn J a ac _) ?_)|(apply bi (fun hb z=>?_) (fun hb z=>?_)<;>try(cases hb;done))|apply aq ?_|(apply zaW fun K hK=>?_)|(apply zcy 6 [(1,5),(1,10),(3,5),(7,5),(7,10),(9,10)] fun K hK=>?_)|(apply zbK ?_;try intro _)|apply cr ?_|apply aO ?_|apply za8 ?_|fail)
   generalize hH5:Hp.alloc (Hp.set (Hp.alloc Y _) _ _) _=O;have n5:Y.next+2<=O.next:=Dz
   have gr:O.get (Y.next+1)=some (.cells [.str (rn a J),.int .i64 ln] 0 true):=DA;have k5:∀q,q<Y.next->O.get q=Y.get q:=fun q I=>by
    rw[<-hH5];simp only[aC,zaY,zbl,zbb,af (show ¬q=Y.next by omega),af (show ¬q=Y.next+1 by omega)]
   have gb5:O.get Y.next=some (.cells [.str J,.int .i64 ln] 0 true):=by
    rw[<-hH5];simp only[aC,zaY,zbl,zbb,af (show ¬Y.next=Y.next+1 by omega),cZ]
   clear hH5;have hw5:zbN (fun k=>3<=k) 1 O 2 va ((p.arrays.take i).map fun y=>(iS a y).cells):=hw3.keep (fun _ _ h=>h) ac fun q _ h2=>k5 q h2;obtain⟨v6,U,a6,s6,n6,f6,q6⟩:=oh (P:=Try.prog) (t:=32) Try.underlying32 vD yh yj rfl ah (lo:=3) hw5 ac (r:=Y.next+1) (imm:=0) (row:=[.str (rn a J),.int .i64 ln]) (w:=(iS a ⟨J,ln⟩).cells) gr rfl rfl (.cons (.str _) (.cons (.int _ _) .nil)) lR lR;have g6:U.get 2=some (.cells [va,.nilS] 0 true):=by rw[f6 2 ac (hw5.not (.inl (by show ¬(3<=2);omega)))];exact(k5 2 ac).trans g2
   have e6:∀q,q<3->U.get q=Y.get q:=fun q I=>by rw[f6 q ac (hw5.not (.inl (by show ¬(3<=q);omega)))];exact k5 q ac
   have g5b:O.get Y.next=some (.cells [.str J,.int .i64 ln] 0 true):=gb5
   have g6b:U.get Y.next=some (.cells [.str J,.int .i64 ln] 0 true):=by rw[f6 _ ac (hw3.not (.inr (aA _)))];exact gb5
   have n6':Y.next+2<=U.next:=ac
   have n56:O.next<=U.next:=ac
   obtain⟨u1,u2⟩:=s6.one;have z2:(Y.next == 2)=false:=zbn ac;have g25:=(k5 2 ac).trans g2;clear n6 f6 q6 k5 gb5;repeat' (first
    |(apply ai ?_;clear hK K)|apply Rx.o ?_|apply bN ?_|(apply zaW fun K hK=>?_)|(apply zbK ?_;try intro _)|(apply zcr ?_ ?_<;>clear hK K)|apply cr ?_|apply zcX rfl ?_|fail)
   .exact zck
   generalize L:Hp.set U _ _=C;have n7:U.next<=C.next:=DQ
   have g7:C.get 2=some (.cells [v6,.nilS] 0 true):=by rw[<-L,aC,aj rfl]
   have k7:∀q,q≠2->C.get q=U.get q:=fun q I=>by rw[<-L,aC,af I]
   have g70:C.get 0=Y.get 0:=(k7 0 ac).trans (e6 0 ac);have g71:C.get 1=Y.get 1:=(k7 1 ac).trans (e6 1 ac);clear L g6 e6 g2 g25 gr;refine⟨ac,zbw,zbw,eN,yV,?_⟩;exact⟨v6,g7,by rw[htk,jJ];exact s6.keep (fun _ _ h=>h) n7 fun q h1 _=>k7 q (by have:3<=q:=h1;omega)⟩
  .have hlt':¬(i:Int)<p.arrays.length:=by omega
   rw[eI ac]at hw3;have hwA:zbN (fun k=>3<=k/\k<Y.next) 1 Y 2 va (p.arrays.map fun y=>(iS a y).cells):=hw3.keep (fun k h1 h2=>⟨h2,h1⟩) (aA _) fun _ _ _=>rfl;clear hw3;repeat' (first
    |(apply ai ?_;clear hK K)|apply Ry.o ?_|(apply bi (fun hb z=>?_) (fun hb z=>?_)<;>try(cases hb;done))|apply aq ?_|(apply zaW fun K hK=>?_)|apply aO ?_|apply zbW ?_)
   refine zcj [4,5,6,7,8,58,59] [0,1] 60 p.funcs.length (fun i E H=>∃vf,H.get 2=some (.cells [va,vf] 0 true)/\zbN (fun k=>Y.next<=k) 3 H 9 vf ((p.funcs.take i).map fun y=>(zbQ v a f y).cells)/\∀q,3<=q->q<Y.next->H.get q=Y.get q) eE ⟨.nilS,g2,.inl ⟨rfl,aw⟩,fun _ _ _=>rfl⟩ ?_;clear g2;rintro j E4 Z hj hcE hrH hnH hsI ⟨vf,g2,hwF,fA⟩;(try simp only[zbR,zbq,br,za4,zbg,Nat.reduceBEq, *]at hcE);(try simp only[zbR,zbq,br, *]at hrH);(try simp only[zbb,zbl,zb4,b4,Nat.reduceAdd]at hnH);have hB0:(0 == Z.next)=false:=zbn ac;have hC0:(Z.next == 0)=false:=zbn ac;have hB1:(1 == Z.next)=false:=zbn ac;have hC1:(Z.next == 1)=false:=zbn ac;have n4:Y.next<=Z.next:=ac
   obtain⟨o3,o4⟩:=hwF.one;by_cases hjt:j<p.funcs.length
   .have hjt':(j:Int)<p.funcs.length:=by omega
    have hgx:p.funcs[j]?=some p.funcs[j]:=aY hjt;have hsm:=qQ (dW hjt);have htk:p.funcs.take (j+1)=p.funcs.take j++[p.funcs[j]]:=z8;generalize p.funcs[j]=x at *;obtain⟨J,ps,ls,bd,vl⟩:=x;simp only[Fu.sz]at hsm;have hlp:=zdI ps;have hll:=zdI ls;have hFc:(Fu.mk J ps ls bd vl).cells=[.str J,zbP ps,zbP ls,.lst (bd.map St.cells),.int .i64 vl.kind,.int .i64 vl.n,.str vl.name,.int .i64 vl.op,.lst (vl.kids.map Ex.cells)]:=rfl;have kv:=ke v a vl ac;rw[sW vl,sW (zbc v a vl)]at kv;have kb:=ks v a f bd ac;have kN:=kn J f ac;have hout:(zbQ v a f (Fu.mk J ps ls bd vl)).cells=[.str (rn f J),.lst ((ps.map (rn v)).map fun s=>[.str s]),.lst ((ls.map (rn v)).map fun s=>[.str s]),.lst ((bd.map (zbr v a f)).map St.cells),.int .i64 (zbc v a vl).kind,.int .i64 (zbc v a vl).n,.str (zbc v a vl).name,.int .i64 (zbc v a vl).op,.lst ((zbc v a vl).kids.map Ex.cells)]:=rfl;generalize zbc v a vl=V at *;generalize bd.map (zbr v a f)=bd2 at *;have gh0:=@Lz;have gh1:=@bFr;repeat' (first
     |(apply ai ?_;clear hK K)|apply Ry.o ?_|apply dD ?_|(apply jb ?_;first|refine zbV (kN _) ?_|refine zbV (kb _) ?_|refine zbV (kv _) ?_)|(apply bi (fun hb z=>?_) (fun hb z=>?_)<;>try(cases hb;done))|apply aq ?_|(apply zaW fun K hK=>?_)|(apply Ce 11 [0,1,2,4,5,6,7,8,10,11,12,13,16,3,9,14,15,17] [(1,13),(4,13),(4,14),(9,13),(9,14),(9,15),(12,13),(12,14),(12,15),(12,17)] fun K hK=>?_)|(apply zbK ?_;try intro _)|(apply zcr ?_ ?_<;>clear hK K)|apply cr ?_|apply zcX rfl ?_|apply aO ?_|apply za8 ?_|fail)
    .exact zck
    generalize hHb:Hp.set _ _ _=Hb;have nb:Z.next+2<=Hb.next:=Dy
    have gF:Hb.get Z.next=some (.cells [.str J,zbP ps,zbP ls,.lst (bd.map St.cells),.int .i64 vl.kind,.int .i64 vl.n,.str vl.name,.int .i64 vl.op,.lst (vl.kids.map Ex.cells)] 0 true):=by
     rw[<-hHb];simp only[aC,zaY,zbl,zbb,af (show ¬Z.next=Z.next+1 by omega),cZ]
    have gG:Hb.get (Z.next+1)=some (.cells [.str (rn f J),.nilS,.nilS,.lst (bd2.map St.cells),.int .i64 V.kind,.int .i64 V.n,.str V.name,.int .i64 V.op,.lst (V.kids.map Ex.cells)] 0 true):=by rw[<-hHb,aC,aj cN]
    have fb:∀q,q<Z.next->Hb.get q=Z.get q:=fun q I=>by
     rw[<-hHb];simp only[aC,zaY,zbl,zbb,af (show ¬q=Z.next by omega),af (show ¬q=Z.next+1 by omega)]
    clear hHb;refine zcj [4,5,6,7,8,12,13,58,59,60,81,82] [] 83 ps.length (fun k E H=>∃vp,H.get (Z.next+1)=some (.cells [.str (rn f J),vp,.nilS,.lst (bd2.map St.cells),.int .i64 V.kind,.int .i64 V.n,.str V.name,.int .i64 V.op,.lst (V.kids.map Ex.cells)] 0 true)/\zbN (fun q=>Z.next+2<=q) 1 H 1 vp ((ps.take k).map fun s=>[.str (rn v s)])/\∀q,q<Z.next+1->H.get q=Hb.get q) eE ⟨.nilS,gG,.inl ⟨rfl,aw⟩,fun _ _=>rfl⟩ ?_;clear gG;rintro k E5 O hk hcE hrH hnH hsI ⟨vp,gG,hwP,fP⟩;(try simp only[zbR,zbq,br,za4,zbg,Nat.reduceBEq, *]at hcE);(try simp only[zbq, *]at hrH);(try simp only[zbb,zbl,zb4,b4,Nat.reduceAdd]at hnH);have n5:Z.next+2<=O.next:=ac
    obtain⟨o5,o6⟩:=hwP.one;by_cases hkt:k<ps.length
    .have hkt':(k:Int)<ps.length:=by omega
     have hgs:ps[k]?=some ps[k]:=aY hkt;have hss:=yr (dW hkt);have htk2:ps.take (k+1)=ps.take k++[ps[k]]:=by rw[kI,hgs];rfl
     generalize ps[k]=s at *;have zdz:=kn s v ac;have hbs:=fun H=>Ly H (rn v s);have y1:(Z.next+1 == O.next)=false:=zbn ac;repeat' (first
      |(apply ai ?_;clear hK K)|apply Ry.o ?_|(apply jb ?_;first|refine zbV (zdz _) ?_)|(apply bi (fun hb z=>?_) (fun hb z=>?_)<;>try(cases hb;done))|apply aq ?_|(apply zaW fun K hK=>?_)|(apply zcy 15 [(1,4),(1,6),(5,6)] fun K hK=>?_)|(apply zbK ?_;try intro _)|apply cr ?_|apply aO ?_|apply za8 ?_|fail)
     generalize hH6:Hp.alloc O _=U;have n6:O.next+1<=U.next:=by rw[<-hH6];exact aA _
     have gr:U.get O.next=some (.cells [.str (rn v s)] 0 true):=by rw[<-hH6,zaY,aj cN]
     have k6:∀q,q<O.next->U.get q=O.get q:=fun q I=>by rw[<-hH6,zaY,af ac]
     clear hH6;have hw6:zbN (fun q=>Z.next+2<=q) 1 U 1 vp ((ps.take k).map fun s=>[.str (rn v s)]):=hwP.keep (fun _ _ h=>h) ac fun q _ h2=>k6 q h2;obtain⟨v7,C,a7,s7,n7,f7,q7⟩:=oh (P:=Try.prog) (t:=47) Try.underlying47 vx vy vz rfl ah (lo:=Z.next+2) hw6 ac (r:=O.next) (imm:=0) (row:=[.str (rn v s)]) (w:=[.str (rn v s)]) gr rfl rfl (.cons (.str _) .nil) lR lR;have k7:∀q,q<Z.next+2->C.get q=O.get q:=fun q I=>by rw[f7 q ac (hw6.not (.inl (by show ¬(Z.next+2<=q);omega)))];exact k6 q ac
     have g7:=(k7 (Z.next+1) ac).trans gG;have n7':O.next+1<=C.next:=ac
     have n67:U.next<=C.next:=ac
     obtain⟨u1,u2⟩:=s7.one;have gG6:=(k6 (Z.next+1) ac).trans gG;clear n7 f7 q7 k6;repeat' (first
      |(apply ai ?_;clear hK K)|apply Rx.o ?_|apply bN ?_|(apply zaW fun K hK=>?_)|(apply zbK ?_;try intro _)|(apply zcr ?_ ?_<;>clear hK K)|apply cr ?_|apply zcX rfl ?_|fail)
     .exact zck
     generalize hH8:Hp.set C _ _=H8;have n8:C.next<=H8.next:=by rw[<-hH8];exact aA _
     have g8:H8.get (Z.next+1)=some (.cells [.str (rn f J),v7,.nilS,.lst (bd2.map St.cells),.int .i64 V.kind,.int .i64 V.n,.str V.name,.int .i64 V.op,.lst (V.kids.map Ex.cells)] 0 true):=by rw[<-hH8,aC,aj rfl]
     have k8:∀q,q≠Z.next+1->H8.get q=C.get q:=fun q I=>by rw[<-hH8,aC,af I]
     clear hH8 g7 gr gG6 gG;refine⟨ac,zbw,zbw,eN,(by simp only[za4,Nat.reduceBEq, *];exact zc7 (n:=ps.length) ac ac),?_⟩;exact⟨v7,g8,by rw[htk2,jJ];exact s7.keep (fun _ _ h=>h) n8 fun q h1 _=>k8 q (by have:Z.next+2<=q:=h1;omega),fun q I=>by rw[k8 q ac,k7 q ac];exact fP q I⟩
    .have hkt':¬(k:Int)<ps.length:=by omega
     rw[eI ac]at hwP;have gF5:=(fP Z.next ac).trans gF;repeat' (first
      |(apply ai ?_;clear hK K)|apply Ry.o ?_|(apply bi (fun hb z=>?_) (fun hb z=>?_)<;>try(cases hb;done))|apply aq ?_|(apply zaW fun K hK=>?_)|apply aO ?_|apply zbW ?_)
     refine zcj [4,5,6,7,8,13,58,59,60,97,98] [] 99 ls.length (fun k E H=>∃vl2,H.get (Z.next+1)=some (.cells [.str (rn f J),vp,vl2,.lst (bd2.map St.cells),.int .i64 V.kind,.int .i64 V.n,.str V.name,.int .i64 V.op,.lst (V.kids.map Ex.cells)] 0 true)/\zbN (fun q=>O.next<=q) 1 H 1 vl2 ((ls.take k).map fun s=>[.str (rn v s)])/\∀q,q<O.next->q≠Z.next+1->H.get q=O.get q) eE ⟨.nilS,gG,.inl ⟨rfl,aw⟩,fun _ _ _=>rfl⟩ ?_;clear gG;rintro m E6 U hm hcE hrH hnH hsI ⟨vl2,gG,hwL,fL⟩;(try simp only[zbR,zbq,br,za4,zbg,Nat.reduceBEq, *]at hcE);(try simp only[zbq, *]at hrH);(try simp only[zbb,zbl,zb4,b4,Nat.reduceAdd]at hnH);have n6:O.next<=U.next:=ac
     obtain⟨o7,o8⟩:=hwL.one;by_cases hmt:m<ls.length
     .have hmt':(m:Int)<ls.length:=by omega
      have hgs:ls[m]?=some ls[m]:=aY hmt;have hss:=yr (dW hmt);have htk2:ls.take (m+1)=ls.take m++[ls[m]]:=by rw[kI,hgs];rfl
      generalize ls[m]=s at *;have zdz:=kn s v ac;have hbs:=fun H=>Ly H (rn v s);have y1:(Z.next+1 == U.next)=false:=zbn ac;repeat' (first
       |(apply ai ?_;clear hK K)|apply Ry.o ?_|(apply jb ?_;first|refine zbV (zdz _) ?_)|(apply bi (fun hb z=>?_) (fun hb z=>?_)<;>try(cases hb;done))|apply aq ?_|(apply zaW fun K hK=>?_)|(apply zcy 20 [(1,4),(1,6),(5,6)] fun K hK=>?_)|(apply zbK ?_;try intro _)|apply cr ?_|apply aO ?_|apply za8 ?_|fail)
      generalize L:Hp.alloc U _=C;have n7:U.next+1<=C.next:=DQ
      have gr:C.get U.next=some (.cells [.str (rn v s)] 0 true):=by rw[<-L,zaY,aj cN]
      have k7:∀q,q<U.next->C.get q=U.get q:=fun q I=>by rw[<-L,zaY,af ac]
      clear L;have hw7:zbN (fun q=>O.next<=q) 1 C 1 vl2 ((ls.take m).map fun s=>[.str (rn v s)]):=hwL.keep (fun _ _ h=>h) ac fun q _ h2=>k7 q h2;obtain⟨v8,H8,a8,s8,n8,f8,q8⟩:=oh (P:=Try.prog) (t:=47) Try.underlying47 vx vy vz rfl ah (lo:=O.next) hw7 ac (r:=U.next) (imm:=0) (row:=[.str (rn v s)]) (w:=[.str (rn v s)]) gr rfl rfl (.cons (.str _) .nil) lR lR;have k8:∀q,q<O.next->H8.get q=U.get q:=fun q I=>by rw[f8 q ac (hw7.not (.inl (by show ¬(O.next<=q);omega)))];exact k7 q ac
      have g8:=(k8 (Z.next+1) ac).trans gG;have n8':U.next+1<=H8.next:=ac
      have n78:C.next<=H8.next:=ac
      obtain⟨u1,u2⟩:=s8.one;have gG7:=(k7 (Z.next+1) ac).trans gG;clear n8 f8 q8 k7;repeat' (first
       |(apply ai ?_;clear hK K)|apply Rx.o ?_|apply bN ?_|(apply zaW fun K hK=>?_)|(apply zbK ?_;try intro _)|(apply zcr ?_ ?_<;>clear hK K)|apply cr ?_|apply zcX rfl ?_|fail)
      .exact zck
      generalize hH9:Hp.set H8 _ _=H9;have n9:H8.next<=H9.next:=by rw[<-hH9];exact aA _
      have g9:H9.get (Z.next+1)=some (.cells [.str (rn f J),vp,v8,.lst (bd2.map St.cells),.int .i64 V.kind,.int .i64 V.n,.str V.name,.int .i64 V.op,.lst (V.kids.map Ex.cells)] 0 true):=by rw[<-hH9,aC,aj rfl]
      have k9:∀q,q≠Z.next+1->H9.get q=H8.get q:=fun q I=>by rw[<-hH9,aC,af I]
      clear hH9 g8 gr gG7 gG;refine⟨ac,zbw,zbw,eN,(by simp only[za4,Nat.reduceBEq, *];exact zc7 (n:=ls.length) ac ac),?_⟩;exact⟨v8,g9,by rw[htk2,jJ];exact s8.keep (fun _ _ h=>h) n9 fun q h1 _=>k9 q (by have:O.next<=q:=h1;omega),fun q I h2=>by rw[k9 q h2,k8 q I];exact fL q I h2⟩
     .have hmt':¬(m:Int)<ls.length:=by omega
      rw[eI ac]at hwL;have g26:U.get 2=some (.cells [va,vf] 0 true):=by rw[fL 2 ac ac,fP 2 ac,fb 2 ac];exact g2
      have y2:(2 == U.next)=false:=zbn ac;have gh0:=@Lz;have gh1:=@zat;repeat' (first
       |(apply ai ?_;clear hK K)|apply Ry.o ?_|(apply bi (fun hb z=>?_) (fun hb z=>?_)<;>try(cases hb;done))|apply aq ?_|(apply zaW fun K hK=>?_)|apply zbW ?_)
      generalize L:Hp.alloc U _=C;have n7:U.next+1<=C.next:=DQ
      have gr:C.get U.next=some (.cells [.str (rn f J),vp,vl2,.lst (bd2.map St.cells),.int .i64 V.kind,.int .i64 V.n,.str V.name,.int .i64 V.op,.lst (V.kids.map Ex.cells)] 0 true):=by rw[<-L,zaY,aj cN]
      have k7:∀q,q<U.next->C.get q=U.get q:=fun q I=>by rw[<-L,zaY,af ac]
      clear L;have k4:∀q,q<Z.next->C.get q=Z.get q:=fun q I=>by rw[k7 q ac,fL q ac ac,fP q ac,fb q I]
      have hw7:zbN (fun q=>Y.next<=q) 3 C 9 vf ((p.funcs.take j).map fun y=>(zbQ v a f y).cells):=hwF.keep (fun _ _ h=>h) ac fun q _ h2=>k4 q h2;have hvf:∀q,Z.next<=q->∀o m z',vf≠.sl q o m z':=fun q I=>hwF.not (.inr I)
      have rP:dB (fun k=>Y.next<=k/\∀o m z',vf≠.sl k o m z') 3 C vp (.lst ((ps.map (rn v)).map fun s=>[.str s])):=by
       rw[ja];exact((hwP.keep (S':=fun k=>Y.next<=k/\∀o m z',vf≠.sl k o m z') (H':=C) (fun q h1 h2=>⟨by have:Z.next+2<=q:=h2;omega,hvf q (by have:Z.next+2<=q:=h2;omega)⟩) ac fun q h1 h2=>by have:Z.next+2<=q:=h1;rw[k7 q ac,fL q h2 ac]).rd).up ac
      have rL:dB (fun k=>Y.next<=k/\∀o m z',vf≠.sl k o m z') 3 C vl2 (.lst ((ls.map (rn v)).map fun s=>[.str s])):=by
       rw[ja];exact((hwL.keep (S':=fun k=>Y.next<=k/\∀o m z',vf≠.sl k o m z') (H':=C) (fun q h1 h2=>⟨by have:O.next<=q:=h2;omega,hvf q (by have:O.next<=q:=h2;omega)⟩) ac fun q h1 h2=>by rw[k7 q ac]).rd).up ac
      have hcell:zbI (fun k=>Y.next<=k/\∀o m z',vf≠.sl k o m z') 3 C [.str (rn f J),vp,vl2,.lst (bd2.map St.cells),.int .i64 V.kind,.int .i64 V.n,.str V.name,.int .i64 V.op,.lst (V.kids.map Ex.cells)] (zbQ v a f (Fu.mk J ps ls bd vl)).cells:=by
       rw[hout];exact .cons (.str _) (.cons rP (.cons rL (.cons (wh bd2) wO)))
      obtain⟨v9,H9,a9,s9,n9,f9,q9⟩:=oh (P:=Try.prog) (t:=40) Try.underlying40 BZ FQ FR rfl ah (lo:=Y.next) hw7 ac (r:=U.next) (imm:=0) (row:=[.str (rn f J),vp,vl2,.lst (bd2.map St.cells),.int .i64 V.kind,.int .i64 V.n,.str V.name,.int .i64 V.op,.lst (V.kids.map Ex.cells)]) (w:=(zbQ v a f (Fu.mk J ps ls bd vl)).cells) gr rfl (by simp only[pV,rr,o5,o7];rfl) hcell lR lR;have k9:∀q,q<Y.next->H9.get q=Z.get q:=fun q I=>by rw[f9 q ac (hw7.not (.inl (by show ¬(Y.next<=q);omega)))];exact k4 q ac
      have g9:=(k9 2 ac).trans g2;have n9':U.next+1<=H9.next:=ac
      obtain⟨u1,u2⟩:=s9.one;clear n9 f9 q9 n7 gr k7 hcell rP rL hvf g2 g26 y2;repeat' (first
       |(apply ai ?_;clear hK K)|apply Rx.o ?_|apply bN ?_|(apply zaW fun K hK=>?_)|fail)
      generalize hHc:Hp.set H9 _ _=Hc;have nc:H9.next<=Hc.next:=by rw[<-hHc];exact aA _
      have gc:Hc.get 2=some (.cells [va,v9] 0 true):=by rw[<-hHc,aC,aj rfl]
      have kc:∀q,q≠2->Hc.get q=H9.get q:=fun q I=>by rw[<-hHc,aC,af I]
      have gc0:Hc.get 0=Z.get 0:=(kc 0 ac).trans (k9 0 ac);have gc1:Hc.get 1=Z.get 1:=(kc 1 ac).trans (k9 1 ac);clear hHc g9;refine⟨ac,zbw,zbw,eN,qZ,?_⟩;exact⟨v9,gc,by rw[htk,jJ];exact s9.keep (fun _ _ h=>h) nc fun q h1 _=>kc q (by have:Y.next<=q:=h1;omega),fun q h1 h2=>by rw[kc q ac,k9 q h2];exact fA q h1 h2⟩
   .have hjt':¬(j:Int)<p.funcs.length:=by omega
    rw[eI ac]at hwF;have hwA4:zbN (fun k=>k≠1) 1 Z 2 va (p.arrays.map fun y=>(iS a y).cells):=hwA.keep (fun k _ h=>by have:=h.1;omega) n4 fun q h1 h2=>fA q h1.1 h1.2;have hwF4:zbN (fun k=>k≠1) 3 Z 9 vf (p.funcs.map fun y=>(zbQ v a f y).cells):=hwF.keep (fun k _ h=>by have:Y.next<=k:=h;omega) (aA _) fun _ _ _=>rfl;repeat' (first
     |(apply ai ?_;clear hK K)|apply Ry.o ?_|apply dD ?_|(apply bi (fun hb z=>?_) (fun hb z=>?_)<;>try(cases hb;done))|apply aq ?_|(apply zaW fun K hK=>?_)|apply aN ?_|apply zbW ?_)
    refine⟨za2,_,(by(try simp only[za4,zbg,Nat.reduceBEq,tyF,zb9,zch, *]);first|done|with_reducible rfl),?_⟩;try simp only[za0]
    refine zbI.madeR (S:=fun k=>k≠1) (n:=4) ?_ ac;have t1:dB (fun k=>k≠1) 4 (Z.set 1 (.cells [va,vf] 0 true)) va (.lst ((p.arrays.map (iS a)).map Ar.cells)):=by
     rw[ja];exact(hwA4.rd.keep2 (H':=Z.set 1 (.cells [va,vf] 0 true)) (fun _ _ h=>h) (aA _) fun k h1 _=>by rw[aC,af h1]).up ac
    have t2:dB (fun k=>k≠1) 4 (Z.set 1 (.cells [va,vf] 0 true)) vf (.lst ((p.funcs.map (zbQ v a f)).map Fu.cells)):=by
     rw[ja];exact hwF4.rd.keep2 (H':=Z.set 1 (.cells [va,vf] 0 true)) (fun _ _ h=>h) (aA _) fun k h1 _=>by rw[aC,af h1]
    exact .cons t1 (.cons t2 .nil)
 clear hK0;subst hv;subst ha;subst hf;repeat' (first
  |(apply ai ?_;clear hK K)|apply Rx.o ?_|(apply da (fun hg hgp=>?_) (fun hg hgp=>?_)<;>try(cases hg;done))|fail)
 all_goals refine⟨eE,eE,?_,?_,?_,rfl⟩
 all_goals (simp only[za4,Nat.reduceBEq, *];simp_all)
 done)
end
section
def tySnC.tyF:=ad @eJ (ad @cQ (ad @gU (@qN)))
open tySnC
noncomputable def Ap:{c:SC // aD 45 (Try.f34.body.getD .skip)=c}:=by
 refine⟨?_,?_⟩;rotate_left
 .simp only[Try.f34,bP,aD,zby,zbt,zbA,zbB,Nat.blt,Nat.ble];rfl
def sY(x:Nd×Nd):List AV:=[.agg x.1.cells,.agg x.2.cells]
theorem zwu(x y:Nd×Nd)(h:sY x=sY y):x=y:=by
 simp only[sY,ez,AV.agg.injEq,br]at h;exact vV (Nd.inj h.1) (Nd.inj h.2)
def Aq(x:Nd×Nd):Prop:=x.1.kids.length<2^60
theorem zwv{s w:List Int}(K:s.length=w.length){i:Nat}(z:i<s.length):decide (s.drop i=w.drop i)=(decide (s.getD i 0=w.getD i 0)&&decide (s.drop (i+1)=w.drop (i+1))):=by
 rw[hP z,hP (l:=w) ac];rw[eR,eR,aY z,aY (by omega:i<w.length)];simp only[bP,ez,Bool.decide_and]
theorem zlc(ρ:Nat->Int)(x:Nd×Nd)(hx:Aq x):cn Try.prog ρ 34 (sY x) (.bool (decide (x.1=x.2))):=zda fit (pls:=pls) (l:=[]) trivial (.cons (.agg (Nd.pure _)) (.cons (.agg (Nd.pure _)) .nil)) (.bool _) (by
 obtain⟨⟨o1,i1,s⟩,⟨o2,i2,w⟩⟩:=x;have O:=zc4 34;unfold Aq at hx;rw[sY];simp only[Nd.cells]at hx⊢;have hd:decide ((⟨o1,i1,s⟩:Nd)=⟨o2,i2,w⟩)=(decide (o1=o2)&&decide (i1=i2)&&decide (s=w)):=by
  simp[Bool.decide_and,vK]
 rw[hd];by_cases J:w.length=s.length
 .clear hd;refine zbs (M:=45) (rs:=[.tmp 4]) (O.call _) O.ice O.froz Try.func34 rfl rfl Ap.2 rfl ?_;dsimp only[Ap,zbj,Nat.reduceAdd];repeat' (first
   |(apply ai ?_;clear hK K)|apply Ry.o ?_|(apply kT (fun C Y=>?_) (fun C Y=>?_)<;>try(cases C;done))|(apply bi (fun o z=>?_) (fun o z=>?_)<;>try(cases o;done))|apply aq ?_|(apply zaW fun K hK=>?_)|apply aO ?_|apply za8 ?_|apply aN ?_|fail)
  all_goals first
   |(refine⟨za2,_,Cd,?_⟩;try simp only[za0]
     simp_all;done)
   |skip
  refine zcj [2,3] [0,1] 5 s.length (fun i E H=>decide (s=w)=decide (s.drop i=w.drop i)) eE aw ?_;rintro i E m hi g U j hsI L;(try simp only[zbR,zbq,br,za4,zbg,Nat.reduceBEq, *]at g);(try simp only[zbR,zbq,br,za4,zbg,Nat.reduceBEq, *]at U);(try simp only[zbb,zb4,b4,Nat.reduceAdd]at j);have hB0:(0 == m.next)=false:=zbn ac;have hC0:(m.next == 0)=false:=zbn ac;have hB1:(1 == m.next)=false:=zbn ac;have hC1:(m.next == 1)=false:=zbn ac;repeat' (first
   |(apply ai ?_;clear hK K)|apply Rx.o ?_|(apply bu (fun o z=>?_) (fun o z=>?_)<;>try(cases o;done))|apply aq ?_|(apply zaW fun K hK=>?_)|(apply zcy 6 [(1,11),(4,11),(6,11),(9,11)] fun K hK=>?_)|(apply zbK ?_;try intro _)|apply cr ?_|apply aO ?_|apply za8 ?_|apply aN ?_|apply zbW ?_)
  .have V:i<s.length:=by simpa using o
   have I:s[i]?=some s[i]:=aY V;have hgy:w[i]?=some (w[i]' ac):=aY ac;have Z:=zwv J.symm V;rw[eR,eR,I,hgy]at Z;simp only[bP]at Z;generalize s[i]=x at *;generalize w[i]' ac=y at *;repeat' (first
    |(apply ai ?_;clear hK K)|apply Rx.o ?_|(apply bu (fun o z=>?_) (fun o z=>?_)<;>try(cases o;done))|apply aq ?_|(apply zaW fun K hK=>?_)|(apply zbK ?_;try intro _)|(apply zcr ?_ ?_<;>clear hK K)|apply cr ?_|apply za8 ?_|apply aN ?_|fail)
   .exact zck
   .all_goals (refine⟨za2,_,za7,?_⟩;try simp only[za0])
    rw[L,Z];simp_all
   .refine⟨ac,zbw,zbw,eN,(by simp only[za4,Nat.reduceBEq, *];exact zc7 (n:=s.length) ac ac),?_⟩;rw[L,Z];simp_all
  .repeat' (first
    |(apply ai ?_;clear hK K)|fail)
   all_goals (refine⟨za2,_,za7,?_⟩;try simp only[za0])
   rw[L,show i=s.length by simp at o;omega,og,<-J,og];simp_all
 .have hne:¬s=w:=fun e=>J m0;have hl2:¬(s.length:Int)=w.length:=ac;clear hd;refine zbs (M:=45) (rs:=[.tmp 4]) (O.call _) O.ice O.froz Try.func34 rfl rfl Ap.2 rfl ?_;dsimp only[Ap,zbj,Nat.reduceAdd];repeat' (first
   |(apply ai ?_;clear hK K)|apply Ry.o ?_|(apply kT (fun C Y=>?_) (fun C Y=>?_)<;>try(cases C;done))|(apply bi (fun o z=>?_) (fun o z=>?_)<;>try(cases o;done))|apply aq ?_|(apply zaW fun K hK=>?_)|apply aN ?_|fail)
  all_goals
   refine⟨za2,_,Cd,?_⟩;try simp only[za0]
   rw[mp hne,oS])
noncomputable def wR:En:=⟨34,false,dA Aq sY fun x=>.bool (decide (x.1=x.2))⟩
theorem zww(ρ:Nat->Int):fk Try.prog ρ wR:=zcQ fun x I=>zlc ρ x I
theorem zaz{l:List En}(K:∀L,zcu l 34 L=wR.sp L)(a b:Nd)(h:a.kids.length<2^60)(H:Hp):za9 Try.prog (za3 pls l) 34 [.agg a.cells,.agg b.cells] H fun v H'=>v=.bool (decide (a=b))/\H'=H:=
 zcz (enc:=sY) (ok:=Aq) (out:=fun x=>.bool (decide (x.1=x.2))) zwu (x:=(a,b)) (K _) h
end
section
def tySuC.tyF:=ad @cQ (ad @cW (ad @qN (ad @lx (ad @ye (ad @BX (ad @kQ (ad @BY (ad @oM (ad @eJ (@gU))))))))))
open tySuC
noncomputable def LA:{c:SC // aD 27 (Try.f19.body.getD .skip)=c}:=by
 refine⟨?_,?_⟩;rotate_left
 .simp only[Try.f19,bP,aD,zby,zbt,zbA,zbB,Nat.blt,Nat.ble];rfl
def sZ(l:List Nd):List AV:=[oX l,oX l]
theorem zsR(x y:List Nd)(h:sZ x=sZ y):x=y:=by
 simp only[sZ,ez,br]at h;exact Vz h.1
theorem zjC(ρ:Nat->Int)(l:List Nd)(J:vM l):cn Try.prog ρ 19 (sZ l) (.bool true):=zda fit (pls:=pls) (l:=[wR]) ⟨zww ρ,trivial⟩ (.cons (GX _) (.cons (GX _) .nil)) (.bool _) (by
 obtain⟨hl1,U⟩:=J;have O:Plain (za3 pls [wR]) 19:=zcB (fun _=>rfl) rfl;rw[sZ];refine zbs (M:=27) (rs:=[.tmp 4]) (O.call _) O.ice O.froz Try.func19 rfl rfl LA.2 rfl ?_;dsimp only[LA,zbj,Nat.reduceAdd];repeat' (first
  |(apply ai ?_;clear hK K)|apply Ry.o ?_|(apply bi (fun o z=>?_) (fun o z=>?_)<;>try(cases o;done))|apply aq ?_|(apply zaW fun K hK=>?_)|apply aO ?_|apply za8 ?_|fail)
 refine zcj [0,1] [] 5 l.length (fun i E H=>True) eE trivial ?_;rintro i E H2 hi g V j C hJ;(try simp only[zbR,zbq,br,za4,zbg,Nat.reduceBEq, *]at g);(try simp only[zbq, *]at V);(try simp only[zb4,]at j);by_cases Z:i<l.length
 .have Y:(i:Int)<l.length:=by omega
  have hgx:l[i]?=some l[i]:=aY Z;have I:l[i].kids.length<2^60:=by have:=U _ (dW Z);omega
  have L:=fun H=>zaz (l:=[wR]) (fun _=>rfl) l[i] l[i] I H;generalize l[i]=m at *;simp only[mT]at L;repeat' (first
   |(apply ai ?_;clear hK K)|apply Ry.o ?_|(apply jb ?_;first|refine zbV (L _) ?_)|(apply bi (fun o z=>?_) (fun o z=>?_)<;>try(cases o;done))|apply aq ?_|(apply zaW fun K hK=>?_)|(apply zcy 6 [(3,8),(7,8)] fun K hK=>?_)|(apply zbK ?_;try intro _)|(apply zcr ?_ ?_<;>clear hK K)|apply cr ?_|apply aO ?_|apply za8 ?_|fail)
  all_goals first
   |exact zck
   |skip
  refine⟨ac,zbw,zbw,eN,C4,?_⟩;trivial
 .have Y:¬(i:Int)<l.length:=by omega
  repeat' (first
   |(apply ai ?_;clear hK K)|apply Ry.o ?_|(apply bi (fun o z=>?_) (fun o z=>?_)<;>try(cases o;done))|apply aq ?_|(apply zaW fun K hK=>?_)|apply aN ?_|apply zbW ?_)
  all_goals (refine⟨za2,_,za7,?_⟩;try simp only[za0]))
noncomputable def LB:En:=⟨19,false,dA vM sZ fun _=>.bool true⟩
theorem zsS(ρ:Nat->Int):fk Try.prog ρ LB:=zcQ fun x I=>zjC ρ x I
end
end Go.Proofs.Ytpbcimfiofmoeaa
namespace Go.Ab
set_option maxRecDepth 20000
open Go Go.WideShapes Go.Deep Go.RowKit Go.ChangeShapes
def wS(W:World):Nat->Nat->Option Value:=fun b o=>W.cell? ⟨b,o,none⟩
theorem zwx(W:World):∀b o v,wS W b o=some v->W.cell? ⟨b,o,none⟩=some v:=fun _ _ _ h=>h
section
variable {H:Type} {enc:TypeId × Value -> H} {P:Program} {W:World}
theorem zqn{r:Reach}{b0:Nat}{t e:TypeId}{k:IntKind}{v:Value}{d:DataW H}{ps:List MemPlace}{sp:Nat->Bool}{M:Bool}(ht:P.underlying t=some (.slice e))(he:P.underlying e=some (.int k))(hc:P.cellsOf e=1)(O:Value.okWide P W r b0 t v)(hd:DataW.Trod enc P W 0 sp M t v d ps)(β:Nat->Option (Nat×Nat×Nat))(ρ:Nat->Int):
 ∃l:List Int,VR ⟨β,wS W,ρ⟩ (.lst (l.map fun n=>[AV.int k n])) v/\l.length<=maxLen/\∀n∈l,(Lit.int k n).wf=true:=by
 obtain⟨zbp,mG,K,rfl⟩:=okWide_slice ht O;obtain⟨fuel,hf⟩:=hd;rcases open_slice1 ht hc hf with⟨h,_⟩|⟨a,len,cap,m,n,V,D,Pl,h,hb,hl,hm,hmm,hx,hV⟩
 .simp[Value.cells]at h;obtain⟨rfl,rfl,rfl⟩:=h;exact⟨[],.lst0 _ _,dg _,fun _ h=>absurd h aw⟩
 .simp[Value.cells]at h;obtain⟨rfl,rfl,rfl⟩:=h;have hlm:mG<=m:=by rw[hmm];split<;>omega
  have g:∀i,∃n:Int,i<mG->V i=.int k n/\(Lit.int k n).wf=true:=fun i=>by
   by_cases Z:i<mG
   .obtain⟨n',h1,_,h2⟩:=DataW.trod_int he (hV i ac).2;simp at h1;exact⟨n',fun _=>⟨h1,h2⟩⟩
   .exact⟨0,fun h=>absurd h Z⟩
  obtain⟨N,J⟩:=Classical.axiomOfChoice g;have hN:∀i,i<mG->V i=.int k (N i):=fun i h=>(J i h).1;refine⟨(List.range mG).map N,?_,cc,fun n hn=>by
   obtain⟨i,Z,rfl⟩:=kJ.1 hn;exact(J i (nP.1 Z)).2⟩
  by_cases h0:mG=0
  .subst h0;exact .lst0 _ _
  obtain⟨ab,ao,I⟩:=a;have U:I=none:=by
   have:=(hV 0 ac).1;simp only[Addr.add,cZ,World.cell?]at this;split at this
   .split at this
    .cases this
    .rename_i hn;cases I with
     |none=>rfl
     |some s=>simp at hn
   .cases this
  subst U;have L:(((List.range mG).map N).map fun n=>[AV.int k n]).length=mG:=aw;have C:=VR.lst (G:=⟨β,wS W,ρ⟩) (xs:=((List.range mG).map N).map fun n=>[AV.int k n]) (b:=ab) (o:=ao) (cap:=K) (z:=1) (fun i _=>V i) ?_ ?_ ?_ iD
  .rw[L]at C;exact C
  .intro i row hr;rw[gl]at hr;cases hq:((List.range mG).map N)[i]? with
   |none=>rw[hq]at hr;simp at hr
   |some q=>rw[hq]at hr;simp only[i8,az]at hr;rw[<-hr];rfl
  .intro i j Z hj;rw[L]at Z;have h2:=(hV i ac).1;show W.cell? ⟨ab,ao+i*1+j,none⟩=some (V i);have hj0:j=0:=ac;subst hj0;rw[<-h2]
   congr 1
   unfold Addr.add;split
   .rename_i h;subst h;rfl
   .simp
  .intro i j row c hr Y;rw[gl,gl]at hr;by_cases Z:i<mG
   .rw[List.getElem?_range Z]at hr;simp only[i8,az]at hr;subst hr;cases j with
    |zero=>
     simp only[pS,az]at Y;subst Y;show VR _ _ (V i);rw[hN i Z];exact .int k _
    |succ j=>simp at Y
   .rw[md cc]at hr;simp at hr
theorem zqo{t:TypeId}(V:laidOutB P=true)(hr:P.readableRec t=true)(g:t<P.types.size){C:World}{v:Value}{d:DataW H}{ps K:List MemPlace}
 (h:DataW.Trod enc P W 0 (fun _=>true) true t v d ps) (o:Below W.heap.size W C) (Z:∀p∈K,p.block<W.heap.size) (m:∀p∈ps,p∈K) {j:Nat->Bool} (Y:∀p∈K,j p.block=true) :
 DataW.Trod enc P C 0 j true t v d ps:=
 WideElems.Trod_stays V hr g h (fun x I=>o.same (Z x (m x I))) fun x I=>Y x (m x I)
end
end Go.Ab
namespace Go.Proofs.Ytpbcimfiofmoeaa
set_option maxRecDepth 20000
open Go Go.Ab
def oy(l:List Int):AV:=.lst (l.map fun n=>[.int .i64 n])
theorem LC:∀{a b:List Int},(a.map fun n=>[AV.int .i64 n])=(b.map fun n=>[AV.int .i64 n])->a=b
 |[],[],_=>rfl
 |[],_::_,h=>by simp at h
 |_::_,[],h=>by simp at h
 |x::a,y::b,h=>by
  simp only[dN,ez,AV.int.injEq,br,kK]at h;rw[h.1,LC h.2]
theorem zmV{a b:List Int}(h:oy a=oy b):a=b:=LC (by simpa only[oy,AV.lst.injEq]using h)
theorem LD(l:List Int):eL (oy l):=.map fun n _=>.cons (.int _ _) .nil
theorem zqp{n:Nat}(h:n<=maxLen):n<2^63:=sD h aS
theorem cells_int:Try.prog.cellsOf 3=1:=ah
set_option maxRecDepth 100000 in
theorem zoa{H:Type}{enc:TypeId×Value->H}{W:World}{J:Value}{r:Reach}{i:Nat}(k0:Value.okWide Try.prog W r i 23 J){d:DataW H}{ps:List MemPlace}{j:Nat->Bool}{M:Bool}(Z:DataW.Trod enc Try.prog W 0 j M 23 J d ps):∃l:List Int,VR ⟨fun _=>none,wS W,fun _=>0⟩ (oy l) J/\l.length<2^63/\∀n∈l,-9223372036854775808<=n/\n<9223372036854775808:=by
 obtain⟨l,Y,K,hr⟩:=zqn Try.underlying23 Try.underlying3 cells_int k0 Z (fun _=>none) (fun _=>0);refine⟨l,Y,zqp K,fun n hn=>?_⟩;have h:=hr n hn;have V:IntKind.min .i64=-9223372036854775808:=aS;have C:IntKind.max .i64=9223372036854775807:=aS;simp only[Lit.wf,i9,V,C]at h;omega
end Go.Proofs.Ytpbcimfiofmoeaa
