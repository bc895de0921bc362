/- Parts: K7, AbArg, Seeds, K8, K9, IntC, Bytes, V1, Spec6, Sem6, Rep6, Rep6c, L4b, V5, SemT, SpecL, LoK, RowN, SpecM, QaA. -/
import Derived.Deep.Slices
import Derived.Test.YtpbcimfiofmoeaaGreatRCL
import Derived.WideKeyArgs
import Derived.WideShapes
set_option linter.unusedSimpArgs false
set_option linter.unusedVariables false
set_option linter.unusedSectionVars false
set_option linter.defProp false
set_option maxHeartbeats 32000000
namespace Go.Ab
set_option maxRecDepth 20000
open Go
theorem LS{P:Prop}(h:P:=by rw[Hp.get_set,if_neg (by have:=(s4.b.lt hk).1;omega)]):P:=h
theorem dQ{P:Prop}(h:P:=by simp only[zef];omega):P:=h
theorem Fs{P:Prop}(h:P:=by rw[hkvr];exact zgg Tryz.underlying23 _ _ _ _):P:=h
theorem LU{P:Prop}(h:P:=by rw[hg _ o5 (.inl (Nat.le_refl _))];exact h.m):P:=h
theorem Ft{P:Prop}(h:P:=by have:=h.nS k hk;omega):P:=h
theorem Bt{P:Prop}(h:P:=by have:=h.sS k hk;omega):P:=h
theorem Fv{P:Prop}(h:P:=by have:=h.vS k hk;omega):P:=h
theorem yn{P:Prop}(h:P:=by rw[e];exact hown):P:=h
theorem Bu{P:Prop}(h:P:=by rw[Hp.get_set,if_neg ac];exact gq4):P:=h
def Fw:=@Classical.axiomOfChoice
def ur:=@Nat.lt_of_le_of_lt
def yo:=@Go.IntKind.wrap_u8
def LV:=@Int.fdiv_eq_ediv_of_nonneg
def yp:=@Go.IntKind.wrap_u64
def yq:=@List.flatMap_cons
def ol:=@List.prefix_refl
def gL:=And.intro @ir.{0,0} @aQ.{0}
end Go.Ab
namespace Go.Proofs.YtpbcimfiofmoeaaGreat
set_option maxRecDepth 20000
open Go Go.Ab
def tyK7.tyF:=ad @eI (ad @dC (ad @ge (ad @en (ad @jP (ad @oT (ad @ri (@Fq)))))))
open tyK7
noncomputable def LW:{c:SC // aS 111 (Tryz.f11.body.getD .skip)=c}:=by
 refine⟨?_,?_⟩;rotate_left
 .simp only[Tryz.f11,cj,aS,zen,zel,zeu,zev,Nat.blt,Nat.ble];rfl
theorem zaF(H:Hp):zfn Tryz.prog H 22 0 []=some (.sl H.next 0 0 3,H.alloc (.cells [] 0 true)):=aC
theorem Bv(H:Hp):zfn Tryz.prog H 23 0 []=some (.sl H.next 0 0 1,H.alloc (.cells [] 0 true)):=aC
theorem yr(l:List Nd):∀x∈l.map Nd.cells,x.length=3:=fun r hr=>by
 obtain⟨a,_,rfl⟩:=l0.1 hr;exact a.clen
theorem LX:∀l:List Nd,(l.map Nd.cells).flatten.all AV.one=true
 |[]=>rfl
 |a::l=>by rw[eF,kK,List.all_append,a.one,LX l];rfl
theorem zeA.nd{S:Nat->Prop}{n:Nat}{H:Hp}(x:Nd):zeA S (n+1) H x.cells x.cells:=by
 refine .cons (.int _ _) (.cons (.int _ _) (.cons ?_ .nil));exact .flat ⟨zgt _,trivial⟩ (zxa _)
theorem Fx{S:Nat->Prop}{n:Nat}{H:Hp}:∀l:List Nd,fb S (n+1) H 3 (l.map Nd.cells) (l.map Nd.cells)
 |[]=>trivial
 |a::l=>⟨⟨a.clen,zeA.nd a⟩,Fx l⟩
theorem zsZ{H:Hp}{v:AV}{l:List Int}{lo:Nat}(m:List Int)(hv:mQ H v l lo)(hlo:lo<=H.next)(hb:l.length+m.length<2^40):
 ∃v' H',zeZ Tryz.prog false H 23 23 v (zeG m)=some (v',H')/\mQ H' v' (l++m) lo/\H.next<=H'.next/\(∀k,k<lo->H'.get k=H.get k):=by
 by_cases hm:m=[]
 .subst hm;refine⟨v,H,?_,Ag,aM _,fun _ _=>rfl⟩;obtain⟨r,rfl,h2,_⟩:=hv;simp only[zeZ,Tryz.underlying23,gN,mM,mN,show zfT Tryz.prog 23=true by kernel_rfl,kP,zfz,nT,bN,fV]
 .obtain⟨v',H',h1,h2,h3,h4,_⟩:=At (.inr hv) hlo (Xz H m) hm hb;exact⟨v',H',h1,h2,ac,h4⟩
theorem zs0{P:Program}{t e:TypeId}{z b:Nat}{zz:List AV}(ht:P.underlying t=some (.slice e))(hs:zer P e=some z)(hb:zfg P e=some b)(hz:ze5 P e=some zz)(hzz:zz.length=z)(hsrc:zfT P t=true)
 {H:Hp}{q r imm:Nat}{rows:List (List AV)}{row:List AV} (hq:H.get q=some (.cells rows.flatten 0 true)) (hr3:∀x∈rows,x.length=z) (hg:H.get r=some (.cells row imm true)) (hrow:row.length=z) (hone:row.all AV.one=true) (hb1:(rows.length+1)*b<=zfw) (hb2:rows.length+1<=zfw) :
 zeZ P false H t t (.sl q 0 rows.length z) (.sl r 0 1 z)=some (.sl H.next 0 (rows.length+1) z,(H.kill q).alloc (.cells (rows.flatten++row) 0 true)):=by
 have hx:zfz H z (.sl r 0 1 z)=some (1,row):=by
  have:=tI (H:=H) (r:=r) (o:=0) (n:=1) (z:=z) (s:=z) hg Fa;rw[this,gD,iq ac]
 have hrl:=vD hr3;have htr:gW false H z (.sl q 0 rows.length z)=H:=by
  unfold gW;simp only[hq,bT];have:Nat.blt (rows.length*z) rows.flatten.length=false:=by
   cases hb:Nat.blt (rows.length*z) rows.flatten.length with
   |false=>rfl
   |true=>rw[iW]at hb;omega
  simp only[tL,r6,this,nU]
 simp only[zeZ,ht,hs,hb,hz,hsrc,hx,hone,htr,hzz,oR,bN,ja,hq,bT,gD,dS,bU];rw[aE ⟨hb1,hb2,ac,trivial,dE _⟩]
theorem zom{S:Nat->Prop}{r:Nat}{H:Hp}{kids:List Int}(h0:kids.length≠0)(hg:H.get r=some (.cells (kids.map (.int .i64)) 0 true))(hr:r<H.next)(hS:S r):
 ∃kv,zfW Tryz.prog 23 (.sl r 0 kids.length 1) (some (.int .i64 1)) none=some kv/\AV.one kv=true/\kv.cells=[kv]/\∀H',H.next<=H'.next->H'.get r=H.get r->fJ S 2 H' kv (zeG (kids.drop 1)):=by
 have e1:(1:Int)=Int.ofNat 1:=rfl;have hs:zfW Tryz.prog 23 (.sl r 0 kids.length 1) (some (.int .i64 1)) none=some (if 1=kids.length then .lst []else .sl r (0+1*1) (kids.length-1) 1):=by
  simp only[zfW,Tryz.underlying23,gN,e1,zfL];rw[aE ⟨ac,aM _,trivial⟩];split<;>rfl
 rw[hs];by_cases c:1=kids.length
 .rw[aE c];refine⟨_,rfl,rfl,rfl,fun H' _ _=>?_⟩;have:kids.drop 1=[]:=xI CQ;rw[this];exact fJ.lst0
 .rw[ah c];refine⟨_,rfl,rfl,rfl,fun H' hn hg'=>?_⟩;have hdl:(kids.drop 1).length=kids.length-1:=mC;refine⟨.lst (gY 1 (kids.length-1) ((kids.drop 1).map (.int .i64))),⟨hS,ac,_,0,true,(kids.drop 1).map (.int .i64),by rw[hg'];exact hg,dE _,by rw[dy];omega,?_,rfl⟩,fun m hm=>?_⟩
  .rw[<-EK,iq (by rw[dy,mC];omega)];exact EC _ _ _ _
  .rw[<-hdl,As];obtain⟨k,rfl⟩:∃k,m=k+2:=⟨m-2,ac⟩;exact AH k _
structure MutF (ws:List (List AV)) (w:List AV) (k:Nat) (E:aG) (H:Hp) (q:Nat) (rows:List (List AV)) (row:List AV):Prop where
 k7:E.at 7=.sl q 0 rows.length 3
 k8:E.at 8=.int .i64 k
 k9:∃r,E.at 9=.ptr r 0/\H.get r=some (.cells row 0 true)/\r≠q
 gq:H.get q=some (.cells rows.flatten 0 true)
 r3:∀x∈rows,x.length=3
 w3:row.length=3
 one:row.all AV.one=true
 rw_:fb (fun j=>j≠q) 2 H 3 rows ws
 cw:zeA (fun j=>j≠q) 2 H row w
 lt:q<H.next
structure MuX where
 l:List Nd
 how:Int
 a:Int
def ut(x:MuX):List AV:=[zfe x.l,.int .i64 x.how,.int .i64 x.a]
theorem zs1(x y:MuX)(h:ut x=ut y):x=y:=by
 obtain⟨a,b,c⟩:=x;obtain⟨a',b',c'⟩:=y;simp only[ut,eD,AV.int.injEq,lH]at h;rw[vK h.1,h.2.1,h.2.2]
def Fy(x:MuX):Prop:=zfi x.l/\x.l≠[]
set_option maxRecDepth 100000 in
theorem zoo(ρ:Nat->Int)(x:MuX)(hx:Fy x):bV Tryz.prog ρ 11 (ut x) (zfe (kx x.l x.how x.a)):=Bm (n:=60) (cfg:=zdW pls [lN]) fit (ly ρ) (fH.look ⟨vV ρ,trivial⟩) (.cons (mR _) (.cons (.int _ _) (.cons (.int _ _) .nil))) (by
 obtain⟨l,how,a⟩:=x;obtain⟨hl,hne⟩:=hx;simp only[]at hl hne;have hl1:=hl.1;have hw:Plain (zdW pls [lN]) 11:=zfv (fun _=>rfl) rfl;have hkeep:(zdW pls [lN]).keep 11=false:=rfl;have hlp:0<l.length:=yk.2 hne;have hr:=zfP (n:=a) (m:=l.length) ac ac;obtain⟨k,hk⟩:=gG hr.1;rw[hk]at hr;have hkl:k<l.length:=ac;have hgk:l[k]?=some (l.getD k ⟨0,0,[]⟩):=by rw[dM,br hkl];rfl
 have hnk:(l.getD k ⟨0,0,[]⟩).kids.length<2^30:=by
  have:=lw hgk;exact hl.2 _ this
 have hmut:kx l how a=(if zei how 10=5 then l++[l.getD k ⟨0,0,[]⟩]else l).set k (uo l (l.getD k ⟨0,0,[]⟩) how a):=by
  rw[kx,ah hne,hk,gH]
 generalize hn:l.getD k ⟨0,0,[]⟩=n at *;rw[ut];simp only[];have hlne:(l.length:Int)≠0:=ac;refine zed (M:=111) (rs:=[.tmp 6]) (hw.call _) hw.ice hw.froz Tryz.func11 rfl rfl LW.2 rfl ?_;dsimp only[LW,zd8,Nat.reduceAdd];have gh0:=@zaF;repeat' (first
  |(apply au ?_;clear hK K)|apply Rx.o ?_|apply ba ?_|apply am ?_|(apply zdQ fun K hK=>?_)|(apply zdP 13 [(1,7),(1,10),(5,7),(9,10)] fun K hK=>?_)|(apply zdP 16 [(1,7),(1,13),(1,16),(5,7),(6,7),(11,7),(11,13)] fun K hK=>?_)|(apply zdU ?_;try intro _)|(apply zdV ?_ ?_<;>clear hK K)|apply aH ?_|apply zd9 rfl ?_|apply aA ?_|apply zdR ?_|apply aB ?_)
 obtain⟨q,H1,a1,gq,hq1,hq2,zfm,n1',o1⟩:=zsY (P:=Tryz.prog) (t:=22) (H:=zeo.alloc (.cells [] 0 true)) (q:=0) Tryz.underlying22 oW vp vq rfl aC xX (by rw[zea];omega) (rows:=l.map Nd.cells) (yr l) (LX l) vY vY;refine ji eV eV (by rw[hkeep];exact a1) ?_;have hrow:(l.map Nd.cells)[k]?=some n.cells:=by rw[fF,hgk];rfl
 have hagg:=LN (yr l) hrow;repeat' (first
  |(apply au ?_;clear hK K)|apply Ry.o ?_|apply cD ?_|(apply dq ?_;first|refine Rx.k (zfZ (fun _=>rfl) _ _ hlne _) ?_)|(apply aV (fun hb hbp=>?_) (fun hb hbp=>?_)<;>try(cases hb;done))|apply am ?_|(apply zdQ fun K hK=>?_)|(apply zdP 13 [(1,7),(1,10),(5,7),(9,10)] fun K hK=>?_)|(apply zdP 16 [(1,7),(1,13),(1,16),(5,7),(6,7),(11,7),(11,13)] fun K hK=>?_)|(apply zdU ?_;try intro _)|(apply zdV ?_ ?_<;>clear hK K)|apply aH ?_|apply zd9 rfl ?_|apply aA ?_|apply zdR ?_|apply aB ?_)
 generalize hHb:Hp.set (Hp.alloc H1 _) _ _=H2;have n2:H1.next+1<=H2.next:=by rw[<-hHb];exact aM _
 have g9:H2.get H1.next=some (.cells [.int .i64 n.op,.int .i64 n.imm,zeG n.kids] 0 true):=by rw[<-hHb,bz,aE rfl];rfl
 have gq2:H2.get q=some (.cells (l.map Nd.cells).flatten 0 true):=by rw[<-hHb,bz,ah ac,zd1,ah ac];exact gq
 have hq9:q<H1.next:=hq2
 clear hHb a1 o1 zfm n1' hq1 hq2 gq hagg hrow;obtain⟨kv,H3,a3,s3,n3,o3⟩:=zsZ (H:=H2.alloc (.cells [] 0 true)) (v:=.sl H2.next 0 0 1) (l:=[]) (lo:=H2.next) n.kids ⟨H2.next,rfl,ev,aM _,cL _⟩ (cZ _) cT;rw[nH]at s3;have n3':H2.next+1<=H3.next:=n3
 have g93:H3.get H1.next=some (.cells [.int .i64 n.op,.int .i64 n.imm,zeG n.kids] 0 true):=by rw[o3 _ ac,zd1,ah ac];exact g9
 have gq3:H3.get q=some (.cells (l.map Nd.cells).flatten 0 true):=by rw[o3 _ ac,zd1,ah ac];exact gq2
 have hkv1:AV.one kv=true/\kv.cells=[kv]:=by obtain⟨r,rfl,_⟩:=s3;exact⟨rfl,rfl⟩
 obtain⟨hkv1,hkv2⟩:=hkv1;have e1:(H1.next == H2.next)=false:=zeq ac;clear n3 o3 gq2;have gh0:=@Bv;repeat' (first
  |(apply au ?_;clear hK K)|apply Rx.o ?_|apply ba ?_|(apply eu ?_;first|refine Rx.k (zfZ (fun _=>rfl) _ _ aY _) ?_)|apply am ?_|(apply zdQ fun K hK=>?_)|(apply zdP 13 [(1,7),(1,10),(5,7),(9,10)] fun K hK=>?_)|(apply zdP 16 [(1,7),(1,13),(1,16),(5,7),(6,7),(11,7),(11,13)] fun K hK=>?_)|(apply zdU ?_;try intro _)|(apply zdV ?_ ?_<;>clear hK K)|apply aH ?_|apply zd9 rfl ?_|apply aA ?_|apply zdR ?_|apply aB ?_)
 generalize hHb:Hp.set H3 _ _=H4;have n4:H4.next=H3.next:=yj
 have g94:H4.get H1.next=some (.cells [.int .i64 n.op,.int .i64 n.imm,kv] 0 true):=yc
 have gq4:H4.get q=some (.cells (l.map Nd.cells).flatten 0 true):=by rw[<-hHb,bz,ah ac];exact gq3
 have s4:mQ H4 kv n.kids H2.next:=s3.keep ac fun k hk=>by rw[<-hHb,bz,ah (by have:=(s3.b.lt hk).1;omega)]
 have n4':H1.next+1<=H4.next:=ac
 have nq4:q<H4.next:=ac
 have nq2:H1.next<H2.next:=ac
 clear hHb a3 s3 g93 gq3 g9 n2 n3' n4 e1;obtain⟨m,hm⟩:∃m,zei how 10=m:=⟨_,rfl⟩;have hmr:=zfP (n:=how) (m:=10) ac ac;rw[hm]at hmr hmut;have hmn:uo l n how a=if m=0 then ⟨zei (cq (how.tdiv 10)) 36-1,n.imm,n.kids⟩
  else if m=1 then ⟨n.op,zei (cq (how.tdiv 10)) 300-3,n.kids⟩
  else if m=2 then ⟨n.op,n.imm,n.kids++[zei (cq (how.tdiv 10)) (l.length+2)-1]⟩
  else if m=3 then (if n.kids=[]then n else ⟨n.op,n.imm,n.kids.set (zei (cq (how.tdiv 10)) n.kids.length).toNat (zei (cq (a.tdiv 3)) (l.length+2)-1)⟩)
  else if m=4 then ⟨n.op,n.imm,n.kids.drop 1⟩
  else if m=6 then ⟨3,zei (cq (how.tdiv 10)) 40,[]⟩
  else n:=by rw[uo,hm]
 generalize uo l n how a=w at *;have q10:(10:Int)≠0:=aY;have q3:(3:Int)≠0:=aY;have hml:∀S,fb (fun j=>j≠q) 2 S 3 (l.map Nd.cells) (l.map Nd.cells):=fun S=>Fx l;have hlm:(l.map Nd.cells).length=l.length:=dy _;refine vL (fun E' H'=>∃q' rows row,MutF ((if m=5 then l++[n]else l).map Nd.cells) w.cells k E' H' q' rows row) ?_ ?_
 .have hS:∀(kv':AV) (kids:List Int) (o i:Int) (H:Hp),ze0 H kv' kids H2.next->zeA (fun j=>j≠q) 2 H [.int .i64 o,.int .i64 i,kv'] (Nd.mk o i kids).cells:=fun kv' kids o i H h=>LP o i h fun k hk=>by omega
  have ho3:∀(o i:Int) (kv':AV),AV.one kv'=true->([.int .i64 o,.int .i64 i,kv']:List AV).all AV.one=true:=fun o i kv' h=>by
   show(true&&(true&&(AV.one kv'&&true)))=true;rw[h];rfl
  have hfin:∀(E:aG) (o i:Int) (kv':AV) (kids:List Int) (Hx:Hp),E.at 7=.sl q 0 l.length 3->E.at 8=.int .i64 k->E.at 9=.ptr H1.next 0->Hx.get H1.next=some (.cells [.int .i64 o,.int .i64 i,kv'] 0 true)->Hx.get q=some (.cells (l.map Nd.cells).flatten 0 true)->AV.one kv'=true->zeA (fun j=>j≠q) 2 Hx [.int .i64 o,.int .i64 i,kv'] (Nd.mk o i kids).cells->q<Hx.next->m≠5->w=⟨o,i,kids⟩->∃q' rows row,MutF ((if m=5 then l++[n]else l).map Nd.cells) w.cells k E Hx q' rows row:=fun E o i kv' kids Hx h7 h8 h9 hg hq h1 hc hlt h5 hw=>by
   subst hw;exact⟨q,l.map Nd.cells,[.int .i64 o,.int .i64 i,kv'],⟨by rw[hlm];exact h7,h8,⟨H1.next,h9,hg,ac⟩,hq,yr l,rfl,ho3 _ _ _ h1,by rw[ah h5];exact hml _,hc,hlt⟩⟩
  by_cases c0:m=0
  .have hr0:=zfP (n:=cq (how.tdiv 10)) (m:=36) ac ac;obtain⟨p,hp⟩:∃p,zei (cq (how.tdiv 10)) 36=p:=⟨_,rfl⟩;have hp':zei (IntKind.wrap .i64 (how.tdiv 10)) 36=p:=hp;rw[aE c0,hp]at hmn;rw[hp]at hr0;have ew:IntKind.wrap .i64 (p-1)=p-1:=zft ac ac;clear hp;repeat' (first
    |(apply au ?_;clear hK K)|apply Ry.o ?_|apply cD ?_|(apply dq ?_;first|refine Rx.k (zfZ (fun _=>rfl) _ _ aY _) ?_)|(apply aV (fun hb hbp=>?_) (fun hb hbp=>?_)<;>try(cases hb;done))|apply am ?_|(apply zdQ fun K hK=>?_)|(apply zdP 13 [(1,7),(1,10),(5,7),(9,10)] fun K hK=>?_)|(apply zdP 16 [(1,7),(1,13),(1,16),(5,7),(6,7),(11,7),(11,13)] fun K hK=>?_)|(apply zdU ?_;try intro _)|(apply zdV ?_ ?_<;>clear hK K)|apply aH ?_|apply zd9 rfl ?_|apply aA ?_|apply zdR ?_|apply aB ?_)
   exact⟨rfl,hfin _ (p-1) n.imm kv n.kids _ eE eE eE ft Bu hkv1 (hS _ _ _ _ _ (.inr (s4.b.keep (aM _) fun k hk=>LS))) nq4 ac hmn⟩
  rw[ah c0]at hmn;by_cases c1:m=1
  .have hr0:=zfP (n:=cq (how.tdiv 10)) (m:=300) ac ac;obtain⟨p,hp⟩:∃p,zei (cq (how.tdiv 10)) 300=p:=⟨_,rfl⟩;have hp':zei (IntKind.wrap .i64 (how.tdiv 10)) 300=p:=hp;rw[aE c1,hp]at hmn;rw[hp]at hr0;have ew:IntKind.wrap .i64 (p-3)=p-3:=zft ac ac;clear hp;repeat' (first
    |(apply au ?_;clear hK K)|apply Ry.o ?_|apply cD ?_|(apply dq ?_;first|refine Rx.k (zfZ (fun _=>rfl) _ _ aY _) ?_)|(apply aV (fun hb hbp=>?_) (fun hb hbp=>?_)<;>try(cases hb;done))|apply am ?_|(apply zdQ fun K hK=>?_)|(apply zdP 13 [(1,7),(1,10),(5,7),(9,10)] fun K hK=>?_)|(apply zdP 16 [(1,7),(1,13),(1,16),(5,7),(6,7),(11,7),(11,13)] fun K hK=>?_)|(apply zdU ?_;try intro _)|(apply zdV ?_ ?_<;>clear hK K)|apply aH ?_|apply zd9 rfl ?_|apply aA ?_|apply zdR ?_|apply aB ?_)
   exact⟨rfl,hfin _ n.op (p-3) kv n.kids _ eE eE eE ft Bu hkv1 (hS _ _ _ _ _ (.inr (s4.b.keep (aM _) fun k hk=>LS))) nq4 ac hmn⟩
  rw[ah c1]at hmn;have hl2:(l.length:Int)+2≠0:=ac;have ew2:IntKind.wrap .i64 ((l.length:Int)+2)=(l.length:Int)+2:=zft ac ac;by_cases c2:m=2
  .have hr0:=zfP (n:=cq (how.tdiv 10)) (m:=(l.length:Int)+2) ac ac;obtain⟨p,hp⟩:∃p,zei (cq (how.tdiv 10)) ((l.length:Int)+2)=p:=⟨_,rfl⟩;have hp':zei (IntKind.wrap .i64 (how.tdiv 10)) ((l.length:Int)+2)=p:=hp;rw[aE c2,hp]at hmn;rw[hp]at hr0;have ew:IntKind.wrap .i64 (p-1)=p-1:=zft ac ac;clear hp;have hvb:ze0 (H4.alloc (.cells [.int .i64 (p-1)] 0 true)) kv n.kids H2.next:=.inr (s4.b.keep (cZ _) fun k hk=>by rw[zd1,ah (by have:=(s4.b.lt hk).2;omega)])
   have hH24:H2.next<=H4.next:=by obtain⟨r,_,_,h1,h2⟩:=s4;omega
   obtain⟨v5,H5,a5,s5,n5,f5,o5⟩:=pi (r:=H4.next) (imm:=0) (p-1) hvb fx eR ac;have n5':H4.next+1<=H5.next:=pm
   have g95:H5.get H1.next=some (.cells [.int .i64 n.op,.int .i64 n.imm,kv] 0 true):=by rw[f5 _ ac,zd1,ah ac];exact g94
   have gq5:H5.get q=some (.cells (l.map Nd.cells).flatten 0 true):=by rw[f5 _ ac,zd1,ah ac];exact gq4
   have h1v5:AV.one v5=true/\v5.cells=[v5]:=by obtain⟨r,imm,rfl,_⟩:=s5;exact⟨rfl,rfl⟩
   obtain⟨hv51,hv52⟩:=h1v5;have e1:(H1.next == H4.next)=false:=zeq ac;clear n5 f5 o5 hvb;repeat' (first
    |(apply au ?_;clear hK K)|apply Ry.o ?_|apply cD ?_|(apply dq ?_;first|refine Rx.k (zfZ (fun _=>rfl) _ _ hl2 _) ?_)|(apply aV (fun hb hbp=>?_) (fun hb hbp=>?_)<;>try(cases hb;done))|apply am ?_|(apply zdQ fun K hK=>?_)|(apply zdP 13 [(1,7),(1,10),(5,7),(9,10)] fun K hK=>?_)|(apply zdP 16 [(1,7),(1,13),(1,16),(5,7),(6,7),(11,7),(11,13)] fun K hK=>?_)|(apply zdU ?_;try intro _)|(apply zdV ?_ ?_<;>clear hK K)|apply aH ?_|apply zd9 rfl ?_|apply aA ?_|apply zdR ?_|apply aB ?_)
   .exact eK
   .exact⟨rfl,hfin _ n.op n.imm v5 (n.kids++[p-1]) _ eE eE eE ft (by rw[bz,ah ac];exact gq5) hv51 (hS _ _ _ _ _ (.inr (s5.keep (aM _) fun k hk=>by rw[bz,ah EQ]))) dQ ac hmn⟩
  rw[ah c2]at hmn;have hd0:∀(Hx:Hp),mQ Hx kv n.kids H2.next->zeA (fun j=>j≠q) 2 Hx [.int .i64 n.op,.int .i64 n.imm,kv] (Nd.mk n.op n.imm n.kids).cells:=fun Hx h=>hS _ _ _ _ _ (.inr h.b)
  by_cases c3:m=3
  .rw[aE c3]at hmn;by_cases hke:n.kids=[]
   .rw[aE hke]at hmn;obtain⟨r,hkvr,gr,lr,rl⟩:=s4;have hlen0:n.kids.length=0:=by rw[hke];rfl
    have hz:=hd0 H4 ⟨r,hkvr,gr,lr,rl⟩;rw[hlen0]at hkvr;have hlk:zeR Tryz.prog H4 23 kv=some (.int .i64 0):=Fs;clear hkvr;repeat' (first
     |(apply au ?_;clear hK K)|apply Ry.o ?_|apply cD ?_|(apply aV (fun hb hbp=>?_) (fun hb hbp=>?_)<;>try(cases hb;done))|apply am ?_|(apply zdQ fun K hK=>?_)|(apply zdP 13 [(1,7),(1,10),(5,7),(9,10)] fun K hK=>?_)|(apply zdP 16 [(1,7),(1,13),(1,16),(5,7),(6,7),(11,7),(11,13)] fun K hK=>?_)|(apply zdU ?_;try intro _)|(apply zdV ?_ ?_<;>clear hK K)|apply aH ?_|apply zd9 rfl ?_|apply aA ?_|apply zdR ?_|apply aB ?_)
    exact⟨rfl,hfin _ n.op n.imm kv n.kids _ eE eE eE g94 gq4 hkv1 hz nq4 ac hmn⟩
   .rw[ah hke]at hmn;have hlp2:0<n.kids.length:=yk.2 hke;have hkne:(n.kids.length:Int)≠0:=ac;have hr1:=zfP (n:=cq (how.tdiv 10)) (m:=n.kids.length) ac ac;obtain⟨p1,hp1⟩:=gG hr1.1;have hp1':zei (IntKind.wrap .i64 (how.tdiv 10)) n.kids.length=p1:=hp1;have hr2:=zfP (n:=cq (a.tdiv 3)) (m:=(l.length:Int)+2) ac ac;obtain⟨p2,hp2⟩:∃p,zei (cq (a.tdiv 3)) ((l.length:Int)+2)=p:=⟨_,rfl⟩;have hp2':zei (IntKind.wrap .i64 (a.tdiv 3)) ((l.length:Int)+2)=p2:=hp2;rw[hp1,hp2,gH]at hmn;rw[hp1]at hr1;rw[hp2]at hr2;have ew:IntKind.wrap .i64 (p2-1)=p2-1:=zft ac ac;have hp1l:p1<n.kids.length:=ac;clear hp1 hp2;obtain⟨r,hkvr,gr,lr,rl⟩:=s4;have hlk:∀H:Hp,zeR Tryz.prog H 23 kv=some (.int .i64 n.kids.length):=fun H=>Fs;have hix:zeE Tryz.prog 23 kv (.int .i64 (p1:Int))=some (.ptr r p1):=by rw[hkvr,mL Tryz.underlying23 gN hp1l];simp
    have hgt:(0:Int)<n.kids.length:=ac;have er:(H1.next == r)=false:=zeq ac;repeat' (first
     |(apply au ?_;clear hK K)|apply Ry.o ?_|apply cD ?_|(apply dq ?_;first|refine Rx.k (zfZ (fun _=>rfl) _ _ hkne _) ?_|refine Rx.k (zfZ (fun _=>rfl) _ _ hl2 _) ?_)|(apply aV (fun hb hbp=>?_) (fun hb hbp=>?_)<;>try(cases hb;done))|apply am ?_|(apply zdQ fun K hK=>?_)|(apply zdP 13 [(1,7),(1,10),(5,7),(9,10)] fun K hK=>?_)|(apply zdP 16 [(1,7),(1,13),(1,16),(5,7),(6,7),(11,7),(11,13)] fun K hK=>?_)|(apply zdU ?_;try intro _)|(apply zdV ?_ ?_<;>clear hK K)|apply aH ?_|apply zd9 rfl ?_|apply aA ?_|apply zdR ?_|apply aB ?_)
    refine oS eV eV (vE gr (by rw[dy];exact hp1l) _) ?_;repeat' (first
     |(apply au ?_;clear hK K)|apply Rx.o ?_|apply ba ?_|apply am ?_|(apply zdQ fun K hK=>?_)|(apply zdP 13 [(1,7),(1,10),(5,7),(9,10)] fun K hK=>?_)|(apply zdP 16 [(1,7),(1,13),(1,16),(5,7),(6,7),(11,7),(11,13)] fun K hK=>?_)|(apply zdU ?_;try intro _)|(apply zdV ?_ ?_<;>clear hK K)|apply aH ?_|apply zd9 rfl ?_|apply aA ?_|apply zdR ?_|apply aB ?_)
    .exact eK
    .refine⟨rfl,hfin _ n.op n.imm kv (n.kids.set p1 (p2-1)) _ eE eE eE (by rw[bz,ah ac];exact g94) Bu hkv1 (hS _ _ _ _ _ (.inr ⟨r,0,by rw[iS];exact hkvr,by rw[bz,aE rfl,re],dE _,lr,rl⟩)) nq4 ac hmn⟩
  rw[ah c3]at hmn;by_cases c4:m=4
  .rw[aE c4]at hmn;obtain⟨r,hkvr,gr,lr,rl⟩:=s4;have hz:=hd0 H4 ⟨r,hkvr,gr,lr,rl⟩;have hlk:∀H:Hp,zeR Tryz.prog H 23 kv=some (.int .i64 n.kids.length):=fun H=>Fs;by_cases hke:n.kids.length=0
   .have hgt:¬(0:Int)<n.kids.length:=by omega
    have hke2:n.kids.drop 1=n.kids:=by rw[xI hke];rfl
    rw[hke2]at hmn;clear hke;repeat' (first
     |(apply au ?_;clear hK K)|apply Ry.o ?_|apply cD ?_|(apply aV (fun hb hbp=>?_) (fun hb hbp=>?_)<;>try(cases hb;done))|apply am ?_|(apply zdQ fun K hK=>?_)|(apply zdP 13 [(1,7),(1,10),(5,7),(9,10)] fun K hK=>?_)|(apply zdP 16 [(1,7),(1,13),(1,16),(5,7),(6,7),(11,7),(11,13)] fun K hK=>?_)|(apply zdU ?_;try intro _)|(apply zdV ?_ ?_<;>clear hK K)|apply aH ?_|apply zd9 rfl ?_|apply aA ?_|apply zdR ?_|apply aB ?_)
    exact⟨rfl,hfin _ n.op n.imm kv n.kids _ eE eE eE g94 gq4 hkv1 hz nq4 ac hmn⟩
   .have hgt:(0:Int)<n.kids.length:=by omega
    obtain⟨kv5,hsl,h51,h52,hc5⟩:=zom (S:=fun j=>j≠q) (r:=r) (H:=H4) (kids:=n.kids) ac gr rl ac;have hslH:∀H:Hp,my Tryz.prog H 23 kv (some (.int .i64 1)) none=some kv5:=fun H=>by rw[hkvr];exact hsl
    clear hsl hkvr;repeat' (first
     |(apply au ?_;clear hK K)|apply Ry.o ?_|apply cD ?_|(apply aV (fun hb hbp=>?_) (fun hb hbp=>?_)<;>try(cases hb;done))|apply am ?_|(apply zdQ fun K hK=>?_)|(apply zdP 13 [(1,7),(1,10),(5,7),(9,10)] fun K hK=>?_)|(apply zdP 16 [(1,7),(1,13),(1,16),(5,7),(6,7),(11,7),(11,13)] fun K hK=>?_)|(apply zdU ?_;try intro _)|(apply zdV ?_ ?_<;>clear hK K)|apply aH ?_|apply zd9 rfl ?_|apply aA ?_|apply zdR ?_|apply aB ?_)
    exact⟨rfl,hfin _ n.op n.imm kv5 (n.kids.drop 1) _ eE eE eE ft Bu h51 (.cons (.int _ _) (.cons (.int _ _) (.cons (hc5 _ dQ iA) .nil))) nq4 ac hmn⟩
  rw[ah c4]at hmn;by_cases c5:m=5
  .rw[ah ac]at hmn;have hcw:∀Hx:Hp,H4.next<=Hx.next->(∀k,H2.next<=k->k<H4.next->Hx.get k=H4.get k)->zeA (fun j=>j≠q) 2 Hx [.int .i64 n.op,.int .i64 n.imm,kv] n.cells:=fun Hx h1 h2=>hS kv n.kids n.op n.imm Hx (.inr (s4.b.keep h1 fun k hk=>h2 k (s4.b.lt hk).1 (s4.b.lt hk).2))
   have hone:=ho3 n.op n.imm kv hkv1;have kbs:=fun H=>Bn H (cs:=[.int .i64 n.op,.int .i64 n.imm,kv]) rfl hone;have hH24:H2.next<=H4.next:=by obtain⟨r,_,_,h1,h2⟩:=s4;omega
   have a5:=zs0 (P:=Tryz.prog) (t:=22) (H:=H4.alloc (.cells [.int .i64 n.op,.int .i64 n.imm,kv] 0 true)) (q:=q) (r:=H4.next) (imm:=0) (rows:=l.map Nd.cells) (row:=[.int .i64 n.op,.int .i64 n.imm,kv]) Tryz.underlying22 oW vp vq rfl aC (by rw[zd1,ah ac];exact gq4) (yr l) eR rfl hone vY vY;rw[hlm]at a5;generalize hHc:Hp.alloc (Hp.kill (H4.alloc _) _) _=H5 at a5;have n5:H4.next+2<=H5.next:=by rw[<-hHc];exact aM _
   have g5:H5.get (H4.next+1)=some (.cells ((l.map Nd.cells).flatten++[.int .i64 n.op,.int .i64 n.imm,kv]) 0 true):=by rw[<-hHc,zd1,aE (by simp only[zgy,zea])]
   have o5:∀j,j<H4.next->j≠q->H5.get j=H4.get j:=fun j hj hjq=>by rw[<-hHc,zd1,ah (by simp only[zgy,zea];omega),zfU,ah hjq,zd1,ah ac]
   clear hHc;have g95:H5.get H1.next=some (.cells [.int .i64 n.op,.int .i64 n.imm,kv] 0 true):=by rw[o5 _ ac ac];exact g94
   rw[zea]at a5;obtain⟨rk,hkvr,grk,lrk,rrk⟩:=s4;have hrd5:fJ (fun j=>j≠H4.next+1) 2 H5 kv (zeG n.kids):=by
    rw[hkvr];exact Fp n.kids ac ac (by rw[o5 rk rrk ac];exact grk) (dE _)
   have hcw5:zeA (fun j=>j≠H4.next+1) 2 H5 [.int .i64 n.op,.int .i64 n.imm,kv] n.cells:=.cons (.int _ _) (.cons (.int _ _) (.cons hrd5 .nil));have hrl5:(l.map Nd.cells++[[.int .i64 n.op,.int .i64 n.imm,kv]]).length=l.length+1:=aK;clear hkvr grk hrd5 o5;repeat' (first
    |(apply au ?_;clear hK K)|apply Ry.o ?_|apply cD ?_|(apply aV (fun hb hbp=>?_) (fun hb hbp=>?_)<;>try(cases hb;done))|apply am ?_|(apply zdQ fun K hK=>?_)|(apply zdP 13 [(1,7),(1,10),(5,7),(9,10)] fun K hK=>?_)|(apply zdP 16 [(1,7),(1,13),(1,16),(5,7),(6,7),(11,7),(11,13)] fun K hK=>?_)|(apply zdU ?_;try intro _)|(apply zdV ?_ ?_<;>clear hK K)|apply aH ?_|apply zd9 rfl ?_|apply aA ?_|apply zdR ?_|apply aB ?_)
   refine⟨rfl,H4.next+1,l.map Nd.cells++[[.int .i64 n.op,.int .i64 n.imm,kv]],[.int .i64 n.op,.int .i64 n.imm,kv],⟨?_,eE,⟨H1.next,eE,g95,ac⟩,by rw[g5];simp,?_,rfl,hone,?_,by rw[hmn];exact hcw5,ac⟩⟩
   .rw[hrl5];exact eE
   .intro x hx;rcases mI.1 hx with h|h
    .exact yr l x h
    .rw[A1]at h;subst h;rfl
   .rw[aE c5,pU];exact dk.append (Fx l) ⟨⟨rfl,hcw5⟩,trivial⟩
  by_cases c6:m=6
  .rw[aE c6]at hmn;obtain⟨p,hp⟩:∃p,zei (cq (how.tdiv 10)) 40=p:=⟨_,rfl⟩;have hp':zei (IntKind.wrap .i64 (how.tdiv 10)) 40=p:=hp;rw[hp]at hmn;clear hp;repeat' (first
    |(apply au ?_;clear hK K)|apply Ry.o ?_|apply cD ?_|(apply dq ?_;first|refine Rx.k (zfZ (fun _=>rfl) _ _ aY _) ?_)|(apply aV (fun hb hbp=>?_) (fun hb hbp=>?_)<;>try(cases hb;done))|apply am ?_|(apply zdQ fun K hK=>?_)|(apply zdP 13 [(1,7),(1,10),(5,7),(9,10)] fun K hK=>?_)|(apply zdP 16 [(1,7),(1,13),(1,16),(5,7),(6,7),(11,7),(11,13)] fun K hK=>?_)|(apply zdU ?_;try intro _)|(apply zdV ?_ ?_<;>clear hK K)|apply aH ?_|apply zd9 rfl ?_|apply aA ?_|apply zdR ?_|apply aB ?_)
   exact⟨rfl,hfin _ 3 p .nilS [] _ eE eE eE ft (by rw[bz,ah ac,bz,ah ac,bz,ah ac];exact gq4) rfl (Bo 3 p) nq4 ac hmn⟩
  rw[ah c6]at hmn;repeat' (first
   |(apply au ?_;clear hK K)|apply Ry.o ?_|apply cD ?_|(apply aV (fun hb hbp=>?_) (fun hb hbp=>?_)<;>try(cases hb;done))|apply am ?_|(apply zdQ fun K hK=>?_)|(apply zdP 13 [(1,7),(1,10),(5,7),(9,10)] fun K hK=>?_)|(apply zdP 16 [(1,7),(1,13),(1,16),(5,7),(6,7),(11,7),(11,13)] fun K hK=>?_)|(apply zdU ?_;try intro _)|(apply zdV ?_ ?_<;>clear hK K)|apply aH ?_|apply zd9 rfl ?_|apply aA ?_|apply zdR ?_|apply aB ?_)
  exact⟨rfl,hfin _ n.op n.imm kv n.kids _ eE eE eE g94 gq4 hkv1 (hd0 H4 s4) nq4 ac hmn⟩
 .rintro E5 H5 ⟨q',rows,row,hF⟩;obtain⟨k7,k8,⟨r,k9,gr,hrq⟩,gq',hr3,hw3,hone,hrw,hcw,hlt⟩:=hF;have hrl:rows.length=((if m=5 then l++[n]else l).map Nd.cells).length:=dk.len hrw;have hkr:k<rows.length:=by
   rw[hrl,dy];split
   .rw[eO];omega
   .exact hkl
  have hst:=zok (P:=Tryz.prog) (t:=67) oW gq' hr3 hkr hw3 hone;dsimp only[lA,tG];obtain⟨x0,x1,x2,rfl⟩:=LO hw3;have hix:zeE Tryz.prog 22 (.sl q' 0 rows.length 3) (.int .i64 (k:Int))=some (.ptr q' (k*3)):=by
   rw[mL Tryz.underlying22 oW hkr,bT]
  clear hrl;repeat' (first
   |(apply au ?_;clear hK K)|apply Rx.o ?_|apply ba ?_|apply am ?_|(apply zdQ fun K hK=>?_)|(apply zdP 13 [(1,7),(1,10),(5,7),(9,10)] fun K hK=>?_)|(apply zdP 16 [(1,7),(1,13),(1,16),(5,7),(6,7),(11,7),(11,13)] fun K hK=>?_)|(apply zdU ?_;try intro _)|(apply zdV ?_ ?_<;>clear hK K)|apply aH ?_|apply zd9 rfl ?_|apply aA ?_|apply zdR ?_|apply aB ?_)
  all_goals (refine⟨zdZ,_,zd6,?_⟩;try simp only[zdY])
  have hsl:(rows.set k [x0,x1,x2]).length=rows.length:=iS;have hrd:fJ (fun _=>True) 3 (H5.set q' (.cells (rows.set k [x0,x1,x2]).flatten 0 true)) (.sl q' 0 (rows.set k [x0,x1,x2]).length 3) (.lst (((if m=5 then l++[n]else l).map Nd.cells).set k w.cells)):=by
   refine rz (imm:=0) (tip:=true) trivial hlt ft (dE _) ?_;have hk2:∀j,j≠q'->(H5.set q' (.cells (rows.set k [x0,x1,x2]).flatten 0 true)).get j=H5.get j:=fun j hj=>by rw[bz,ah hj]
   exact dk.set (fb.keep2 (H':=H5.set q' (.cells (rows.set k [x0,x1,x2]).flatten 0 true)) hrw (fun _ _ _=>trivial) (aM _) fun j hj _=>hk2 j hj) ⟨rfl,zeA.keep2 (H':=H5.set q' (.cells (rows.set k [x0,x1,x2]).flatten 0 true)) hcw (fun _ _ _=>trivial) (aM _) fun j hj _=>hk2 j hj⟩
  obtain⟨u,h1,h2⟩:=hrd;obtain⟨m0,hm0⟩:=zeS.iceV h1;rw[hsl]at hm0;refine⟨m0,u,hm0 m0 (aM _),?_⟩;rw[h2 60 ac,hmut,zfe,re])
end Go.Proofs.YtpbcimfiofmoeaaGreat
namespace Go.Ab
set_option maxRecDepth 20000
open Go Go.WideShapes Go.Deep Go.RowKit Go.ChangeShapes
def oq(W:World):Nat->Nat->Option Value:=fun b o=>W.cell? ⟨b,o,none⟩
theorem zxc(W:World):∀b o v,oq W b o=some v->W.cell? ⟨b,o,none⟩=some v:=fun _ _ _ h=>h
section
variable {H:Type} {enc:TypeId × Value -> H} {P:Program} {W:World}
theorem LY{r:Reach}{b0:Nat}{t e:TypeId}{k:IntKind}{v:Value}{d:DataW H}{ps:List MemPlace}{sp:Nat->Bool}{held:Bool}(ht:P.underlying t=some (.slice e))(he:P.underlying e=some (.int k))(hc:P.cellsOf e=1)(hval:Value.okWide P W r b0 t v)(hd:DataW.Trod enc P W 0 sp held t v d ps)(β:Nat->Option (Nat×Nat×Nat))(ρ:Nat->Int):
 ∃l:List Int,VR ⟨β,oq W,ρ⟩ (.lst (l.map fun n=>[AV.int k n])) v/\l.length<=maxLen/\∀n∈l,(Lit.int k n).wf=true:=by
 obtain⟨a0,ng,cap0,rfl⟩:=okWide_slice ht hval;obtain⟨fuel,hf⟩:=hd;rcases open_slice1 ht hc hf with⟨h,_⟩|⟨a,len,cap,m,n,V,D,Pl,h,hb,hl,hm,hmm,hx,hV⟩
 .simp[Value.cells]at h;obtain⟨rfl,rfl,rfl⟩:=h;exact⟨[],.lst0 _ _,dE _,fun _ h=>absurd h aK⟩
 .simp[Value.cells]at h;obtain⟨rfl,rfl,rfl⟩:=h;have hlm:ng<=m:=by rw[hmm];split<;>omega
  have hint:∀i,∃n:Int,i<ng->V i=.int k n/\(Lit.int k n).wf=true:=fun i=>by
   by_cases hi:i<ng
   .obtain⟨n',h1,_,h2⟩:=DataW.trod_int he (hV i ac).2;simp at h1;exact⟨n',fun _=>⟨h1,h2⟩⟩
   .exact⟨0,fun h=>absurd h hi⟩
  obtain⟨N,hN0⟩:=Fw hint;have hN:∀i,i<ng->V i=.int k (N i):=fun i h=>(hN0 i h).1;refine⟨(List.range ng).map N,?_,cT,fun n hn=>by
   obtain⟨i,hi,rfl⟩:=l0.1 hn;exact(hN0 i (nK.1 hi)).2⟩
  by_cases h0:ng=0
  .subst h0;exact .lst0 _ _
  obtain⟨ab,ao,asp⟩:=a;have hspot:asp=none:=by
   have:=(hV 0 ac).1;simp only[Addr.add,bN,World.cell?]at this;split at this
   .split at this
    .cases this
    .rename_i hn;cases asp with
     |none=>rfl
     |some s=>simp at hn
   .cases this
  subst hspot;have hlen:(((List.range ng).map N).map fun n=>[AV.int k n]).length=ng:=aK;have key:=VR.lst (G:=⟨β,oq W,ρ⟩) (xs:=((List.range ng).map N).map fun n=>[AV.int k n]) (b:=ab) (o:=ao) (cap:=cap0) (z:=1) (fun i _=>V i) ?_ ?_ ?_ (by rw[hlen];omega)
  .rw[hlen]at key;exact key
  .intro i row hr;rw[fF]at hr;cases hq:((List.range ng).map N)[i]? with
   |none=>rw[hq]at hr;simp at hr
   |some q=>rw[hq]at hr;simp only[ju]at hr;rw[<-hr];rfl
  .intro i j hi hj;rw[hlen]at hi;have h2:=(hV i ac).1;show W.cell? ⟨ab,ao+i*1+j,none⟩=some (V i);have hj0:j=0:=ac;subst hj0;rw[<-h2]
   congr 1
   unfold Addr.add;split
   .rename_i h;subst h;rfl
   .simp
  .intro i j row c hr hcj;rw[fF,fF]at hr;by_cases hi:i<ng
   .rw[tw hi]at hr;simp only[ju]at hr;subst hr;cases j with
    |zero=>
     simp only[nP,aQ]at hcj;subst hcj;show VR _ _ (V i);rw[hN i hi];exact .int k _
    |succ j=>simp at hcj
   .rw[iY cT]at hr;simp at hr
theorem zs3{r:Reach}{b0:Nat}{t e:TypeId}{k:IntKind}{v:Value}{d:DataW H}{ps:List MemPlace}{sp:Nat->Bool}{held:Bool}(ht:P.underlying t=some (.slice e))(he:P.underlying e=some (.int k))(hc:P.cellsOf e=1)(hval:Value.okWide P W r b0 t v)(hd:DataW.Trod enc P W 0 sp held t v d ps)(β:Nat->Option (Nat×Nat×Nat))(ρ:Nat->Int):
 ∃l:List Int,VR ⟨β,oq W,ρ⟩ (.lst (l.map fun n=>[AV.int k n])) v/\l.length<=maxLen:=by
 obtain⟨l,h1,h2,_⟩:=LY ht he hc hval hd β ρ;exact⟨l,h1,h2⟩
theorem Fz{t:TypeId}(hl:laidOutB P=true)(hr:P.readableRec t=true)(hrow:t<P.types.size){W':World}{v:Value}{d:DataW H}{ps before:List MemPlace}
 (h:DataW.Trod enc P W 0 (fun _=>true) true t v d ps) (hb:Below W.heap.size W W') (hlt:∀p∈before,p.block<W.heap.size) (hps:∀p∈ps,p∈before) {sp:Nat->Bool} (hsp:∀p∈before,sp p.block=true) :
 DataW.Trod enc P W' 0 sp true t v d ps:=
 WideElems.Trod_stays hl hr hrow h (fun x hx=>hb.same (hlt x (hps x hx))) fun x hx=>hsp x (hps x hx)
end
end Go.Ab
namespace Go.Proofs.YtpbcimfiofmoeaaGreat
set_option maxRecDepth 20000
open Go Go.Ab
section
def zgb(l:List Int):AV:=.lst (l.map fun n=>[.int .i64 n])
theorem LZ:∀{a b:List Int},(a.map fun n=>[AV.int .i64 n])=(b.map fun n=>[AV.int .i64 n])->a=b
 |[],[],_=>rfl
 |[],_::_,h=>by simp at h
 |_::_,[],h=>by simp at h
 |x::a,y::b,h=>by
  simp only[eF,eD,AV.int.injEq,lH]at h;rw[h.1,LZ h.2]
theorem L0{a b:List Int}(h:zgb a=zgb b):a=b:=LZ (by simpa only[zgb,AV.lst.injEq]using h)
theorem Bw(l:List Int):fG (zgb l):=.map fun n _=>.cons (.int _ _) .nil
theorem L2{n:Nat}(h:n<=maxLen):n<2^63:=ur h aY
theorem cells_int:Tryz.prog.cellsOf 3=1:=aC
set_option maxRecDepth 100000 in
theorem zqJ{H:Type}{enc:TypeId×Value->H}{W:World}{v0:Value}{r:Reach}{b0:Nat}(k0:Value.okWide Tryz.prog W r b0 23 v0){d:DataW H}{ps:List MemPlace}{sp:Nat->Bool}{held:Bool}(h0:DataW.Trod enc Tryz.prog W 0 sp held 23 v0 d ps):∃l:List Int,VR ⟨fun _=>none,oq W,fun _=>0⟩ (zgb l) v0/\l.length<2^63:=by
 obtain⟨l,hv,hl⟩:=zs3 Tryz.underlying23 Tryz.underlying3 cells_int k0 h0 (fun _=>none) (fun _=>0);exact⟨l,hv,L2 hl⟩
set_option maxRecDepth 100000 in
theorem zop{H:Type}{enc:TypeId×Value->H}{W:World}{v0:Value}{r:Reach}{b0:Nat}(k0:Value.okWide Tryz.prog W r b0 23 v0){d:DataW H}{ps:List MemPlace}{sp:Nat->Bool}{held:Bool}(h0:DataW.Trod enc Tryz.prog W 0 sp held 23 v0 d ps):∃l:List Int,VR ⟨fun _=>none,oq W,fun _=>0⟩ (zgb l) v0/\l.length<2^63/\∀n∈l,-9223372036854775808<=n/\n<9223372036854775808:=by
 obtain⟨l,hv,hl,hr⟩:=LY Tryz.underlying23 Tryz.underlying3 cells_int k0 h0 (fun _=>none) (fun _=>0);refine⟨l,hv,L2 hl,fun n hn=>?_⟩;have h:=hr n hn;have e1:IntKind.min .i64=-9223372036854775808:=aY;have e2:IntKind.max .i64=9223372036854775807:=aY;simp only[Lit.wf,cJ,jt,e1,e2]at h;omega
def yu(l:List Int):List AV:=[zeG l,.bool false]
theorem zxd(x y:List Int)(h:yu x=yu y):x=y:=by
 simp only[yu,eD,aX]at h;exact vH h
noncomputable def FA:En:=⟨10,false,cy (fun l=>l.length<2^63) yu fun l=>zfe (jD l false)⟩
theorem zxe(ρ:Nat->Int):zeO Tryz.prog ρ FA:=zeV fun l hl=>zqI ρ l hl
theorem zaR{tb:List En}(ht:∀ar,zeN tb 10 ar=FA.sp ar)(l:List Int)(hl:l.length<2^63)(H:Hp):zd5 Tryz.prog (zdW pls tb) 10 [zeG l,.bool false] H fun v H'=>v=zfe (jD l false)/\H'=H:=
 zeJ (enc:=yu) (ok:=fun l=>l.length<2^63) (out:=fun l=>zfe (jD l false)) zxd (x:=l) (ht _) hl
noncomputable def FB:En:=⟨11,true,cy Fy ut fun x=>zfe (kx x.l x.how x.a)⟩
theorem zs4(ρ:Nat->Int):zeO Tryz.prog ρ FB:=zeV fun x hx=>zoo ρ x hx
theorem L3{tb:List En}(ht:∀ar,zeN tb 11 ar=FB.sp ar)(l:List Nd)(how a:Int)(hl:zfi l/\l≠[])(H:Hp):zd5 Tryz.prog (zdW pls tb) 11 [zfe l,.int .i64 how,.int .i64 a] H fun v H'=>v=zfe (kx l how a)/\H'=H:=
 zeJ (enc:=ut) (ok:=Fy) (out:=fun x=>zfe (kx x.l x.how x.a)) zs1 (x:=⟨l,how,a⟩) (ht _) hl
noncomputable def FC:En:=⟨17,true,cy (fun x=>zfi x.1) jz fun x=>zeG (iT x.1 x.2)⟩
theorem zxf(ρ:Nat->Int):zeO Tryz.prog ρ FC:=zeV fun x hx=>YB ρ x hx
theorem zaU{tb:List En}(ht:∀ar,zeN tb 17 ar=FC.sp ar)(l:List Nd)(i:Int)(hl:zfi l)(H:Hp):zd5 Tryz.prog (zdW pls tb) 17 [zfe l,.int .i64 i] H fun v H'=>v=zeG (iT l i)/\H'=H:=
 zeJ (enc:=jz) (ok:=fun x=>zfi x.1) (out:=fun x=>zeG (iT x.1 x.2)) AK (x:=(l,i)) (ht _) hl
theorem L4(l:List Int):zfi (jD l false):=LR l false (Nat.min_le_right _ _)
theorem zxg(l:List Int)(how a:Int):zfi (kx (jD l false) how a)/\(kx (jD l false) how a).length<=18/\kx (jD l false) how a≠[]:=by
 have h1:=Be l false (min l.length 14);have h2:=Lr (jD l false) how a;have h3:(jD l false).length<=17:=by unfold jD;omega
 have h4:=Ls (Bf l false (min l.length 14)) how a;exact⟨⟨ac,fun n hn=>by have:=h4 n hn;omega⟩,ac,Z2 (Lt l false) how a⟩
def tyK9.tyF:=ad @dC (ad @ge (ad @en (ad @jP (ad @eI (ad @tM (ad @vr (@ri)))))))
open tyK9
noncomputable def wc:{c:SC // aS 21 (Tryz.f15.body.getD .skip)=c}:=by
 refine⟨?_,?_⟩;rotate_left
 .simp only[Tryz.f15,cj,aS,zen,zel,zeu,zev,Nat.blt,Nat.ble];rfl
noncomputable def Bx:{c:SC // aS 65 (Tryz.f18.body.getD .skip)=c}:=by
 refine⟨?_,?_⟩;rotate_left
 .simp only[Tryz.f18,cj,aS,zen,zel,zeu,zev,Nat.blt,Nat.ble];rfl
theorem zqK(ρ:Nat->Int)(x:List Nd×Int)(hx:zfi x.1):bV Tryz.prog ρ 15 (jz x) (.int .i64 (zeY x.1 x.2)):=zfq fit (pls:=pls) (l:=[rx]) ⟨Fl ρ,trivial⟩ (.cons (mR _) (.cons (.int _ _) .nil)) (.int _ _) (by
 obtain⟨l,i⟩:=x;simp only[]at hx;have hx1:=hx.1;have hw:Plain (zdW pls [rx]) 15:=zfv (fun _=>rfl) rfl;rw[jz];simp only[];by_cases c1:i<0
 .refine zed (M:=21) (rs:=[.tmp 4]) (hw.call _) hw.ice hw.froz Tryz.func15 rfl rfl wc.2 rfl ?_;dsimp only[wc,zd8,Nat.reduceAdd];repeat' (first
   |(apply au ?_;clear hK K)|apply Ry.o ?_|(apply bS (fun hg hgp=>?_) (fun hg hgp=>?_)<;>try(cases hg;done))|(apply aV (fun hb hbp=>?_) (fun hb hbp=>?_)<;>try(cases hb;done))|apply am ?_|(apply zdQ fun K hK=>?_)|apply zdR ?_|apply aB ?_)
  all_goals (refine⟨zdZ,_,zd6,?_⟩;try simp only[zdY])
  rw[zeY,aE (.inl c1)]
 by_cases c2:(l.length:Int)<=i
 .refine zed (M:=21) (rs:=[.tmp 4]) (hw.call _) hw.ice hw.froz Tryz.func15 rfl rfl wc.2 rfl ?_;dsimp only[wc,zd8,Nat.reduceAdd];repeat' (first
   |(apply au ?_;clear hK K)|apply Ry.o ?_|(apply bS (fun hg hgp=>?_) (fun hg hgp=>?_)<;>try(cases hg;done))|(apply aV (fun hb hbp=>?_) (fun hb hbp=>?_)<;>try(cases hb;done))|apply am ?_|(apply zdQ fun K hK=>?_)|apply zdR ?_|apply aB ?_)
  all_goals (refine⟨zdZ,_,zd6,?_⟩;try simp only[zdY])
  rw[zeY,aE (.inr c2)]
 obtain⟨m,rfl⟩:=gG (xY.1 c1);have hm:m<l.length:=ac;have e1:IntKind.wrap .i64 ((m:Int)+1)=((m+1:Nat):Int):=zft ac ac;have hsl:=EE l (m+1) ac;have htl:(l.take (m+1)).length=m+1:=pQ;have hgs:(zew (l.take (m+1)) (m+1))[m]?=some (zeY l m):=by
  rw[zeY,ah ac,gH,dM,br qU];rfl
 refine zed (M:=21) (rs:=[.tmp 4]) (hw.call _) hw.ice hw.froz Tryz.func15 rfl rfl wc.2 rfl ?_;dsimp only[wc,zd8,Nat.reduceAdd];repeat' (first
  |(apply au ?_;clear hK K)|apply Ry.o ?_|(apply dq ?_;first|refine Rx.k (Fm (fun _=>rfl) _ (hx.take _) _) ?_)|(apply bS (fun hg hgp=>?_) (fun hg hgp=>?_)<;>try(cases hg;done))|(apply aV (fun hb hbp=>?_) (fun hb hbp=>?_)<;>try(cases hb;done))|apply am ?_|(apply zdQ fun K hK=>?_)|apply zdR ?_|apply aB ?_)
 all_goals (refine⟨zdZ,_,zd6,?_⟩;try simp only[zdY]))
noncomputable def wd:En:=⟨15,true,cy (fun x=>zfi x.1) jz fun x=>.int .i64 (zeY x.1 x.2)⟩
theorem L5(ρ:Nat->Int):zeO Tryz.prog ρ wd:=zeV fun x hx=>zqK ρ x hx
theorem FD{tb:List En}(ht:∀ar,zeN tb 15 ar=wd.sp ar)(l:List Nd)(i:Int)(hl:zfi l)(H:Hp):zd5 Tryz.prog (zdW pls tb) 15 [zfe l,.int .i64 i] H fun v H'=>v=.int .i64 (zeY l i)/\H'=H:=
 zeJ (enc:=jz) (ok:=fun x=>zfi x.1) (out:=fun x=>.int .i64 (zeY x.1 x.2)) AK (x:=(l,i)) (ht _) hl
set_option maxRecDepth 100000 in
theorem zqL(ρ:Nat->Int)(x:List Nd×Int)(hx:zfi x.1):bV Tryz.prog ρ 18 (jz x) (zeG (iT x.1 x.2)):=An (n:=3) (se (r:=sr (iT x.1 x.2)) (m:=3) (cfg:=zdW pls [wd]) fit (ly ρ) (fH.look ⟨L5 ρ,trivial⟩) (.cons (mR _) (.cons (.int _ _) .nil)) (by
 obtain⟨l,i⟩:=x;simp only[]at hx;have hx1:=hx.1;have hw:Plain (zdW pls [wd]) 18:=zfv (fun _=>rfl) rfl;have hkeep:(zdW pls [wd]).keep 18=false:=rfl;rw[jz];simp only[];by_cases c0:zeY l i=0
 .refine zed (M:=65) (rs:=[.tmp 4]) (hw.call _) hw.ice hw.froz Tryz.func18 rfl rfl Bx.2 rfl ?_;dsimp only[Bx,zd8,Nat.reduceAdd];repeat' (first
   |(apply au ?_;clear hK K)|apply Ry.o ?_|(apply dq ?_;first|refine Rx.k (FD (fun _=>rfl) _ _ hx _) ?_)|(apply bS (fun hg hgp=>?_) (fun hg hgp=>?_)<;>try(cases hg;done))|(apply aV (fun hb hbp=>?_) (fun hb hbp=>?_)<;>try(cases hb;done))|apply am ?_|(apply zdQ fun K hK=>?_)|apply aA ?_|apply zdR ?_|apply aB ?_|apply zdT ?_)
  all_goals (refine⟨zdZ,_,zd6,?_⟩;try simp only[zdY])
  rw[iT,aE c0];rfl
 have hr:0<=i/\i<l.length:=by
  unfold zeY at c0;by_cases c:i<0\/(l.length:Int)<=i
  .rw[aE c]at c0;exact absurd rfl c0
  .omega
 obtain⟨m,rfl⟩:=gG hr.1;have hm:m<l.length:=ac;clear hr;have e1:IntKind.wrap .i64 ((m:Int)+1)=((m+1:Nat):Int):=zft ac ac;have hmk:∀H:Hp,zf9 Tryz.prog H 84 (.int .i64 ((m+1:Nat):Int)) (.int .i64 ((m+1:Nat):Int))=some (.sl H.next 0 (m+1) 1,H.alloc (.cells ((List.replicate (m+1) false).map .bool) 0 true)):=fun H=>D6 _ ac;have hixm:zeE Tryz.prog 84 (.sl 0 0 (m+1) 1) (.int .i64 (m:Int))=some (.ptr 0 m):=sC ac;refine zed (M:=65) (rs:=[.tmp 4]) (hw.call _) hw.ice hw.froz Tryz.func18 rfl rfl Bx.2 rfl ?_;dsimp only[Bx,zd8,Nat.reduceAdd];repeat' (first
  |(apply au ?_;clear hK K)|apply Ry.o ?_|(apply dq ?_;first|refine Rx.k (FD (fun _=>rfl) _ _ hx _) ?_)|(apply bS (fun hg hgp=>?_) (fun hg hgp=>?_)<;>try(cases hg;done))|(apply aV (fun hb hbp=>?_) (fun hb hbp=>?_)<;>try(cases hb;done))|apply am ?_|(apply zdQ fun K hK=>?_)|apply aA ?_|apply zdR ?_|apply aB ?_|apply zdT ?_)
 refine oS eV eV (AM (bs:=List.replicate (m+1) false) xX aK true) ?_;repeat' (first
  |(apply au ?_;clear hK K)|apply Rx.o ?_|apply am ?_|(apply zdQ fun K hK=>?_)|apply aA ?_|apply zdR ?_|apply aB ?_|apply zdT ?_)
 refine DJ [0,1,4,5] [] (fun k E H=>k<=m+1/\E.at 6=.int .i64 ((k:Int)-1)/\∃(b:List Bool),H.get 0=some (.cells (b.map .bool) 0 true)/\DepJ l m k b) (m+1) ⟨aM _,JM,_,ft,DepJ.start c0⟩ ?_;rintro k E2 H2 hcE hrH hnH ⟨hk,k7,b,hgb,hJ⟩;(try simp only[zec,zeb,aX,zdX,zd2,Nat.reduceBEq,Nat.reduceAdd,Nat.reduceLeDiff,tyF, *]at hcE);have hn0:=hnH;have hn1:1<=H2.next:=hnH
 clear hnH;cases k with
 |zero=>
  have k7':E2.at 6=.int .i64 (-1):=k7;clear k7;have hbe:=hJ.done;have hbl:=hJ.ok.len;clear hJ;repeat' (first
   |(apply au ?_;clear hK K)|apply Ry.o ?_|(apply bS (fun hg hgp=>?_) (fun hg hgp=>?_)<;>try(cases hg;done))|(apply aV (fun hb hbp=>?_) (fun hb hbp=>?_)<;>try(cases hb;done))|apply am ?_|(apply zdQ fun K hK=>?_)|apply aA ?_|apply zdR ?_|apply aB ?_|apply zdT ?_)
  subst hbe;have hds:iT l m=oc (iU l m) (m+1):=by rw[Av,ah c0];rfl
  refine zeL [1,4,5] [] 9 (m+1) (fun i E H=>∃v,E.at 8=v/\nX H v (oc (iU l m) i) 1/\H.get 0=some (.cells ((iU l m).map .bool) 0 true)) eE ⟨.nilS,eE,.inl ⟨rfl,rfl⟩,hgb⟩ ?_;rintro i E3 H3 hi hcE hrH hnH hsI ⟨v,k10,hv,hg3⟩;(try simp only[zec,zeb,aX,zdX,zd2,Nat.reduceBEq,Nat.reduceAdd,Nat.reduceLeDiff,tyF, *]at hcE);(try simp only[zec,zeb,aX,zdX,zd2,Nat.reduceBEq,Nat.reduceAdd,Nat.reduceLeDiff,tyF, *]at hrH);(try simp only[zea,zef,zeB,bT,Nat.reduceAdd]at hnH);by_cases him:(i:Int)<=m
  .have hlt:i<m+1:=by omega
   have hix:zeE Tryz.prog 84 (.sl 0 0 (m+1) 1) (.int .i64 (i:Int))=some (.ptr 0 i):=sC hlt;have hld:=x5 hg3 (m:=i) ac;have hos:=Ko (iU l m) i;have hol:=Kp (iU l m) i;cases hbq:(iU l m).getD i false with
   |false=>
    rw[hbq]at hld hos;rw[ah aK]at hos;repeat' (first
     |(apply au ?_;clear hK K)|apply Ry.o ?_|(apply bS (fun hg hgp=>?_) (fun hg hgp=>?_)<;>try(cases hg;done))|(apply aV (fun hb hbp=>?_) (fun hb hbp=>?_)<;>try(cases hb;done))|apply am ?_|(apply zdQ fun K hK=>?_)|apply aA ?_|apply zdR ?_|apply aB ?_|apply zdT ?_)
    refine⟨ac,zd7,zd7,eN,Az,?_⟩;exact⟨v,eE,by rw[hos];exact hv,hg3⟩
   |true=>
    rw[hbq]at hld hos;rw[aE rfl]at hos;have hvb:ze0 (H3.alloc (.cells [.int .i64 i] 0 true)) v (oc (iU l m) i) 1:=hv.n.keep (cZ _) fun k hk=>Eh;obtain⟨v5,H5,a5,s5,n5,f5,o5⟩:=pi (r:=H3.next) (imm:=0) (i:Int) hvb fx eR ac;have n5':H3.next<=H5.next:=pm
    have g50:H5.get 0=some (.cells ((iU l m).map .bool) 0 true):=JN;clear n5 f5 o5;repeat' (first
     |(apply au ?_;clear hK K)|apply Ry.o ?_|(apply bS (fun hg hgp=>?_) (fun hg hgp=>?_)<;>try(cases hg;done))|(apply aV (fun hb hbp=>?_) (fun hb hbp=>?_)<;>try(cases hb;done))|apply am ?_|(apply zdQ fun K hK=>?_)|apply aA ?_|apply zdR ?_|apply aB ?_|apply zdT ?_)
    refine⟨ac,zd7,zd7,eN,Az,?_⟩;exact⟨v5,eE,.inr ⟨by rw[hos];simp,by rw[hos];exact s5⟩,g50⟩
  .repeat' (first
    |(apply au ?_;clear hK K)|apply Ry.o ?_|(apply bS (fun hg hgp=>?_) (fun hg hgp=>?_)<;>try(cases hg;done))|(apply aV (fun hb hbp=>?_) (fun hb hbp=>?_)<;>try(cases hb;done))|apply am ?_|(apply zdQ fun K hK=>?_)|apply aA ?_|apply zdR ?_|apply aB ?_|apply zdT ?_)
   all_goals (refine⟨zdZ,_,zd6,?_⟩;try simp only[zdY])
   have hie:i=m+1:=ac;rw[hds,<-hie];exact hv.iceV 1
 |succ q=>
  have k7':E2.at 6=.int .i64 (q:Int):=by rw[k7];congr 1;omega
  clear k7;have hbl:=hJ.ok.len;have hix:zeE Tryz.prog 84 (.sl 0 0 (m+1) 1) (.int .i64 (q:Int))=some (.ptr 0 q):=sC ac;have hld:=x5 hgb (m:=q) ac;have hqn:(0:Int)<=q:=ac;have hql:q<l.length:=ac;have hgx:l[q]?=some l[q]:=br hql;have hstep:=hJ.step ac;have e2:IntKind.wrap .i64 ((q:Int)-1)=(q:Int)-1:=zft ac ac;rw[hgx]at hstep;simp only[]at hstep;cases hbq:b.getD q false with
  |false=>
   rw[hbq]at hld hstep;rw[ah aK]at hstep;clear hJ;generalize l[q]=n at *;repeat' (first
    |(apply au ?_;clear hK K)|apply Ry.o ?_|(apply bS (fun hg hgp=>?_) (fun hg hgp=>?_)<;>try(cases hg;done))|(apply aV (fun hb hbp=>?_) (fun hb hbp=>?_)<;>try(cases hb;done))|apply am ?_|(apply zdQ fun K hK=>?_)|apply aA ?_|apply zdR ?_|apply aB ?_|apply zdT ?_)
   refine zeL [0,1,4,5,6] [] 7 0 (fun j E H=>H.get 0=some (.cells (b.map .bool) 0 true)/\H=H2) eE ⟨hgb,rfl⟩ ?_;rintro j E3 H3 hj hcE hrH hnH hsI ⟨hgj,rfl⟩;(try simp only[zec,zeb,aX,zdX,zd2,Nat.reduceBEq,Nat.reduceAdd,Nat.reduceLeDiff,tyF, *]at hcE);(try simp only[zec,zeb,aX,zdX,zd2,Nat.reduceBEq,Nat.reduceAdd,Nat.reduceLeDiff,tyF, *]at hrH);(try simp only[zea,zef,zeB,bT,Nat.reduceAdd]at hnH);have hj0:j=0:=ac;subst hj0;repeat' (first
    |(apply au ?_;clear hK K)|apply Ry.o ?_|(apply bS (fun hg hgp=>?_) (fun hg hgp=>?_)<;>try(cases hg;done))|(apply aV (fun hb hbp=>?_) (fun hb hbp=>?_)<;>try(cases hb;done))|apply am ?_|(apply zdQ fun K hK=>?_)|apply aA ?_|apply zdR ?_|apply aB ?_|apply zdT ?_)
   all_goals
    refine⟨zd7,zd7,hn0,q,ac,ac,eE,b,hgb,hstep⟩
  |true=>
   rw[hbq]at hstep;rw[aE rfl]at hstep;have hkd:∀d∈l[q].kids,0<=d/\d<q/\zeY l d≠0:=D9 hgx (hJ.ok.wf q hbq).2;have hnk:=hx.2 _ (dX hql);clear hJ hld;generalize l[q]=n at *;repeat' (first
    |(apply au ?_;clear hK K)|apply Ry.o ?_|(apply bS (fun hg hgp=>?_) (fun hg hgp=>?_)<;>try(cases hg;done))|(apply aV (fun hb hbp=>?_) (fun hb hbp=>?_)<;>try(cases hb;done))|apply am ?_|(apply zdQ fun K hK=>?_)|apply aA ?_|apply zdR ?_|apply aB ?_|apply zdT ?_)
   refine zeL [0,1,4,5,6] [] 7 n.kids.length (fun j E H=>H.get 0=some (.cells ((lF (n.kids.take j) b).map .bool) 0 true)) eE hgb ?_;rintro j E3 H3 hj hcE hrH hnH hsI hgj;(try simp only[zec,zeb,aX,zdX,zd2,Nat.reduceBEq,Nat.reduceAdd,Nat.reduceLeDiff,tyF, *]at hcE);(try simp only[zec,zeb,aX,zdX,zd2,Nat.reduceBEq,Nat.reduceAdd,Nat.reduceLeDiff,tyF, *]at hrH);(try simp only[zea,zef,zeB,bT,Nat.reduceAdd]at hnH);by_cases hlt:j<n.kids.length
   .have hgy:n.kids[j]?=some n.kids[j]:=br hlt;obtain⟨d0,d1,d2⟩:=hkd _ (dX hlt);have htk:n.kids.take (j+1)=n.kids.take j++[n.kids[j]]:=by rw[tu,hgy];rfl
    generalize n.kids[j]=kd at *;obtain⟨d,rfl⟩:=gG d0;have hix2:zeE Tryz.prog 84 (.sl 0 0 (m+1) 1) (.int .i64 (d:Int))=some (.ptr 0 d):=sC ac;have hld:=x5 hgj (m:=q) (by rw[xU];omega);have hmq:(lF (n.kids.take j) b).getD q false=true:=by
     rw[Ea _ _ _ (fun c hc=>by have:=hkd c (El hc);omega),hbq];rfl
    rw[hmq]at hld;have hlt':(j:Int)<n.kids.length:=ac;repeat' (first
     |(apply au ?_;clear hK K)|apply Ry.o ?_|(apply bS (fun hg hgp=>?_) (fun hg hgp=>?_)<;>try(cases hg;done))|(apply aV (fun hb hbp=>?_) (fun hb hbp=>?_)<;>try(cases hb;done))|apply am ?_|(apply zdQ fun K hK=>?_)|apply aA ?_|apply zdR ?_|apply aB ?_|apply zdT ?_)
    refine oS eV eV (AM hgj (by rw[xU];omega) true) ?_;repeat' (first
     |(apply au ?_;clear hK K)|apply Rx.o ?_|apply am ?_|(apply zdQ fun K hK=>?_)|apply aA ?_|apply zdR ?_|apply aB ?_|apply zdT ?_)
    refine⟨ac,zd7,zd7,eN,xW,?_⟩;rw[bz,aE rfl,htk,Kn,gH]
   .have hje:j=n.kids.length:=by omega
    rw[hje,CB]at hgj;subst hje;have hlt':¬(n.kids.length:Int)<n.kids.length:=ac;repeat' (first
     |(apply au ?_;clear hK K)|apply Ry.o ?_|(apply bS (fun hg hgp=>?_) (fun hg hgp=>?_)<;>try(cases hg;done))|(apply aV (fun hb hbp=>?_) (fun hb hbp=>?_)<;>try(cases hb;done))|apply am ?_|(apply zdQ fun K hK=>?_)|apply aA ?_|apply zdR ?_|apply aB ?_|apply zdT ?_)
    refine⟨zd7,zd7,dr hn0 hnH,q,ac,ac,eE,_,hgj,hstep⟩)) (D7 1 _)
end
section
def tyIntC.tyF:=ad @dC (@en)
open tyIntC
noncomputable def By:{c:SC // aS 26 (Tryz.f16.body.getD .skip)=c}:=by
 refine⟨?_,?_⟩;rotate_left
 .simp only[Tryz.f16,cj,aS,zen,zel,zeu,zev,Nat.blt,Nat.ble];rfl
theorem zs8(ρ:Nat->Int)(x:List Int×List Int)(hx:x.1.length<2^60):bV Tryz.prog ρ 16 (pp x) (.bool (decide (x.1=x.2))):=zfq fit (pls:=pls) (l:=[]) trivial (.cons (zgt _) (.cons (zgt _) .nil)) (.bool _) (by
 obtain⟨s,w⟩:=x;have hw:=jm 16;rw[pp];simp only[]at hx⊢;by_cases hl:w.length=s.length
 .refine zed (M:=26) (rs:=[.tmp 4]) (hw.call _) hw.ice hw.froz Tryz.func16 rfl rfl By.2 rfl ?_;dsimp only[By,zd8,Nat.reduceAdd];repeat' (first
   |(apply au ?_;clear hK K)|apply Ry.o ?_|(apply aV (fun hb hbp=>?_) (fun hb hbp=>?_)<;>try(cases hb;done))|apply am ?_|(apply zdQ fun K hK=>?_)|(apply zdP 6 [(3,9),(7,9)] fun K hK=>?_)|(apply zdU ?_;try intro _)|(apply zdV ?_ ?_<;>clear hK K)|apply aH ?_|apply aA ?_|apply zdR ?_|apply aB ?_|apply zdT ?_)
  refine zeL [0,1,12] [] 13 s.length (fun i E H=>decide (s=w)=decide (s.drop i=w.drop i)) eE aK ?_;rintro i E H2 hi hcE hrH hnH hsI hJ;(try simp only[zec,zeb,aX,zdX,zd2,Nat.reduceBEq,Nat.reduceAdd,Nat.reduceLeDiff,tyF, *]at hcE);(try simp only[zec,zeb,aX,zdX,zd2,Nat.reduceBEq,Nat.reduceAdd,Nat.reduceLeDiff,tyF, *]at hrH);(try simp only[zea,zef,zeB,bT,Nat.reduceAdd]at hnH);repeat' (first
   |(apply au ?_;clear hK K)|apply Rx.o ?_|(apply aT (fun hb hbp=>?_) (fun hb hbp=>?_)<;>try(cases hb;done))|apply am ?_|(apply zdQ fun K hK=>?_)|(apply zdP 6 [(3,9),(7,9)] fun K hK=>?_)|(apply zdU ?_;try intro _)|(apply zdV ?_ ?_<;>clear hK K)|apply aH ?_|apply aA ?_|apply zdR ?_|apply aB ?_|apply zdT ?_)
  .have hlt:i<s.length:=by simpa using hb
   have hgx:s[i]?=some s[i]:=br hlt;have hgy:w[i]?=some (w[i]' ac):=br ac;have hdr:=Lz hl.symm hlt;rw[dM,dM,hgx,hgy]at hdr;simp only[cj]at hdr;generalize s[i]=x at *;generalize w[i]' ac=y at *;repeat' (first
    |(apply au ?_;clear hK K)|apply Rx.o ?_|(apply aT (fun hb hbp=>?_) (fun hb hbp=>?_)<;>try(cases hb;done))|apply am ?_|(apply zdQ fun K hK=>?_)|(apply zdP 6 [(3,9),(7,9)] fun K hK=>?_)|(apply zdU ?_;try intro _)|(apply zdV ?_ ?_<;>clear hK K)|apply aH ?_|apply aA ?_|apply zdR ?_|apply aB ?_|apply zdT ?_)
   .exact eK
   .all_goals (refine⟨zdZ,_,zd6,?_⟩;try simp only[zdY])
    rw[hJ,hdr];simp_all
   .refine⟨ac,zd7,zd7,eN,tV,?_⟩;rw[hJ,hdr];simp_all
  .repeat' (first
    |(apply au ?_;clear hK K)|apply Rx.o ?_|(apply aT (fun hb hbp=>?_) (fun hb hbp=>?_)<;>try(cases hb;done))|apply am ?_|(apply zdQ fun K hK=>?_)|(apply zdP 6 [(3,9),(7,9)] fun K hK=>?_)|(apply zdU ?_;try intro _)|(apply zdV ?_ ?_<;>clear hK K)|apply aH ?_|apply aA ?_|apply zdR ?_|apply aB ?_|apply zdT ?_)
   all_goals (refine⟨zdZ,_,zd6,?_⟩;try simp only[zdY])
   rw[hJ,show i=s.length by simp at hb;omega,gR,<-hl,gR];simp_all
 .have hne:¬s=w:=fun e=>hl lZ;have hl2:¬(s.length:Int)=w.length:=ac;refine zed (M:=26) (rs:=[.tmp 4]) (hw.call _) hw.ice hw.froz Tryz.func16 rfl rfl By.2 rfl ?_;dsimp only[By,zd8,Nat.reduceAdd];repeat' (first
   |(apply au ?_;clear hK K)|apply Ry.o ?_|(apply aV (fun hb hbp=>?_) (fun hb hbp=>?_)<;>try(cases hb;done))|apply am ?_|(apply zdQ fun K hK=>?_)|(apply zdP 6 [(3,9),(7,9)] fun K hK=>?_)|(apply zdU ?_;try intro _)|(apply zdV ?_ ?_<;>clear hK K)|apply aH ?_|apply aA ?_|apply zdR ?_|apply aB ?_|apply zdT ?_)
  all_goals
   refine⟨zdZ,_,fo,?_⟩;try simp only[zdY]
   rw[pd hne])
noncomputable def FE:En:=⟨16,false,cy (fun x=>x.1.length<2^60) pp fun x=>.bool (decide (x.1=x.2))⟩
theorem zor(ρ:Nat->Int):zeO Tryz.prog ρ FE:=zeV fun x hx=>zs8 ρ x hx
theorem za0{tb:List En}(ht:∀ar,zeN tb 16 ar=FE.sp ar)(a b:List Int)(hl:a.length<2^60)(H:Hp):zd5 Tryz.prog (zdW pls tb) 16 [zeG a,zeG b] H fun v H'=>v=.bool (decide (a=b))/\H'=H:=
 zeJ (enc:=pp) (ok:=fun x=>x.1.length<2^60) (out:=fun x=>.bool (decide (x.1=x.2))) J4 (x:=(a,b)) (ht _) hl
noncomputable def FF:En:=⟨18,true,cy (fun x=>zfi x.1) jz fun x=>zeG (iT x.1 x.2)⟩
theorem zxh(ρ:Nat->Int):zeO Tryz.prog ρ FF:=zeV fun x hx=>zqL ρ x hx
theorem za2{tb:List En}(ht:∀ar,zeN tb 18 ar=FF.sp ar)(l:List Nd)(i:Int)(hl:zfi l)(H:Hp):zd5 Tryz.prog (zdW pls tb) 18 [zfe l,.int .i64 i] H fun v H'=>v=zeG (iT l i)/\H'=H:=
 zeJ (enc:=jz) (ok:=fun x=>zfi x.1) (out:=fun x=>zeG (iT x.1 x.2)) AK (x:=(l,i)) (ht _) hl
end
section
def kV(H:Hp)(v:AV)(l:List Int)(lo:Nat):Prop:=∃r imm,v=.sl r 0 l.length 1/\H.get r=some (.cells (l.map (.int .u8)) imm true)/\imm<=l.length/\lo<=r/\r<H.next
def FG(H:Hp)(v:AV)(l:List Int)(lo:Nat):Prop:=(v=.nilS/\l=[])\/kV H v l lo
theorem kV.low{H H':Hp}{v:AV}{l:List Int}{lo:Nat}(h:kV H v l lo)(hn:H.next<=H'.next)(hg:∀k,lo<=k->k<H.next->H'.get k=H.get k):kV H' v l lo:=by
 obtain⟨r,imm,h1,h2,h3,h4,h5⟩:=h;exact⟨r,imm,h1,DS,h3,h4,ac⟩
theorem kV.lt{H:Hp}{v:AV}{l:List Int}{lo:Nat}(h:kV H v l lo){k:Nat}(hk:zd3 v k):lo<=k/\k<H.next:=by
 obtain⟨r,imm,rfl,_,_,h4,h5⟩:=h;obtain⟨n,e⟩:=hk;simp only[AV.sl.injEq]at e;rw[<-e.1];exact⟨h4,h5⟩
theorem kV.keep{H H':Hp}{v:AV}{l:List Int}{lo:Nat}(h:kV H v l lo)(hn:H.next<=H'.next)(hg:∀k,zd3 v k->H'.get k=H.get k):kV H' v l lo:=by
 obtain⟨r,imm,rfl,h2,h3,h4,h5⟩:=h;exact⟨r,imm,rfl,Ae,h3,h4,ac⟩
theorem L6(l:List Int):(l.map (AV.int .u8)).all AV.one=true:=by simp[AV.one]
theorem zs9{H:Hp}{r imm:Nat}{m:List Int}(h:H.get r=some (.cells (m.map (.int .u8)) imm true)):zfz H 1 (.sl r 0 m.length 1)=some (m.length,m.map (.int .u8)):=by
 have:=tI (H:=H) (r:=r) (o:=0) (n:=m.length) (z:=1) (s:=1) h aK;rw[this,gD,iq aK]
theorem zta{H:Hp}{v x:AV}{l m:List Int}{lo:Nat}(hv:FG H v l lo)(hlo:lo<=H.next)(hx:zfz H 1 x=some (m.length,m.map (.int .u8)))(hm:m≠[])(hb:l.length+m.length<2^40):
 ∃v' H',zeZ Tryz.prog false H 93 93 v x=some (v',H')/\kV H' v' (l++m) lo/\H'.next=H.next+1/\(∀k,k<lo->H'.get k=H.get k)/\ph v v' H H':=by
 obtain⟨n,hn⟩:∃n,m.length=n+1:=⟨m.length-1,Af⟩;have hmr:zfw=70368744177664:=rfl;rw[hn]at hx;rcases hv with⟨rfl,rfl⟩|⟨r,imm,rfl,h2,h3,h4,h5⟩
 .refine⟨.sl H.next 0 (n+1) 1,H.alloc (.cells (m.map (.int .u8)) 0 true),append_nil Tryz.underlying93 Dx Dy Dz aC hx (L6 m) rfl jQ jQ,⟨H.next,0,qT,ev,ac,hlo,cL _⟩,rfl,fun k hk=>ez,fun k hk _=>ez,fun k hk=>.inr ?_⟩;obtain⟨n',e⟩:=hk;simp only[AV.sl.injEq]at e;omega
 .have htr:gW false H 1 (.sl r 0 l.length 1)=H:=by
   unfold gW;simp only[h2,bT,dy,lY];have:Nat.blt l.length l.length=false:=by
    cases hb:Nat.blt l.length l.length with
    |false=>rfl
    |true=>rw[iW]at hb;omega
   simp[this]
  refine⟨.sl H.next 0 (l.length+(n+1)) 1,(H.kill r).alloc (.cells (l.map (.int .u8)++m.map (.int .u8)) (imm-0) true),?_,⟨H.next,imm,qT,?_,cT,hlo,cL _⟩,rfl,fun k hk=>?_,fun k hk hno=>?_,fun k hk=>.inr ?_⟩
  .simp only[zeZ,Tryz.underlying93,Dx,Dy,Dz,show zfT Tryz.prog 93=true by kernel_rfl,hx,L6,htr,oR,bN,mF,ja,h2,dy,bT,lY,gD];rw[aE ⟨jQ,jQ,trivial,trivial,h3⟩];simp
  .show((H.kill r).alloc _).get (H.kill r).next=_
   rw[zd1,aE rfl];simp
  .rw[zd1,ah l8,zfU,ah ac]
  .rw[zd1,ah l8,zfU,ah (fun e=>hno ⟨_,lZ⟩)]
  .obtain⟨n',e⟩:=hk;simp only[AV.sl.injEq]at e;omega
theorem ztb{H:Hp}{v:AV}{l:List Int}{lo r imm:Nat}(s:Int)(hv:FG H v l lo)(hlo:lo<=H.next)(hs:H.get r=some (.cells [.int .u8 s] imm true))(hb:l.length<2^39):
 ∃v' H',zeZ Tryz.prog false H 93 93 v (.sl r 0 1 1)=some (v',H')/\kV H' v' (l++[s]) lo/\H'.next=H.next+1/\(∀k,k<lo->H'.get k=H.get k)/\ph v v' H H':=
 zta hv hlo (zs9 (m:=[s]) hs) aK cT
theorem L7(H:Hp)(n:Int):zfn Tryz.prog H 93 1 [(0,.int .u8 n)]=some (.sl H.next 0 1 1,H.alloc (.cells [.int .u8 n] 0 true)):=aC
theorem bin_shr{D:BinOp->Sx->Sx->Option Bool}{t:TypeId}{k k':IntKind}{a:Int}{m:Nat}(h:m<64)(hk:k=.u64):jS Tryz.prog D .shr t (.int k a) (.int k' (m:Int))=some (.int k (a.fdiv (2^ m))):=by
 subst hk;have e:jS Tryz.prog D .shr t (.int .u64 a) (.int k' (Int.ofNat m))=some (.int .u64 (a.fdiv (2^ min m 64))):=rfl;rw[show min m 64=m by omega]at e;exact e
def lQ(n:Int)(i:Nat):Int:=IntKind.wrap .u8 (n.fdiv (2^ (8*i)))
def zf3(n:Int)(i:Nat):List Int:=(List.range i).map (lQ n)
theorem rA(n:Int)(i:Nat):(zf3 n i).length=i:=by simp[zf3]
theorem zmC(n:Int)(i:Nat):zf3 n (i+1)=zf3 n i++[lQ n i]:=by simp[zf3,Em]
def sO(l:List Int):List UInt8:=l.map fun n=>UInt8.ofNat n.toNat
def tyV1.tyF:=ad @eI (ad @dC (ad @DA (ad @eU (ad @en (ad @jP (ad @IJ (ad @IR (ad @IT (ad @IU (ad @IX (ad @IQ (ad @IV (ad @IY (@L7))))))))))))))
open tyV1
def uu(n:Nd):List Int:=IntKind.wrap .u8 n.op::(zf3 (IntKind.wrap .u64 n.imm) 8++n.kids.flatMap fun k=>zf3 (IntKind.wrap .u64 k) 8)
theorem ztc(n:Nd):uu n=[IntKind.wrap .u8 n.op]++zf3 (IntKind.wrap .u64 n.imm) 8++n.kids.flatMap fun k=>zf3 (IntKind.wrap .u64 k) 8:=by
 rw[uu];simp
theorem L8:∀l:List Int,tf (l.map (.int .u8))=some (sO l)
 |[]=>rfl
 |a::l=>by
  have:=L8 l;simp only[eF,tf,this];rfl
theorem ztd{H:Hp}{v:AV}{l:List Int}{lo:Nat}(hv:kV H v l lo):jq Tryz.prog H 93 9 v=some (.str (sO l)):=by
 obtain⟨r,im,rfl,hg,_⟩:=hv;have hx:zfz H 1 (.sl r 0 l.length 1)=some (l.length,l.map (.int .u8)):=by
  have:=tI (H:=H) (r:=r) (o:=0) (n:=l.length) (z:=1) (s:=1) hg aK;rw[this,gD,iq aK]
 simp only[jq,Tryz.underlying93,Tryz.underlying9,Tryz.underlying5,hx];rw[L8]
end
end Go.Proofs.YtpbcimfiofmoeaaGreat
namespace Go.Ab
set_option maxRecDepth 20000
open Go
def L9(k:IntKind)(a b:Int):Int:=a.fdiv (2^ min b.toNat k.bits)
theorem bin_shr{P:Program}{D:BinOp->Sx->Sx->Option Bool}{t:TypeId}{k k':IntKind}{a b:Int}(hb:0<=b):jS P D .shr t (.int k a) (.int k' b)=some (.int k (L9 k a b)):=by
 obtain⟨m,rfl⟩:=gG hb;simp only[jS,rM];show uL .shr k a (Int.ofNat m)=_;simp[uL,L9]
abbrev zeP:=List UInt8
structure MS where
 fuel:Int
 fin:Int
 code:Int
 cells:List (zeP×List Int)
 out:List Int
def i8:List (zeP×Int)->zeP->Int
 |[],_=>0
 |p::l,nm=>if nm=p.1 then p.2 else i8 l nm
def setV:List (zeP×Int)->zeP->Int->List (zeP×Int)
 |[],nm,x=>[(nm,x)]
 |p::l,nm,x=>if nm=p.1 then (nm,x)::l else p::setV l nm x
section
variable (p:Pr) (fi:List (zeP × Int))
end
def eW(vs:List (zeP×Int)):List (AV×AV):=vs.map fun p=>(.str p.1,.int .i64 p.2)
def cEs:List (zeP×List Int)->List Nat->List (AV×AV)
 |p::l,r::rs=>(.str p.1,.sl r 0 p.2.length 1)::cEs l rs
 |_,_=>[]
theorem Ma(nm:zeP):∀(vs:List (zeP×Int)) (i:Nat),(gX .string (.str nm) (eW vs) i=some none/\i8 vs nm=0/\∀x,eW (setV vs nm x)=eW vs++[(.str nm,.int .i64 x)]) \/
 ∃j,j<vs.length/\gX .string (.str nm) (eW vs) i=some (some (i+j,.int .i64 (i8 vs nm)))/\∀x,eW (setV vs nm x)=(eW vs).set j (.str nm,.int .i64 x)
 |[],i=>.inl ⟨rfl,rfl,fun _=>rfl⟩
 |p::l,i=>by
  by_cases h:nm=p.1
  .refine .inr ⟨0,aK,?_,fun x=>?_⟩
   .simp[eW,gX,pK,i8,h]
   .simp[eW,setV,h]
  .have hf:gX .string (.str nm) (eW (p::l)) i=gX .string (.str nm) (eW l) (i+1):=by
    show gX .string (.str nm) ((.str p.1,.int .i64 p.2)::eW l) i=_;have:(nm == p.1)=false:=jM;simp[gX,pK,this]
   have hl:i8 (p::l) nm=i8 l nm:=by simp[i8,h]
   have hs:∀x,eW (setV (p::l) nm x)=(.str p.1,.int .i64 p.2)::eW (setV l nm x):=fun x=>by simp[setV,h,eW]
   rw[hf,hl];rcases Ma nm l (i+1)with⟨h1,h2,h3⟩|⟨j,hj,h1,h3⟩
   .refine .inl ⟨h1,h2,fun x=>?_⟩;rw[hs,h3];simp[eW]
   .refine .inr ⟨j+1,cT,?_,fun x=>?_⟩
    .rw[h1,show i+1+j=i+(j+1) by omega]
    .rw[hs,h3];simp[eW]
structure Mx where
 p:Pr
 rm:Nat
 rc:Nat
 rf:Nat
 rs:List Nat
 fi:List (zeP×Int)
theorem zos{P:Program}{H:Hp}{t kt e r:Nat}{es:List (AV×AV)}{nm:zeP}{z:AV}(ht:P.underlying t=some (.map kt e))(hk:ny P kt=some .string)(hz:qA P e=some z)(hg:H.get r=some (.map es)):
 (gX .string (.str nm) es 0=some none->zge P H t (.map r) (.str nm) false=some z)/\∀i v,gX .string (.str nm) es 0=some (some (i,v))->zge P H t (.map r) (.str nm) false=some v:=by
 refine⟨fun h=>?_,fun i v h=>?_⟩<;>simp only[zge,ht,hk,hz,tc,hg,h,wD]
theorem zot{P:Program}{H:Hp}{t kt e r:Nat}{es:List (AV×AV)}{nm:zeP}{x:AV}(ht:P.underlying t=some (.map kt e))(hk:ny P kt=some .string)(hg:H.get r=some (.map es)):
 (gX .string (.str nm) es 0=some none->zgu P H t (.map r) (.str nm) x=some (H.set r (.map (es++[(.str nm,x)]))))/\∀i v,gX .string (.str nm) es 0=some (some (i,v))->zgu P H t (.map r) (.str nm) x=some (H.set r (.map (es.set i (.str nm,x)))):=by
 refine⟨fun h=>?_,fun i v h=>?_⟩<;>simp only[zgu,ht,hk,hg,h]
theorem Mb{P:Program}{H:Hp}{t kt e r:Nat}(ht:P.underlying t=some (.map kt e))(hk:ny P kt=some .string)(hz:qA P e=some (.int .i64 0)){vs:List (zeP×Int)}(hg:H.get r=some (.map (eW vs)))(nm:zeP):
 zge P H t (.map r) (.str nm) false=some (.int .i64 (i8 vs nm)):=by
 obtain⟨l1,l2⟩:=zos (nm:=nm) ht hk hz hg;rcases Ma nm vs 0 with⟨h1,h2,h3⟩|⟨j,hj,h1,h3⟩
 .rw[l1 h1,h2]
 .rw[l2 _ _ h1]
def m1:List (zeP×Int)->zeP->Bool
 |[],_=>false
 |p::l,nm=>if nm=p.1 then true else m1 l nm
theorem FH(nm:zeP):∀(vs:List (zeP×Int)) (i:Nat),(m1 vs nm=false->gX .string (.str nm) (eW vs) i=some none/\i8 vs nm=0)/\(m1 vs nm=true->∃j,gX .string (.str nm) (eW vs) i=some (some (j,.int .i64 (i8 vs nm))))
 |[],i=>⟨fun _=>⟨rfl,rfl⟩,fun h=>by simp[m1]at h⟩
 |p::l,i=>by
  by_cases h:nm=p.1
  .refine⟨fun h2=>by simp[m1,h]at h2,fun _=>⟨i,?_⟩⟩;simp[eW,gX,pK,i8,h]
  .have hf:gX .string (.str nm) (eW (p::l)) i=gX .string (.str nm) (eW l) (i+1):=by
    show gX .string (.str nm) ((.str p.1,.int .i64 p.2)::eW l) i=_;have:(nm == p.1)=false:=jM;simp[gX,pK,this]
   have hl:i8 (p::l) nm=i8 l nm:=by simp[i8,h]
   have hh:m1 (p::l) nm=m1 l nm:=by simp[m1,h]
   rw[hf,hl,hh];exact FH nm l (i+1)
theorem zxi{P:Program}{H:Hp}{t kt e r:Nat}(ht:P.underlying t=some (.map kt e))(hk:ny P kt=some .string)(hz:qA P e=some (.int .i64 0)){vs:List (zeP×Int)}(hg:H.get r=some (.map (eW vs)))(nm:zeP):
 zge P H t (.map r) (.str nm) true=some (.tup [.int .i64 (i8 vs nm),.bool (m1 vs nm)]):=by
 obtain⟨h1,h2⟩:=FH nm vs 0;cases hh:m1 vs nm with
 |false=>
  obtain⟨g1,g2⟩:=h1 hh;simp only[zge,ht,hk,hz,tc,hg,g1,wD,g2]
 |true=>
  obtain⟨j,g1⟩:=h2 hh;simp only[zge,ht,hk,tc,hg,g1,wD]
end Go.Ab
namespace Go.Proofs.YtpbcimfiofmoeaaGreat
set_option maxRecDepth 20000
open Go Go.Ab
section
def zbc(p:Pr):List (List UInt8):=p.funcs.map (·.name)
section
variable (c:Sc)
end
section
variable {p:Pr} (hd:lL [] (zbc p)=false) (c:Sc) (hc:c.p=p)
include hd hc
end
namespace tyV5
end tyV5
open tyV5
def kW(n:Nd):List UInt8:=sO (uu n)
end
section
theorem zte{l:List Ex}{i:Nat}{k:Ex}(hw:fO l=true)(h:l[i]?=some k):fI k=true:=by
 induction l generalizing i with
 |nil=>simp at h
 |cons e es ih=>
  rw[fO,cJ]at hw;cases i with
  |zero=>simp at h;subst h;exact hw.1
  |succ i=>exact ih hw.2 jM
theorem uw{α:Type}(l:List α){i:Nat}(h:i<l.length):∃k,l[i]?=some k:=⟨l[i],br h⟩
section
variable (p:Pr) (fi:List (zeP × Int))
end
structure Bd where
 l:List Nd
 vars:List Int
 state:Int
 loops:Nat
structure Cx where
 arrays:List Ar
 funcs:List Fu
 names:List zeP
def fP(l:List Nd)(n:Nd):Nat:=l.findIdx fun x=>decide (x=n)
def iB(l:List Nd)(n:Nd):List Nd:=if fP l n<l.length then l else l++[n]
def zdS(n:Nd)(s:Bd):Int×Bd:=(fP s.l n,{s with l:=iB s.l n})
def cR:List zeP->zeP->Nat
 |[],_=>0
 |a::l,s=>if a=s then 0 else if ze2 l s=true then cR l s+1 else 0
def zet(c a b:Int)(s:Bd):Int×Bd:=if a=b then (a,s)else zdS ⟨22,0,[c,a,b]⟩ s
def ky(trap v:Int)(s:Bd):Bd:=let r:=zdS ⟨27,trap,[s.state,v]⟩ s;{r.2 with state:=r.1}
def fQ(len i:Int)(s:Bd):Bd:=
 let r1:=zdS ⟨1,len,[]⟩ s
 let r2:=zdS ⟨19,0,[i,r1.1]⟩ r1.2
 ky 2 r2.1 r2.2
def jT(v:Int)(s:Bd):Bd:=
 let z:=zdS ⟨1,0,[]⟩ s
 let c:=zdS ⟨16,0,[v,z.1]⟩ z.2
 ky 1 c.1 c.2
def eL(c:Cx):Nat->Ex->Bd->Option (Int×Bd)
 |0,_,_=>none
 |n+1,x,s=>
  if x.kind=1 then some (zdS ⟨1,x.n,[]⟩ s)
  else if x.kind=2 then (s.vars[cR c.names x.name]?).map fun v=>(v,s)
  else if x.kind=3 then
   (x.kids[0]?).bind fun k=>(eL c n k s).bind fun r=>(c.arrays[cR (c.arrays.map (·.name)) x.name]?).bind fun a=>
     let s2:=fQ a.len r.1 r.2
     some (zdS ⟨23,cR (c.arrays.map (·.name)) x.name,[s2.state,r.1]⟩ s2)
  else if x.kind=5 then
   (x.kids[0]?).bind fun k0=>(eL c n k0 s).bind fun zee=>
   (x.kids[1]?).bind fun k1=>(eL c n k1 zee.2).bind fun r1=>
   (x.kids[2]?).bind fun k2=>(eL c n k2 {r1.2 with state:=zee.2.state}).bind fun r2=>
     let v:=zet zee.1 r1.1 r2.1 r2.2
     let t:=zet zee.1 r1.2.state v.2.state v.2
     some (v.1,{t.2 with state:=t.1})
  else
   (x.kids[0]?).bind fun k0=>(eL c n k0 s).bind fun zee=>
     if x.kids.length=1 then some (zdS ⟨x.op,0,[zee.1]⟩ zee.2)
     else (x.kids[1]?).bind fun k1=>(eL c n k1 zee.2).bind fun r1=>
      some (zdS ⟨x.op,0,[zee.1,r1.1]⟩ (if x.op=7\/x.op=8 then jT r1.1 r1.2 else r1.2))
def ou(c:Cx)(n:Nat):List Ex->Bd->Option (List Int×Bd)
 |[],s=>some ([],s)
 |x::l,s=>(eL c n x s).bind fun r=>(ou c n l r.2).bind fun r2=>some (r.1::r2.1,r2.2)
def lR(names:List zeP):Nat->List St->List Bool->Option (List Bool)
 |0,_,_=>none
 |n+1,l,b=>match l with
  |[]=>some b
  |x::l=>
   if (x.kind=1\/x.kind=6)/\b.length<=cR names x.name then none
   else (lR names n x.thn (if x.kind=1\/x.kind=6 then b.set (cR names x.name) true else b)).bind fun b2=>(lR names n x.els b2).bind fun b3=>lR names n l b3
def zfS(b:List Bool):List Nat:=(List.range b.length).filter fun i=>b.getD i false
def ow(c:Int)(a:List Int):Nat->Nat->Bd->Option Bd
 |0,_,s=>some s
 |k+1,i,s=>(a[i]?).bind fun x=>(s.vars[i]?).bind fun y=>
  let r:=zet c x y s
  ow c a k (i+1) {r.2 with vars:=r.2.vars.set i r.1}
def jU(base:Int):List Nat->Nat->Bd->Bd
 |[],_,s=>s
 |w::ws,j,s=>let r:=zdS ⟨3,base+j,[]⟩ s;jU base ws (j+1) {r.2 with vars:=r.2.vars.set w r.1}
def jV(loop c:Int)(old:List Int):List Nat->Nat->Bd->Bd
 |[],_,s=>s
 |w::ws,j,s=>
  let f:=zdS ⟨25,j,[loop]⟩ s
  let m:=zet c f.1 (old.getD w 0) f.2
  jV loop c old ws (j+1) {m.2 with vars:=m.2.vars.set w m.1}
section
variable (c:Cx)
mutual
def oz:Nat->St->Bd->Option Bd
 |0,_,_=>none
 |n+1,x,s=>
  if x.kind=1 then (eL c n x.value s).bind fun r=>if cR c.names x.name<r.2.vars.length then some {r.2 with vars:=r.2.vars.set (cR c.names x.name) r.1}else none
  else if x.kind=2 then (eL c n x.at_ s).bind fun i=>(eL c n x.value i.2).bind fun v=>(c.arrays[cR (c.arrays.map (·.name)) x.name]?).bind fun a=>
   let s2:=fQ a.len i.1 v.2
   let r:=zdS ⟨28,cR (c.arrays.map (·.name)) x.name,[s2.state,i.1,v.1]⟩ s2
   some {r.2 with state:=r.1}
  else if x.kind=3 then (eL c n x.value s).bind fun r=>(ij n x.thn r.2).bind fun a=>(ij n x.els {a with state:=r.2.state,vars:=r.2.vars}).bind fun b=>
   (ow r.1 a.vars b.vars.length 0 b).bind fun m=>
     let t:=zet r.1 a.state m.state m
     some {t.2 with state:=t.1}
  else if x.kind=4 then pE n x s
  else if x.kind=5 then (eL c n x.value s).bind fun v=>
   let r:=zdS ⟨29,0,[v.2.state,v.1]⟩ v.2
   some {r.2 with state:=r.1}
  else if x.kind=6 then (ou c n x.args s).bind fun av=>
   if 0<=zfc c.funcs x.to 0/\cR c.names x.name<av.2.vars.length then
    let r:=zdS ⟨30,zfc c.funcs x.to 0,av.2.state::av.1⟩ av.2
    let q:=zdS ⟨24,0,[r.1]⟩ {r.2 with state:=r.1}
    some {q.2 with vars:=q.2.vars.set (cR c.names x.name) q.1}
   else none
  else if x.kind=7 then let z:=zdS ⟨1,0,[]⟩ s;some (ky (cq (16+x.n)) z.1 z.2)
  else some s
def ij:Nat->List St->Bd->Option Bd
 |0,_,_=>none
 |n+1,l,s=>match l with
  |[]=>some s
  |x::l=>(oz n x s).bind fun r=>ij n l r
def pE:Nat->St->Bd->Option Bd
 |0,_,_=>none
 |n+1,x,s=>(eL c n x.value {s with loops:=s.loops+1}).bind fun r=>(lR c.names n x.thn (List.replicate r.2.vars.length false)).bind fun b=>
  let p:=zdS ⟨3,16*(s.loops:Int),[]⟩ r.2
  (ij n x.thn (jU (16*(s.loops:Int)+1) (zfS b) 0 {p.2 with state:=p.1})).bind fun t=>(eL c n x.value t).bind fun d=>
    let k:=zdS ⟨31,s.loops,r.2.state::((zfS b).map fun i=>r.2.vars.getD i 0)++[d.1,d.2.state]++((zfS b).map fun i=>d.2.vars.getD i 0)⟩ d.2
    let f:=zdS ⟨25,0,[k.1]⟩ {k.2 with vars:=r.2.vars}
    let m:=zet r.1 f.1 r.2.state f.2
    some (jV k.1 r.1 r.2.vars (zfS b) 1 {m.2 with state:=m.1})
end
end
def iC:Nat->Nat->Bd->Bd
 |0,_,s=>s
 |n+1,k,s=>let r:=zdS ⟨2,k,[]⟩ s;iC n (k+1) {r.2 with vars:=r.2.vars++[r.1] }
def jW:Nat->Bd->Bd
 |0,s=>s
 |n+1,s=>let r:=zdS ⟨1,0,[]⟩ s;jW n {r.2 with vars:=r.2.vars++[r.1] }
def kA(f:Fu):Bd:=let e:=zdS ⟨26,0,[]⟩ ⟨[],[],0,0⟩;jW f.locals.length (iC f.params.length 0 {e.2 with state:=e.1})
def oA(p:Pr)(f:Fu):Cx:=⟨p.arrays,p.funcs,f.params++f.locals⟩
def lS(p:Pr)(n:Nat)(f:Fu):Option Gr:=(ij (oA p f) n f.body (kA f)).bind fun s=>(eL (oA p f) n f.value s).bind fun v=>some ⟨f.name,f.params.length,v.2.l,v.1,v.2.state⟩
def oB(p:Pr)(n:Nat):List Fu->List Gr->Option (Un×Int)
 |[],gs=>some (⟨p.arrays,gs⟩,0)
 |f::l,gs=>(lS p n f).bind fun g=>if (2000:Int)<g.nodes.length then some (⟨[],[]⟩,6)else oB p n l (gs++[g])
def sP(p:Pr)(n:Nat):Option (Un×Int):=if zfY p=0 then oB p n p.funcs []else some (⟨[],[]⟩,zfY p)
structure NdR (n:Nd):Prop where
 op:0<=n.op/\n.op<256
 imm:-9223372036854775808<=n.imm/\n.imm<9223372036854775808
 kids:∀k∈n.kids,0<=k/\k<2^60
 len:n.kids.length<2^30
theorem Mc(n:Int):lQ n 0=n%256:=by
 rw[lQ,yo];simp[Int.fdiv_one]
theorem Md(n:Int)(i:Nat):lQ n (i+1)=lQ (n/256) i:=by
 rw[lQ,lQ];have e:(2:Int)^ (8*(i+1))=256*2^ (8*i):=by
  rw[Nat.mul_add,Int.pow_add];omega
 have p:(0:Int)<=2^ (8*i):=Int.le_of_lt (Int.pow_pos aY);rw[e,LV _ ac,LV _ p,Int.ediv_ediv_of_nonneg aY]
theorem zqM(n:Int)(i:Nat):0<=lQ n i/\lQ n i<256:=by
 rw[lQ,yo];omega
theorem Me:∀(k:Nat) (n m:Int),0<=n->n<256^ k->0<=m->m<256^ k->(∀i,i<k->lQ n i=lQ m i)->n=m
 |0,n,m,h1,h2,h3,h4,_=>by simp at h2 h4;omega
 |k+1,n,m,h1,h2,h3,h4,h=>by
  have e:(256:Int)^ (k+1)=256*256^ k:=by rw[Int.pow_succ];omega
  rw[e]at h2 h4;have h0:=h 0 ac;rw[Mc,Mc]at h0;have ih:=Me k (n/256) (m/256) ac (by generalize (256:Int)^ k=P at *;omega) ac (by generalize (256:Int)^ k=P at *;omega) (fun i hi=>by rw[<-Md,<-Md];exact h (i+1) ac);omega
theorem Mf:∀{l m:List Int},(∀x∈l,0<=x/\x<256)->(∀x∈m,0<=x/\x<256)->sO l=sO m->l=m
 |[],[],_,_,_=>rfl
 |[],_::_,_,_,h=>by simp[sO]at h
 |_::_,[],_,_,h=>by simp[sO]at h
 |a::l,b::m,hl,hm,h=>by
  simp only[sO,eF,eD]at h;have h1:=hl a fm;have h2:=hm b fm;have e:a=b:=by
   have:=lX UInt8.toNat h.1;rw[UInt8.toNat_ofNat',UInt8.toNat_ofNat']at this;omega
  rw[e,Mf (fun x hx=>hl x (gF _ hx)) (fun x hx=>hm x (gF _ hx)) h.2]
theorem Mg(n:Int)(k:Nat):∀x∈zf3 n k,0<=x/\x<256:=fun x hx=>by
 obtain⟨i,_,rfl⟩:=l0.1 hx;exact zqM n i
theorem Mh(n:Nd):∀x∈uu n,0<=x/\x<256:=fun x hx=>by
 rw[uu,iu,mI,CR]at hx;rcases hx with rfl|hx|⟨k,_,hx⟩
 .rw[yo];omega
 .exact Mg _ _ x hx
 .exact Mg _ _ x hx
theorem Mi{n m:Int}(h1:0<=n)(h2:n<18446744073709551616)(h3:0<=m)(h4:m<18446744073709551616)(h:zf3 n 8=zf3 m 8):n=m:=
 Me 8 n m h1 ac h3 ac fun i hi=>List.map_inj_left.1 h i (nK.2 hi)
theorem sQ(n:Int):0<=IntKind.wrap .u64 n/\IntKind.wrap .u64 n<18446744073709551616:=by rw[yp];omega
theorem Mj:∀{ks ms:List Int},(∀k∈ks,0<=k/\k<2^60)->(∀k∈ms,0<=k/\k<2^60)->(ks.flatMap fun k=>zf3 (IntKind.wrap .u64 k) 8)=(ms.flatMap fun k=>zf3 (IntKind.wrap .u64 k) 8)->ks=ms
 |[],[],_,_,_=>rfl
 |[],m::ms,_,_,h=>by
  have:=lX List.length h;rw[yq,eO,rA]at this;simp at this;omega
 |k::ks,[],_,_,h=>by
  have:=lX List.length h;rw[yq,eO,rA]at this;simp at this
 |k::ks,m::ms,hk,hm,h=>by
  rw[yq,yq]at h;obtain⟨h1,h2⟩:=List.append_inj h (by rw[rA,rA]);have e:=Mi (sQ k).1 (sQ k).2 (sQ m).1 (sQ m).2 h1;have a1:=hk k fm;have a2:=hm m fm;rw[yp,yp]at e;have e2:k=m:=ac;rw[e2,Mj (fun x hx=>hk x (gF _ hx)) (fun x hx=>hm x (gF _ hx)) h2]
theorem zqN{a b:Nd}(ha:NdR a)(hb:NdR b)(h:kW a=kW b):a=b:=by
 have h:=Mf (Mh a) (Mh b) h;rw[uu,uu,eD]at h;obtain⟨h1,h2⟩:=h;obtain⟨h3,h4⟩:=List.append_inj h2 (by rw[rA,rA]);have e3:=Mi (sQ _).1 (sQ _).2 (sQ _).1 (sQ _).2 h3;have e4:=Mj ha.kids hb.kids h4;have o1:=ha.op;have o2:=hb.op;have i1:=ha.imm;have i2:=hb.imm;rw[yo,yo]at h1;rw[yp,yp]at e3;obtain⟨ao,ai,ak⟩:=a;obtain⟨bo,bi,bk⟩:=b;simp only at *;rw[show ao=bo by omega,show ai=bi by omega,e4]
theorem Mk(x:Nd)(l:List Nd)(n:Nd):fP (x::l) n=if x=n then 0 else fP l n+1:=by
 unfold fP;rw[List.findIdx_cons];by_cases h:x=n<;>simp[h]
theorem Bz(l:List Nd)(n:Nd):fP l n<=l.length:=by unfold fP;exact List.findIdx_le_length
theorem Ml{l:List Nd}{n:Nd}:fP l n<l.length↔n∈l:=by
 unfold fP;rw[List.findIdx_lt_length];simp
theorem Mm{l:List Nd}{n:Nd}(h:fP l n<l.length):l[fP l n]?=some n:=by
 rw[br h];have:=List.findIdx_getElem (p:=fun x=>decide (x=n)) (xs:=l) (w:=h);simp only[jt]at this;exact lX some this
theorem zqO(l:List Nd)(n:Nd):(iB l n).length=if fP l n<l.length then l.length else l.length+1:=by
 unfold iB;split<;>simp[*]
theorem ux(l:List Nd)(n:Nd):l<+:iB l n:=by
 unfold iB;split
 .exact ol l
 .exact List.prefix_append l [n]
theorem zqP(l:List Nd)(n:Nd):(iB l n)[fP l n]?=some n:=by
 unfold iB;split
 .rename_i h;exact Mm h
 .rename_i h;have:=Bz l n;have e:fP l n=l.length:=ac;rw[e,mB (aM _),qJ];rfl
theorem we{l:List Nd}{n x:Nd}:x∈iB l n↔x∈l\/x=n:=by
 unfold iB;split
 .rename_i h;have:=Ml.1 h;constructor
  .exact .inl
  .rintro(h|rfl)
   .exact h
   .exact this
 .simp
def atV(l:List Nd)(i:Nat):List (zeP×Int):=(l.zipIdx i).map fun p=>(kW p.1,(p.2:Int))
theorem ztf(x:Nd)(l:List Nd)(i:Nat):atV (x::l) i=(kW x,(i:Int))::atV l (i+1):=by rw[atV,List.zipIdx_cons];rfl
theorem Mn{n:Nd}(hn:NdR n):∀(l:List Nd) (i:Nat),(∀x∈l,NdR x)->m1 (atV l i) (kW n)=decide (fP l n<l.length)/\(fP l n<l.length->i8 (atV l i) (kW n)=((i+fP l n:Nat):Int))/\(¬fP l n<l.length->∀x,setV (atV l i) (kW n) x=atV l i++[(kW n,x)])
 |[],i,_=>⟨rfl,fun h=>by simp[fP]at h,fun _ x=>rfl⟩
 |x::l,i,hl=>by
  obtain⟨h1,h2,h3⟩:=Mn hn l (i+1) fun y hy=>hl y (gF _ hy)
  rw[Mk,ztf,fj];by_cases e:x=n
  .subst e;refine⟨by simp[m1],fun _=>by simp[i8],fun h=>pS⟩
  .have ek:¬kW n=kW x:=fun h=>e (zqN hn (hl x fm) h).symm;rw[ah e];refine⟨?_,fun h=>?_,fun h y=>?_⟩
   .simp only[m1,ek];rw[h1];simp
   .have:=h2 ac;simp only[i8,ek,bU];rw[this];congr 1;omega
   .have:=h3 ac y;simp only[setV,ek,bU,this,r8]
theorem ztg(l:List Nd)(n:Nd):atV l 0++[(kW n,(l.length:Int))]=atV (l++[n]) 0:=by
 simp[atV,List.zipIdx_append]
theorem FI{P:Program}{t e:TypeId}{z b:Nat}{zz:List AV}(ht:P.underlying t=some (.slice e))(hs:zer P e=some z)(hb:zfg P e=some b)(hz:ze5 P e=some zz)(hzz:zz.length=z)(hsrc:zfT P t=true)
 {S S':Nat->Prop}{n:Nat}{H:Hp}{v:AV}{ws:List (List AV)} (h:ze4 S n H z v ws) (hSS:∀k,k<H.next->S k->S' k) (hN:S' H.next) {r imm:Nat}{row w:List AV} (hg:H.get r=some (.cells row imm true)) (hrow:row.length=z) (hone:row.all AV.one=true)
 (hw:zeA (fun k=>S' k/\∀o m z',v≠.sl k o m z') n H row w) (hb1:(ws.length+1)*b<=zfw) (hb2:ws.length+1<=zfw) :
 ∃H',zeZ P false H t t v (.sl r 0 1 z)=some (.sl H.next 0 (ws.length+1) z,H')/\ze4 S' n H' z (.sl H.next 0 (ws.length+1) z) (ws++[w])/\H'.next=H.next+1/\(∀k,k<H.next->(∀o m z',v≠.sl k o m z')->H'.get k=H.get k):=by
 obtain⟨H',rows,imm',a1,a2,a3,a4,a5,a6,a7,a8⟩:=zk5 (P:=P) ht hs hb hz hzz hsrc h hSS hN hg hrow hone hb1 hb2;refine⟨H',a1,?_,a6,a7⟩;exact ze4.of hN ac a3 hrow a4 a5 a8 (hw.keep2 (fun k h1 h2=>⟨h2.1,ac⟩) ac fun k h1 h2=>a7 k h2 h1.2)
structure zfh (a b:Bd):Prop where
 l:a.l<+:b.l
 n:a.loops<=b.loops
theorem zfh.refl(a:Bd):zfh a a:=⟨ol _,aM _⟩
def oC:=@zfh.refl
theorem zfh.trans{a b c:Bd}(h:zfh a b)(k:zfh b c):zfh a c:=⟨h.l.trans k.l,dr h.n k.n⟩
def BA:=@zfh.trans
structure Fin (s:Bd):Prop where
 r:∀x∈s.l,NdR x
 l:s.l.length<2^36
 n:s.loops<2^36
theorem Fin.le{a b:Bd}(h:Fin b)(k:zfh a b):Fin a:=⟨fun x hx=>h.r x (k.l.subset hx),ur k.l.length_le h.l,ur k.n h.n⟩
structure Lv (a b:Bd):Prop where
 le:zfh a b
 v:b.vars=a.vars
 n:b.loops=a.loops
theorem Lv.refl(a:Bd):Lv a a:=⟨oC a,rfl,rfl⟩
theorem Lv.trans{a b c:Bd}(h:Lv a b)(k:Lv b c):Lv a c:=⟨h.le.trans k.le,k.v.trans h.v,k.n.trans h.n⟩
theorem Lv.setS{a b:Bd}(h:Lv a b)(x:Int):Lv a {b with state:=x}:=⟨⟨h.le.l,h.le.n⟩,h.v,h.n⟩
theorem zfh.setS{a b:Bd}(h:zfh a b)(x:Int):zfh a {b with state:=x}:=⟨h.l,h.n⟩
theorem zfh.setV{a b:Bd}(h:zfh a b)(x:List Int):zfh a {b with vars:=x}:=⟨h.l,h.n⟩
theorem zfa(n:Nd)(s:Bd):Lv s (zdS n s).2:=⟨⟨ux s.l n,aM _⟩,rfl,rfl⟩
theorem zfX(c a b:Int)(s:Bd):Lv s (zet c a b s).2:=by
 unfold zet;split
 .exact Lv.refl s
 .exact zfa _ s
theorem rB(t v:Int)(s:Bd):Lv s (ky t v s):=(zfa _ s).setS _
theorem uy(t v:Int)(s:Bd):Lv s (fQ t v s):=(zfa _ s).trans ((zfa _ _).trans (rB _ _ _))
theorem BB(v:Int)(s:Bd):Lv s (jT v s):=(zfa _ s).trans ((zfa _ _).trans (rB _ _ _))
theorem zfx(c:Cx):∀(n:Nat) (x:Ex) (s:Bd) (r:Int×Bd),eL c n x s=some r->Lv s r.2
 |0,_,_,_,h=>by simp[eL]at h
 |n+1,x,s,r,h=>by
  have IH:=zfx c n;unfold eL at h;split at h
  .cases h;exact zfa _ s
  split at h
  .obtain⟨v,_,rfl⟩:=mD.1 h;exact Lv.refl s
  split at h
  .simp only[gL]at h;obtain⟨k,_,r1,h1,a,_,rfl⟩:=h;exact(IH _ _ _ h1).trans ((uy _ _ _).trans (zfa _ _))
  split at h
  .simp only[gL]at h;obtain⟨k0,_,zee,h0,k1,_,r1,h1,k2,_,r2,h2,rfl⟩:=h;have a:=(IH _ _ _ h0).trans (IH _ _ _ h1);have b:=(a.setS zee.2.state).trans (IH _ _ _ h2);exact(b.trans ((zfX _ _ _ _).trans (zfX _ _ _ _))).setS _
  .simp only[ir]at h;obtain⟨k0,_,zee,h0,h⟩:=h;have a:=IH _ _ _ h0;split at h
   .cases h;exact a.trans (zfa _ _)
   .simp only[gL]at h;obtain⟨k1,_,r1,h1,rfl⟩:=h;have b:=a.trans (IH _ _ _ h1);refine Lv.trans ?_ (zfa _ _);split
    .exact b.trans (BB _ _)
    .exact b
theorem wh(c:Cx)(n:Nat):∀(l:List Ex) (s:Bd) (r:List Int×Bd),ou c n l s=some r->Lv s r.2/\r.1.length=l.length
 |[],s,r,h=>by cases h;exact⟨Lv.refl s,rfl⟩
 |x::l,s,r,h=>by
  unfold ou at h;simp only[gL]at h;obtain⟨r1,h1,r2,h2,rfl⟩:=h;obtain⟨a,b⟩:=wh c n l _ _ h2;exact⟨(zfx c n _ _ _ h1).trans a,by simp[b]⟩
theorem wi(c:Int)(a:List Int):∀(k i:Nat) (s r:Bd),ow c a k i s=some r->zfh s r/\r.state=s.state/\r.vars.length=s.vars.length/\r.loops=s.loops
 |0,i,s,r,h=>by cases h;exact⟨oC s,rfl,rfl,rfl⟩
 |k+1,i,s,r,h=>by
  unfold ow at h;simp only[ir]at h;obtain⟨x,_,y,_,h⟩:=h;have e:=wi c a k (i+1) _ _ h;have m:=zfX c x y s;have hs:(zet c x y s).2.state=s.state:=by unfold zet;split<;>rfl
  refine⟨(m.le.setV _).trans e.1,e.2.1.trans hs,?_,e.2.2.2.trans m.n⟩;rw[e.2.2.1,iS,m.v]
theorem sR(base:Int):∀(ws:List Nat) (j:Nat) (s:Bd),zfh s (jU base ws j s)/\(jU base ws j s).state=s.state/\(jU base ws j s).vars.length=s.vars.length/\(jU base ws j s).loops=s.loops
 |[],j,s=>⟨oC s,rfl,rfl,rfl⟩
 |w::ws,j,s=>by
  unfold jU;have e:=sR base ws (j+1) { (zdS ⟨3,base+j,[]⟩ s).2 with vars:=(zdS ⟨3,base+j,[]⟩ s).2.vars.set w (zdS ⟨3,base+j,[]⟩ s).1};refine⟨((zfa _ s).le.setV _).trans e.1,e.2.1,?_,e.2.2.2⟩;rw[e.2.2.1,iS];rfl
theorem uz(lp c:Int)(old:List Int):∀(ws:List Nat) (j:Nat) (s:Bd),zfh s (jV lp c old ws j s)/\(jV lp c old ws j s).state=s.state/\(jV lp c old ws j s).vars.length=s.vars.length/\(jV lp c old ws j s).loops=s.loops
 |[],j,s=>⟨oC s,rfl,rfl,rfl⟩
 |w::ws,j,s=>by
  unfold jV;simp only[];have m:=(zfa ⟨25,j,[lp]⟩ s).trans (zfX c (zdS ⟨25,j,[lp]⟩ s).1 (old.getD w 0) (zdS ⟨25,j,[lp]⟩ s).2);have hs:(zet c (zdS ⟨25,j,[lp]⟩ s).1 (old.getD w 0) (zdS ⟨25,j,[lp]⟩ s).2).2.state=s.state:=by unfold zet;split<;>rfl
  generalize zet c (zdS ⟨25,j,[lp]⟩ s).1 (old.getD w 0) (zdS ⟨25,j,[lp]⟩ s).2=q at *;have e:=uz lp c old ws (j+1) {q.2 with vars:=q.2.vars.set w q.1};refine⟨(m.le.setV _).trans e.1,e.2.1.trans hs,?_,e.2.2.2.trans m.n⟩;rw[e.2.2.1,iS,m.v]
theorem ml(c:Cx):∀n:Nat,(∀x s r,oz c n x s=some r->zfh s r/\r.vars.length=s.vars.length)/\(∀l s r,ij c n l s=some r->zfh s r/\r.vars.length=s.vars.length)/\(∀x s r,pE c n x s=some r->zfh s r/\r.vars.length=s.vars.length)
 |0=>⟨fun _ _ _ h=>by simp[oz]at h,fun _ _ _ h=>by simp[ij]at h,fun _ _ _ h=>by simp[pE]at h⟩
 |n+1=>by
  obtain⟨I1,I2,I3⟩:=ml c n;refine⟨fun x s r h=>?_,fun l s r h=>?_,fun x s r h=>?_⟩
  .unfold oz at h;split at h
   .simp only[ir]at h;obtain⟨v,h1,h⟩:=h;split at h
    .cases h;have a:=zfx c n _ _ _ h1;exact⟨a.le.setV _,by rw[iS,a.v]⟩
    .cases h
   split at h
   .simp only[gL]at h;obtain⟨i,h1,v,h2,a,_,rfl⟩:=h;have a:=(zfx c n _ _ _ h1).trans ((zfx c n _ _ _ h2).trans ((uy a.len i.1 v.2).trans (zfa ⟨28,cR (c.arrays.map (·.name)) x.name,[(fQ a.len i.1 v.2).state,i.1,v.1]⟩ _)));exact⟨a.le.setS _,by show List.length (Bd.vars _)=_;rw[a.v]⟩
   split at h
   .simp only[gL]at h;obtain⟨q,h1,a,h2,b,h3,m,h4,rfl⟩:=h;have e1:=zfx c n _ _ _ h1;have e2:=I2 _ _ _ h2;have e3:=I2 _ _ _ h3;have e4:=wi _ _ _ _ _ _ h4;have e5:=zfX q.1 a.state m.state m;have k:zfh a b:=⟨e3.1.l,e3.1.n⟩;refine⟨(e1.le.trans (e2.1.trans (k.trans (e4.1.trans e5.le)))).setS _,?_⟩;show(zet q.1 a.state m.state m).2.vars.length=_;rw[e5.v,e4.2.2.1,e3.2];show q.2.vars.length=_;rw[e1.v]
   split at h
   .exact I3 _ _ _ h
   split at h
   .simp only[gL]at h;obtain⟨v,h1,rfl⟩:=h;have a:=(zfx c n _ _ _ h1).trans (zfa ⟨29,0,[v.2.state,v.1]⟩ v.2);exact⟨a.le.setS _,by show List.length (Bd.vars _)=_;rw[a.v]⟩
   split at h
   .simp only[ir]at h;obtain⟨av,h1,h⟩:=h;split at h
    .cases h;have a:=(wh c n _ _ _ h1).1;have b:=a.le.trans (zfa ⟨30,zfc c.funcs x.to 0,av.2.state::av.1⟩ av.2).le;refine⟨zfh.setV (BA (b.setS _) (zfa _ _).le) _,?_⟩;rw[iS];exact lX List.length a.v
    .cases h
   split at h
   .cases h;have a:=(zfa ⟨1,0,[]⟩ s).trans (rB (cq (16+x.n)) (zdS ⟨1,0,[]⟩ s).1 _);exact⟨a.le,by rw[a.v]⟩
   .cases h;exact⟨oC s,rfl⟩
  .unfold ij at h;cases l with
   |nil=>cases h;exact⟨oC s,rfl⟩
   |cons x l=>
    simp only[ir]at h;obtain⟨q,h1,h2⟩:=h;have a:=I1 _ _ _ h1;have b:=I2 _ _ _ h2;exact⟨a.1.trans b.1,b.2.trans a.2⟩
  .unfold pE at h;simp only[gL]at h;obtain⟨q,h1,b,_,t,h2,d,h3,rfl⟩:=h;have e1:=zfx c n _ _ _ h1;have e1':zfh s q.2:=⟨e1.le.l,dr (cZ _) e1.le.n⟩;have p:=zfa ⟨3,16*(s.loops:Int),[]⟩ q.2;have e2:=sR (16*(s.loops:Int)+1) (zfS b) 0 { (zdS ⟨3,16*(s.loops:Int),[]⟩ q.2).2 with state:=(zdS ⟨3,16*(s.loops:Int),[]⟩ q.2).1};have e3:=I2 _ _ _ h2;have e4:=zfx c n _ _ _ h3;have a1:zfh s d.2:=e1'.trans ((p.le.setS _).trans (e2.1.trans (e3.1.trans e4.le)));refine⟨?_,?_⟩
   .refine BA ?_ (uz _ _ _ _ _ _).1;refine zfh.setS ?_ _;refine BA (BA ?_ (zfa _ _).le) (zfX _ _ _ _).le;refine zfh.setV ?_ _;exact a1.trans (zfa _ _).le
   .rw[(uz _ _ _ _ _ _).2.2.1];show(zet _ _ _ _).2.vars.length=_;rw[(zfX _ _ _ _).v];show q.2.vars.length=_;rw[e1.v]
structure Qx where
 p:Pr
 b:Nat
 nv:AV
 ns:List zeP
def zek(X:Qx)(s:Bd)(lv vv:AV):List AV:=[.lst (X.p.arrays.map Ar.cells),.lst (X.p.funcs.map Fu.cells),lv,X.nv,vv,.int .i64 s.state,.int .i64 s.loops]
structure RepQ (X:Qx) (H:Hp) (S:Nat->Prop) (s:Bd) (lv vv:AV):Prop where
 m:H.get X.b=some (.cells (zek X s lv vv) 0 true)
 nm:eg H X.nv X.ns 0
 nodes:ze4 S 2 H 3 lv (s.l.map Nd.cells)
 vars:gQ H vv s.vars 0
 o5:X.b<H.next
 nS:∀k,zd3 X.nv k->X.b<k/\k<H.next/\¬S k/\¬zd3 vv k
 sS:∀k,S k->X.b<k/\k<H.next/\¬zd3 vv k
 vS:∀k,zd3 vv k->X.b<k/\k<H.next
structure FrQ (X:Qx) (S:Nat->Prop) (vv:AV) (H:Hp) (S':Nat->Prop) (vv':AV) (H':Hp):Prop where
 next:H.next<=H'.next
 get:∀k,k<H.next->k≠X.b->¬S k->¬zd3 vv k->H'.get k=H.get k
 sub:∀k,S' k->S k\/H.next<=k
 own:∀k,zd3 vv' k->zd3 vv k\/H.next<=k
theorem FrQ.refl(X:Qx)(S:Nat->Prop)(vv:AV)(H:Hp):FrQ X S vv H S vv H:=⟨aM _,fun _ _ _ _ _=>rfl,fun _ h=>.inl h,fun _ h=>.inl h⟩
def fd:=@FrQ.refl
theorem FrQ.trans{X:Qx}{S S' S'':Nat->Prop}{v v' v'':AV}{H H' H'':Hp}(h:FrQ X S v H S' v' H')(k:FrQ X S' v' H' S'' v'' H''):FrQ X S v H S'' v'' H'' where
 next:=dr h.next k.next
 get r h1 h2 h4 h5:=by
  rw[k.get r (qE h1 h.next) h2 (fun e=>?_) (fun e=>?_)]
  .exact h.get r h1 h2 h4 h5
  .rcases h.sub r e with e|e
   .exact h4 e
   .omega
  .rcases h.own r e with e|e
   .exact h5 e
   .omega
 sub r e:=by
  rcases k.sub r e with e|e
  .exact h.sub r e
  .exact .inr (dr h.next e)
 own r e:=by
  rcases k.own r e with e|e
  .exact h.own r e
  .exact .inr (dr h.next e)
section
variable {X:Qx} {H H':Hp} {S:Nat -> Prop} {s:Bd} {lv vv:AV}
theorem RepQ.keep(h:RepQ X H S s lv vv)(hn:H.next<=H'.next)(hg:∀k,k<H.next->(k<=X.b\/S k\/zd3 vv k\/zd3 X.nv k)->H'.get k=H.get k):RepQ X H' S s lv vv:=by
 have o5:=h.o5;refine⟨LU,h.nm.keep hn fun k hk=>hg k (h.nS k hk).2.1 (.inr (.inr (.inr hk))),h.nodes.keep (fun _ _ h=>h) hn fun k hk h6=>hg k h6 (.inr (.inl hk)),h.vars.keep hn fun k hk=>hg k (h.vS k hk).2 (.inr (.inr (.inl hk))),ac,fun k hk=>?_,fun k hk=>?_,fun k hk=>?_⟩
 .have:=h.nS k hk;exact⟨this.1,ac,this.2.2⟩
 .have:=h.sS k hk;exact⟨this.1,ac,this.2.2⟩
 .have:=h.vS k hk;omega
theorem RepQ.alloc(h:RepQ X H S s lv vv)(b:HB):RepQ X (H.alloc b) S s lv vv:=h.keep (cZ _) fun k hk _=>ez
theorem FrQ.alloc{S0:Nat->Prop}{v0:AV}{zeo:Hp}(h:FrQ X S0 v0 zeo S vv H)(b:HB):FrQ X S0 v0 zeo S vv (H.alloc b):=h.trans ⟨cZ _,fun k hk _ _ _=>ez,fun _ h=>.inl h,fun _ h=>.inl h⟩
theorem RepQ.setS(h:RepQ X H S s lv vv)(x:Int):RepQ X (H.set X.b (.cells (zek X {s with state:=x} lv vv) 0 true)) S {s with state:=x} lv vv/\FrQ X S vv H S vv (H.set X.b (.cells (zek X {s with state:=x} lv vv) 0 true)):=by
 have o5:=h.o5;have hg:∀k,k≠X.b->(H.set X.b (.cells (zek X {s with state:=x} lv vv) 0 true)).get k=H.get k:=fun k hk=>jg;refine⟨⟨ft,h.nm.keep (aM _) fun k hk=>hg k Ft,h.nodes.keep (fun _ _ h=>h) (aM _) fun k hk h6=>hg k Bt,h.vars.keep (aM _) fun k hk=>hg k Fv,o5,h.nS,h.sS,h.vS⟩,⟨aM _,fun k _ h2 _ _=>hg k h2,fun _ h=>.inl h,fun _ h=>.inl h⟩⟩
theorem RepQ.setN(h:RepQ X H S s lv vv)(x:Nat):RepQ X (H.set X.b (.cells (zek X {s with loops:=x} lv vv) 0 true)) S {s with loops:=x} lv vv/\FrQ X S vv H S vv (H.set X.b (.cells (zek X {s with loops:=x} lv vv) 0 true)):=by
 have o5:=h.o5;have hg:∀k,k≠X.b->(H.set X.b (.cells (zek X {s with loops:=x} lv vv) 0 true)).get k=H.get k:=fun k hk=>jg;refine⟨⟨ft,h.nm.keep (aM _) fun k hk=>hg k Ft,h.nodes.keep (fun _ _ h=>h) (aM _) fun k hk h6=>hg k Bt,h.vars.keep (aM _) fun k hk=>hg k Fv,o5,h.nS,h.sS,h.vS⟩,⟨aM _,fun k _ h2 _ _=>hg k h2,fun _ h=>.inl h,fun _ h=>.inl h⟩⟩
theorem RepQ.setV(h:RepQ X H S s lv vv){i:Nat}(hi:i<s.vars.length)(x:Int):∃r,zeE Tryz.prog 23 vv (.int .i64 (i:Int))=some (.ptr r i)/\zfC Tryz.prog H 3 (.ptr r i)=some (.int .i64 (s.vars.getD i 0)) /\
 ∃H',j5 Tryz.prog H 3 (.ptr r i) (.int .i64 x)=some H'/\X.b<r/\r<H.next/\zd3 vv r/\RepQ X H' S {s with vars:=s.vars.set i x} lv vv/\FrQ X S vv H S vv H'/\(∀k,k≠r->H'.get k=H.get k)/\H'.next=H.next:=by
 rcases h.vars with⟨_,h2⟩|⟨r,hv,hg,hr0,hr⟩
 .rw[h2]at hi;simp at hi
 .have hown:zd3 vv r:=⟨_,hv⟩;have hbr:=(h.vS r hown).1;refine⟨r,?_,?_,H.set r (.cells ((s.vars.set i x).map (.int .i64)) 0 true),?_,hbr,hr,hown,?_,⟨aM _,fun k _ _ _ h5=>?_,fun _ h=>.inl h,fun _ h=>.inl h⟩,fun k hk=>jg,rfl⟩
  .rw[hv,mL Tryz.underlying23 gN hi];simp
  .rw[r0 Tryz.underlying3 rfl hg,fF,dM,br hi];rfl
  .rw[vE hg (by rw[dy];exact hi),re]
  .have o5:=h.o5;have hk:∀k,k≠r->(H.set r (.cells ((s.vars.set i x).map (.int .i64)) 0 true)).get k=H.get k:=fun k hk=>jg;refine⟨by rw[hk _ ac];exact h.m,h.nm.keep (aM _) fun k h9=>hk k fun e=>(h.nS k h9).2.2.2 yn,h.nodes.keep (fun _ _ h=>h) (aM _) fun k hS _=>hk k fun e=>(h.sS k hS).2.2 yn,.inr ⟨r,by rw[hv,iS],ft,hr0,hr⟩,o5,h.nS,h.sS,h.vS⟩
  .rw[bz,ah (fun e=>h5 yn)]
theorem RepQ.swapV(h:RepQ X H S s lv vv){vw:AV}{l:List Int}(hw:gQ H vw l 0)(h1:∀k,zd3 vw k->X.b<k/\k<H.next/\¬S k/\¬zd3 X.nv k):RepQ X (H.set X.b (.cells (zek X {s with vars:=l} lv vw) 0 true)) S {s with vars:=l} lv vw:=by
 have o5:=h.o5;have hg:∀k,k≠X.b->(H.set X.b (.cells (zek X {s with vars:=l} lv vw) 0 true)).get k=H.get k:=fun k hk=>jg;exact⟨ft,h.nm.keep (aM _) fun k hk=>hg k Ft,h.nodes.keep (fun _ _ h=>h) (aM _) fun k hk h6=>hg k Bt,hw.keep (aM _) fun k hk=>hg k (by have:=h1 k hk;omega),o5,fun k hk=>⟨(h.nS k hk).1,(h.nS k hk).2.1,(h.nS k hk).2.2.1,fun e=>(h1 k e).2.2.2 hk⟩,fun k hk=>⟨(h.sS k hk).1,(h.sS k hk).2.1,fun e=>(h1 k e).2.2.1 hk⟩,fun k hk=>⟨(h1 k hk).1,(h1 k hk).2.1⟩⟩
end
def pF(X:Qx)(S:Nat->Prop)(vv:AV)(H:Hp)(r:Int×Bd)(v:AV)(H':Hp):Prop:=v=.int .i64 r.1/\∃S' lv',RepQ X H' S' r.2 lv' vv/\FrQ X S vv H S' vv H'
def nf(X:Qx)(S:Nat->Prop)(vv:AV)(H:Hp)(r:Bd)(v:AV)(H':Hp):Prop:=∃S' lv' vv',RepQ X H' S' r lv' vv'/\FrQ X S vv H S' vv' H'
def zbk(X:Qx)(S:Nat->Prop)(vv:AV)(H:Hp)(r:Bd)(v:AV)(H':Hp):Prop:=∃S' lv',RepQ X H' S' r lv' vv/\FrQ X S vv H S' vv H'
theorem RepQ.new{X:Qx}{H:Hp}{S:Nat->Prop}{s:Bd}{lv vv:AV}(h:RepQ X H S s lv vv){r:Nat}(hr:H.next<=r):¬S r/\¬zd3 vv r/\X.b<r:=⟨fun e=>by have:=(h.sS r e).2.1;omega,fun e=>by have:=(h.vS r e).2;omega,by have:=h.o5;omega⟩
theorem pF.pre{X:Qx}{S S0:Nat->Prop}{vv:AV}{H zeo:Hp}{r:Int×Bd}{v:AV}{H':Hp}(h:pF X S vv H r v H')(hf:FrQ X S0 vv zeo S vv H):pF X S0 vv zeo r v H':=by
 obtain⟨h1,S',lv',h2,h3⟩:=h;exact⟨h1,S',lv',h2,hf.trans h3⟩
theorem nf.pre{X:Qx}{S S0:Nat->Prop}{v0 vv:AV}{H zeo:Hp}{r:Bd}{v:AV}{H':Hp}(h:nf X S vv H r v H')(hf:FrQ X S0 v0 zeo S vv H):nf X S0 v0 zeo r v H':=by
 obtain⟨S',lv',vv',h2,h3⟩:=h;exact⟨S',lv',vv',h2,hf.trans h3⟩
theorem FrQ.box{X:Qx}{H1 H2:Hp}{S S2:Nat->Prop}{s:Bd}{lv vv vv2:AV}(hR:RepQ X H1 S s lv vv){b:HB}(h:FrQ X S vv (H1.alloc b) S2 vv2 H2):H2.get H1.next=some b:=by
 have n:=hR.new (aM _);rw[h.get _ (cL _) (by have:=n.2.2;omega) n.1 n.2.1,zd1,aE rfl]
def fK:=@FrQ.box
theorem RepQ.atV{X:Qx}{H:Hp}{S:Nat->Prop}{s:Bd}{lv vv:AV}(h:RepQ X H S s lv vv){i:Nat}{x:Int}(hi:s.vars[i]?=some x):∃r,zeE Tryz.prog 23 vv (.int .i64 (i:Int))=some (.ptr r i)/\zfC Tryz.prog H 3 (.ptr r i)=some (.int .i64 x):=by
 have hlt:i<s.vars.length:=by
  by_cases c:i<s.vars.length
  .exact c
  .rw[iY ac]at hi;cases hi
 obtain⟨r,h1,h2,_⟩:=h.setV hlt 0;refine⟨r,h1,?_⟩;rw[h2,dM,hi];rfl
end
end Go.Proofs.YtpbcimfiofmoeaaGreat
