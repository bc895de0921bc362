/- Lemmas for the last file. -/
import Derived.Test.YtbflaciihaijgaaPEG
set_option linter.all false
set_option maxHeartbeats 32000000
namespace Go.Ab
set_option maxRecDepth 20000
open Go
abbrev qO:=List Bool
variable{qd:Prop}
def dL(h:qd:=by simp only[bj];omega):=h
def CV(h:qd:=by simp only[bj]at n5;omega):=h
def ea(h:qd:=by rfl):=h
def Mh(h:qd:=by show cV l V C=_;rw[Z,<- j,h2];exact Cq K I):=h
def GU(h:qd:=by rw[hkeep];exact a5):=h
def CW(h:qd:=by rw[<- hHb,Hp.get_set,if_pos rfl]):=h
def zE(h:qd:=by rw[hlc];omega):=h
def GV(h:qd:=by rw[Hp.get_set,if_pos rfl,O]):=h
def p9(h:qd:=by simp at o;omega):=h
def GW(h:qd:=by rw[List.drop_eq_getElem_cons z,List.any_cons]):=h
def CX(h:qd:=by rw[iN ac ac];omega):=h
def sP(h:qd:=by rw[aQ,if_pos ea];rfl):=h
def zF(h:qd:=by simp only[aF,Nat.reduceBEq, *];exact gQ (n:=n.ak.length) ac ac):=h
def rN(h:qd:=by rw[Hp.get_set,if_neg ac,aQ,if_neg ac]):=h
def Mi(h:qd:=by rw[show l.length - i=(l.length - (i+1))+1 by omega];rfl):=h
def Mj(h:qd:=by rw[Hp.get_set,if_neg ac,aQ,if_neg ac];exact J):=h
def Mk(h:qd:=by rw[Hp.get_set,if_neg ac,aQ,if_neg ac];exact hg3):=h
def Ml(h:qd:=by rw[List.set_append,if_neg ac,hml,Nat.sub_self,List.set_cons_zero]):=h
def GX(h:qd:=by rw[Hp.get_set,if_neg ac];exact g45):=h
def xH(h:qd:=by simp only[aF,Nat.reduceBEq, *];exact gQ (n:=p.aa.length) ac ac):=h
def CY(h:qd:=by simp only[aF,Nat.reduceBEq, *];exact gQ (n:=x.args.length) ac ac):=h
def zG:=@List.take_zero
def Mm:=@List.flatMap_nil
def io:=@decide_eq_true
def iy:=@decide_eq_false
def CZ:=@List.any_eq_true
def Mn:=@List.fst_mem_of_mem_zipIdx
def sQ:=@Int.tdiv_eq_ediv_of_nonneg
def oB:=@List.drop_eq_nil_of_le
def C0:=@Nat.or_lt_two_pow
def GY:=@BitVec.testBit_toNat
def Mo:=@Nat.lt_pow_two_of_testBit
def GZ:=@Nat.pow_lt_pow_right
def xI:=@Bool.not_or
def sR:=@of_decide_eq_true
end Go.Ab
namespace Go.Proofs.Ytbflaciihaijgaa
set_option maxRecDepth 20000
open Go Go.Ab Proofs.Try
variable(ρ:Nat->Int)
variable{cfg:Cfg}{H H':Hp}{v:AV}{lo n i j:Nat}{l:qy}{V:FuncId}{S:Nat->Prop}{C:qs}{s:qu}{z:Int}
section
def tyV1.tyF:=ad @ez (ad @cR (ad @Cc (ad @dt (ad @fP (ad @ol (ad @V9 (ad @XJ (ad @Yk (ad @Ym (ad @Yn (ad @KZ (ad @Yo (ad @Yp (@Y3))))))))))))))
open tyV1
noncomputable def Mp:{c:SC // aI 20 (f129.body.getD .skip)=c}:=by
 refine⟨?_,?_⟩;rotate_left
 .simp only[f129,bS,aI,bM,bI,bT,bU,Nat.blt,Nat.ble];rfl
noncomputable def Mq:{c:SC // aI 29 (f96.body.getD .skip)=c}:=by
 refine⟨?_,?_⟩;rotate_left
 .simp only[f96,bS,aI,bM,bI,bT,bU,Nat.blt,Nat.ble];rfl
def Mr(O:zd0 cfg 129)(Z:cfg.keep 129=false){b:qu}(hv:mc H v b lo)(o:b.length<2^38)(n:Int):
 aY prog cfg 129 [v,.int .u64 n] H fun w H'=>mc H' w (b++js n 8) lo/\H.next<=H'.next/\∀k,k<lo->H'.get k=H.get k:=by
 obtain⟨b9,i0,V,_⟩:=id hv;have hone:AV.one v=true:=by rw[V];rfl
 clear V;refine bF (M:=20) (rs:=[.tmp 4]) (O.call _) O.aD O.aq func129 rfl rfl Mp.2 rfl ?_;dsimp only[Mp,bA,Nat.reduceAdd];repeat' (first
  |(apply aj ?_;clear hK K)|apply Rx.o ?_|apply ah ?_|(apply ai fun K hK=>?_)|apply ak ?_|apply am ?_|apply aq ?_|apply aw ?_)
 refine cA [1] [] 5 8 (fun i E Y=>∃w,E.at 0=w/\mc Y w (b++js n i) lo/\∀k,k<lo->Y.get k=H.get k) eE ⟨v,eE,by simpa [js]using hv,fun _ _=>rfl⟩ ?_;rintro i E Y hi m J I hsI ⟨w,k0,z,L⟩;(try simp only[bp,bm,aU,aF,aW,Nat.reduceBEq,Nat.reduceAdd,Nat.reduceLeDiff,tyF, *]at m);(try simp only[bp,bm,aU,aF,aW,Nat.reduceBEq,Nat.reduceAdd,Nat.reduceLeDiff,tyF, *]at J);(try simp only[bj,bE,cm,bO,Nat.reduceAdd]at I);by_cases C:i<8
 .have U:(i:Int)<8:=by omega
  have e1:IntKind.wrap .i64 (8*(i:Int))=((8*i:Nat):Int):=CX;have e2:IntKind.wrap .u64 ((8*i:Nat):Int)=((8*i:Nat):Int):=(by decide:∀i:Fin 8,IntKind.wrap .u64 ((8*i.val:Nat):Int)=((8*i.val:Nat):Int)) ⟨i,C⟩;have e4:∀(D:BinOp->Sx->Sx->qF) (t:TypeId),em prog D .shr t (.int .u64 n) (.int .u64 ((8*i:Nat):Int))=some (.int .u64 (n.fdiv (2^ (8*i)))):=fun D t=>bin_shr ac rfl;repeat' (first
   |(apply aj ?_;clear hK K)|apply Ry.o ?_|(apply bq (fun o g=>?_) (fun o g=>?_)<;>try(cases o;done))|apply ah ?_|(apply ai fun K hK=>?_)|apply ak ?_|apply am ?_|apply aq ?_|apply aw ?_)
  have hwb:GE (Y.alloc (.cells [.int .u8 (mL n i)] 0 true)) w (b++js n i) lo:=.inr (z.keep (dH _) fun k j=>by rw[aQ,af (by have:=(z.lt j).2;omega)]);have hlo2:lo<=Y.next:=by obtain⟨r,im,_,_,_,h1,h2⟩:=z;omega
  obtain⟨v5,H5,a5,s5,n5,f5,o5⟩:=Y2 (r:=Y.next) (imm:=0) (mL n i) hwb dL gD (by rw[fg,sJ];omega);have n5':Y.next<=H5.next:=CV
  have o5':∀k,k<lo->H5.get k=H.get k:=fun k j=>by rw[f5 k j,aQ,af ac,L k j]
  clear n5 f5 o5;refine jr cS cS (by rw[Z];exact a5) ?_;repeat' (first
   |(apply aj ?_;clear hK K)|apply Rx.o ?_|apply ah ?_|(apply ai fun K hK=>?_)|apply ak ?_|apply am ?_|apply aq ?_|apply aw ?_)
  refine⟨ac,a2,a2,ce,(by simp only[aF,Nat.reduceBEq, *];exact gQ (n:=8) ac ac),?_⟩;exact⟨v5,eE,by rw[Y4,<-lT];exact s5,o5'⟩
 .have U:¬(i:Int)<8:=by omega
  repeat' (first
   |(apply aj ?_;clear hK K)|apply Ry.o ?_|(apply bq (fun o g=>?_) (fun o g=>?_)<;>try(cases o;done))|apply ah ?_|(apply ai fun K hK=>?_)|apply ak ?_|apply am ?_|apply aq ?_|apply aw ?_)
  all_goals refine qq ?_
  have hie:i=8:=ac;rw[hie]at z;exact⟨z,ac,L⟩
def uf(n:Nd):qu:=IntKind.wrap .u8 n.op::(js (IntKind.wrap .u64 n.au) 8++n.ak.flatMap fun k=>js (IntKind.wrap .u64 k) 8)
def ZJ(n:Nd):uf n=[IntKind.wrap .u8 n.op]++js (IntKind.wrap .u64 n.au) 8++n.ak.flatMap fun k=>js (IntKind.wrap .u64 k) 8:=by
 rw[uf];simp
theorem Ms:∀l:qu,uT (l.map (.int .u8))=some (sK l)
 |[]=>rfl
 |a::l=>by
  have:=Ms l;simp only[dS,uT,this];rfl
def ZK{l:qu}(V:mc H v l lo):lP prog H 38 9 v=some (.ai (sK l)):=by
 obtain⟨r,O,rfl,J,_⟩:=V;have I:fN H 1 (.sl r 0 l.length 1)=some (l.length,l.map (.int .u8)):=by
  have:=tN (H:=H) (r:=r) (o:=0) (n:=l.length) (z:=1) (s:=1) J az;rw[this,fF,gZ az]
 simp only[lP,underlying38,underlying9,underlying5,I];rw[Ms]
def zH(n:Nd):qs:=[.agg n.cells]
def ZL(x y:Nd)(h:zH x=zH y):x=y:=by
 simp only[zH,dR,AV.agg.injEq,aU]at h;exact tT h
theorem ZM(n:Nd)(hn:n.ak.length<2^30):bX prog ρ 96 [.agg n.cells] (.ai (sK (uf n))):=eg fit (pls:=pls) (l:=[]) trivial (.cons (.agg n.pure) .nil) (.ai _) (by
 have L:=fj 96;refine bF (M:=29) (rs:=[.tmp 2]) (L.call _) L.aD L.aq func96 rfl rfl Mq.2 rfl ?_;dsimp only[Mq,bA,Nat.reduceAdd];repeat' (first
  |(apply aj ?_;clear hK K)|apply Rx.o ?_|apply ah ?_|(apply ai fun K hK=>?_)|apply ak ?_|apply am ?_|apply aq ?_|apply aw ?_)
 refine qc ?_;refine bb ?_ (Mr (fj _) rfl (b:=[IntKind.wrap .u8 n.op]) (lo:=1) ⟨1,0,rfl,sP,dN _,aO _,by simp[bj]⟩ az _);rintro w H1 ⟨Z,dy,o1⟩;have g1:H1.get 0=some (.cells n.cells 0 true):=by rw[o1 0 ac];rfl
 have n1':1<=H1.next:=by simp only[bj]at dy;omega
 clear dy o1;dsimp only[aZ];repeat' (first
  |(apply aj ?_;clear hK K)|apply Rx.o ?_|apply ah ?_|(apply ai fun K hK=>?_)|apply ak ?_|apply am ?_|apply aq ?_|apply aw ?_)
 refine cA [1,2,16,17] [] 18 n.ak.length (fun j E H=>∃w,E.at 3=w/\mc H w ([IntKind.wrap .u8 n.op]++js (IntKind.wrap .u64 n.au) 8++(n.ak.take j).flatMap fun k=>js (IntKind.wrap .u64 k) 8) 1/\H.get 0=some (.cells n.cells 0 true)) eE ⟨w,eE,wV,g1⟩ ?_;rintro j E H2 hj m V U hsI ⟨w2,k3,z,g2⟩;(try simp only[bp,bm,aU,aF,aW,Nat.reduceBEq,Nat.reduceAdd,Nat.reduceLeDiff,tyF, *]at m);(try simp only[bp,bm,aU,aF,aW,Nat.reduceBEq,Nat.reduceAdd,Nat.reduceLeDiff,tyF, *]at V);(try simp only[bj,bE,cm,bO,Nat.reduceAdd]at U);by_cases O:j<n.ak.length
 .have Y:(j:Int)<n.ak.length:=by omega
  have J:n.ak[j]?=some n.ak[j]:=a0 O;have I:n.ak.take (j+1)=n.ak.take j++[n.ak[j]]:=by rw[ry,J];rfl
  have hfl:((n.ak.take j).flatMap fun k=>js (IntKind.wrap .u64 k) 8).length<=8*j:=by
   rw[List.length_flatMap];simp only[sJ];have:((n.ak.take j).map fun _=>8).sum=8*(n.ak.take j).length:=by
    generalize n.ak.take j=q;induction q with
    |nil=>rfl
    |cons a q ih=>simp[ih];omega
   rw[this,lS];omega
  generalize n.ak[j]=kd at *;repeat' (first
   |(apply aj ?_;clear hK K)|apply Ry.o ?_|(apply bq (fun o g=>?_) (fun o g=>?_)<;>try(cases o;done))|apply ah ?_|(apply ai fun K hK=>?_)|apply ak ?_|apply am ?_|apply aq ?_|apply aw ?_)
  refine qc ?_;refine bb ?_ (Mr (fj _) rfl z (by rw[fg,fg,sJ,List.length_singleton];omega) _);rintro w3 H3 ⟨i,n3,o3⟩;have g3:H3.get 0=some (.cells n.cells 0 true):=by rw[o3 0 ac];exact g2
  dsimp only[aZ];repeat' (first
   |(apply aj ?_;clear hK K)|apply Rx.o ?_|apply ah ?_|(apply ai fun K hK=>?_)|apply ak ?_|apply am ?_|apply aq ?_|apply aw ?_)
  refine⟨ac,a2,a2,ce,zF,?_⟩;exact⟨w3,eE,by rw[I,List.flatMap_append,vD,Mm,jI,<-lT];exact i,g3⟩
 .have Y:¬(j:Int)<n.ak.length:=by omega
  have C:j=n.ak.length:=ac;subst C;rw[yD]at z;have hcv:=ZK z;rw[<-ZJ]at hcv;repeat' (first
   |(apply aj ?_;clear hK K)|apply Ry.o ?_|(apply bq (fun o g=>?_) (fun o g=>?_)<;>try(cases o;done))|apply ah ?_|(apply ai fun K hK=>?_)|apply ak ?_|apply am ?_|apply aq ?_|apply aw ?_)
  all_goals (refine⟨aD,_,aN,?_⟩;try simp only[aC]))
end
section
def nL:Nat->AV->Bool
 |0,_=>false
 |n+1,v=>match v with
  | .sl _ _ _ _=>true
  | .agg Y=>Y.any (nL n)
  |_=>false
theorem zI{S:Nat->Prop}{H:Hp}{n m k:Nat}(ih:∀{v u:AV},cW S n H v u->nL m (cq k v)=false->cq k u=cq k v):∀{Y j:qs},cy (cW S n H) Y j->(Y.map (cq k)).any (nL m)=false->j.map (cq k)=Y.map (cq k)
 |[],[],_,_=>rfl
 |c::Y,d::j,h,h2=>by
  simp only[dS,pp,kS]at h2;rw[dS,dS,ih h.1 h2.1,zI ih h.2 h2.2]
theorem C1{S:Nat->Prop}{H:Hp}:∀(n m k:Nat) {v u:AV},n<=m->cW S n H v u->nL m (cq k v)=false->cq k u=cq k v
 |0,_,_,_,_,_,h,_=>h.elim
 |n+1,0,_,_,_,h,_,_=>by omega
 |n+1,m+1,k,v,u,hm,h,h2=>by
  cases v with
  |sl r o l z=>cases k<;>simp[cq,nL]at h2
  |agg Y=>
   obtain⟨j,i,rfl⟩:=h;cases k with
   |zero=>
    have e:∀v,cq 0 v=v:=fun v=>by cases v<;>rfl
    have Z:(Y.map (cq 0)).any (nL m)=false:=by
     rw[show Y.map (cq 0)=Y by rw[show cq 0=id from funext e,List.map_id]];simpa [cq,nL]using h2
    have:=zI (k:=0) (fun U M=>C1 n m 0 ac U M) i Z;rw[show cq 0=id from funext e,List.map_id,List.map_id]at this;rw[this]
   |succ k=>
    have Z:(Y.map (cq k)).any (nL m)=false:=by simpa [cq,nL]using h2
    show AV.agg (j.map (cq k))=AV.agg (Y.map (cq k));rw[zI (fun U M=>C1 n m k ac U M) i Z]
  |_=>obtain⟨_,rfl⟩:=h;rfl
def G3{l:qA}{J:Type}{ok:J->Prop}{enc:J->qs}{out:J->AV}(K:∀x y,enc x=enc y->x=y)(Z:∀o,cV l V o=ch ok enc out (o.map (cq 60)))(z:iL l V=true)(O:∀y,(enc y).any (nL 90)=false){x:J}(I:ok x)(Y:n<=90){us:qs}(h1:cy (cW S n H) C us)(h2:us.map (cq 60)=enc x):
 aY prog (aH pls l) V C H fun v H'=>v=out x/\Icy S H H':=by
 by_cases hd:∃y,ok y/\enc y=C.map (cq 60)
 .obtain⟨y,_,e⟩:=hd;have j:us.map (cq 60)=C.map (cq 60):=zI (m:=90) (fun U M=>C1 n 90 60 Y U M) h1 (by rw[<-e];exact O y);refine bb ?_ (Ct (r:=out x) Mh);rintro v H' ⟨rfl,rfl⟩;exact⟨rfl,zw _ _⟩
 .obtain⟨H',U,M⟩:=cW.iceL (n:=100) (l:=C) (m:=us) (cy.mono (fun a b k=>cW.up k ac) h1);refine Ki (r:=out x) ?_ z rfl U ?_ ⟨rfl,M⟩ fun _=>⟨rfl,zw _ _⟩
  .show cV l V C=none;rw[Z];exact Cr fun y L e=>hd ⟨y,L,e⟩
  .show cV l V us=_;rw[Z,h2];exact Cq K I
def ZN{l:qA}{J:Type}{ok:J->Prop}{enc:J->qs}{out:J->AV}(K:∀x y,enc x=enc y->x=y)(Z:∀o,cV l V o=ch ok enc out (o.map (cq 60)))(z:iL l V=true)(O:∀y,(enc y).any (nL 90)=false){x:J}(I:ok x)(i:yq (out x)=true)(Y:n<=90){us:qs}(h1:cy (cW S n H) C us)(h2:us.map (cq 60)=enc x):
 aY prog (aH pls l) V C H fun v H'=>v=out x/\H'=H:=by
 by_cases hd:∃y,ok y/\enc y=C.map (cq 60)
 .obtain⟨y,_,e⟩:=hd;have j:us.map (cq 60)=C.map (cq 60):=zI (m:=90) (fun U M=>C1 n 90 60 Y U M) h1 (by rw[<-e];exact O y);exact Ct (r:=out x) Mh
 .obtain⟨H',U,M⟩:=cW.iceL (n:=100) (l:=C) (m:=us) (cy.mono (fun a b k=>cW.up k ac) h1);refine Uf (r:=out x) ?_ z rfl U ?_ i ⟨rfl,rfl⟩
  .show cV l V C=none;rw[Z];exact Cr fun y L e=>hd ⟨y,L,e⟩
  .show cV l V us=_;rw[Z,h2];exact Cq K I
def G4{P:Program}{f N:Nat}{a:SC}{E:aB}{Q:AX->aB->Hp->Prop}(F:aB->Hp->Prop)(h1:cb P cfg f N a E H fun x E' H'=>x=.normal/\F E' H')(h2:∀E' H',F E' H'->Q .normal E' H'):cb P cfg f N a E H Q:=
 cb.mono (fun x E' H' h=>by obtain⟨rfl,h⟩:=h;exact h2 E' H' h) h1
def tyI3.tyF:=ad @cR (ad @fP (ad @iU (ad @ol (ad @ez (ad @GL (@vr))))))
open tyI3
noncomputable def Mt:{c:SC // aI 80 (f95.body.getD .skip)=c}:=by
 refine⟨?_,?_⟩;rotate_left
 .simp only[f95,bS,aI,bM,bI,bT,bU,Nat.blt,Nat.ble];rfl
noncomputable def Mu:{c:SC // aI 22 (f47.body.getD .skip)=c}:=by
 refine⟨?_,?_⟩;rotate_left
 .simp only[f47,bS,aI,bM,bI,bT,bU,Nat.blt,Nat.ble];rfl
theorem Mv(S:Nat->Prop)(n:Nat)(H:Hp):∀s:qu,cy (cW S (n+1) H) (s.map (.int .i64)) (s.map (.int .i64))
 |[]=>trivial
 |a::s=>⟨tY ⟨.int _ _,trivial⟩,Mv S n H s⟩
theorem Mw(n:Nat)(s:qu):cq (n+2) (gh s)=gh s:=by
 show AV.ao ((s.map fun n=>[AV.int .i64 n]).map fun Y=>Y.map (cq (n+1)))=_;rw[yN];rfl
def fI.ic(h:fI H v s lo):∃u,cW (fun k=>lo<=k) 3 H v u/\cq 60 u=gh s:=by
 rcases h with⟨rfl,rfl⟩|⟨r,L,rfl,g,m,U,M⟩
 .exact⟨.ah,tY ⟨.ah,trivial⟩,rfl⟩
 .refine⟨.ao (gC 1 s.length (s.map (.int .i64))),⟨U,M,s.map (.int .i64),L,true,s.map (.int .i64),g,wS,az,?_,rfl⟩,?_⟩
  .rw[fF,lW,gZ az];exact Mv _ _ _ _
  .rw[GC];exact Mw 58 s
def gI.b4(h:gI H v s lo)(k:Icy S H H'):gI H' v s lo:=by
 obtain⟨r,L,rfl,g,m,U,M⟩:=h;rcases k.same r with e|⟨V,i,j,Z,o,J,Y⟩
 .exact⟨r,L,rfl,by rw[<-e];exact g,m,U,by rw[k.next];exact M⟩
 .rw[g]at o;simp only[aJ,HB.cells.injEq]at o;obtain⟨rfl,rfl,rfl⟩:=o;exact⟨r,j,rfl,J,by have:=Y wS;simpa using this,U,by rw[k.next];exact M⟩
def fI.b4(h:fI H v s lo)(k:Icy S H H'):fI H' v s lo:=h.imp id fun h=>h.b4 k
noncomputable def G5:En:=⟨127,true,ch (fun x=>x.2.length<2^30) ue fun x=>.bool (dJ x.1.op x.2)⟩
def ZO:cT prog ρ G5:=dg fun x I=>ZI ρ x I
noncomputable def vU:qA:=[rL G5,Me]
def ZP:gm prog ρ vU:=⟨CL (ZO ρ),Zy ρ,trivial⟩
theorem ZQ(n:Nat)(x:Nd):cq (n+4) (.agg x.cells)=.agg x.cells:=by
 show AV.agg (x.cells.map (cq (n+3)))=_;rw[Nd.cells];simp only[dS,mK,Mw];rfl
theorem ZR(y:Nd×qu):(ue y).any (nL 90)=false:=by
 obtain⟨⟨U,L,Z⟩,s⟩:=y;rfl
theorem ZS{l:qA}(K:∀o,cV l 127 o=(rL G5).sp o)(z:iL l 127=true)(V:fI H v s lo)(M:s.length<2^30)(n:Nd):
 aY prog (aH pls l) 127 [.agg n.cells,v] H fun w H'=>w=.bool (dJ n.op s)/\Icy (fun k=>lo<=k) H H':=by
 obtain⟨u,i,g⟩:=V.ic;obtain⟨Z,m⟩:∃us,cy (cW (fun k=>lo<=k) 2 H) n.cells us/\us=n.cells:=by
  refine⟨n.cells,?_,rfl⟩;rw[Nd.cells];exact⟨tY ⟨.int _ _,trivial⟩,tY ⟨.int _ _,trivial⟩,tY ⟨zj _,trivial⟩,trivial⟩
 obtain⟨m,rfl⟩:=m;refine G3 (x:=((n,s):Nd×qu)) (enc:=ue) (ok:=fun x=>x.2.length<2^30) (out:=fun x=>.bool (dJ x.1.op x.2)) (us:=[.agg n.cells,u]) (n:=3) ZB (fun o=>by rw[K];rfl) z ZR M ac ⟨⟨n.cells,m,rfl⟩,i,trivial⟩ ?_;show [cq 60 (.agg n.cells),cq 60 u]=_;rw[g,ZQ 56];rfl
def Mx{kn kids:qu}(m:j<kids.length):fy i kn (kids.drop j)=if kids[j]<0\/(i:Int)<=kids[j]\/kn.getD kids[j].toNat 0=0 then none else (fy i kn (kids.drop (j+1))).map fun s=>kn.getD kids[j].toNat 0::s:=by
 rw[eU m,fy]
def ug(i:Nat)(kn kids:qu)(j:Nat)(s:qu):Prop:=s.length=j/\fy i kn kids=(fy i kn (kids.drop j)).map fun t=>s++t
theorem ug.dV{kn kids:qu}(h:ug i kn kids j s)(J:kids[j]?=some z)(o:z<0\/(i:Int)<=z\/kn.getD z.toNat 0=0):fy i kn kids=none:=by
 obtain⟨m,e⟩:=eS.1 J;rw[h.2,Mx m,e,ay o];rfl
theorem ug.next{kn kids:qu}(h:ug i kn kids j s)(J:kids[j]?=some z)(o:¬(z<0\/(i:Int)<=z\/kn.getD z.toNat 0=0)):ug i kn kids (j+1) (s++[kn.getD z.toNat 0]):=by
 obtain⟨m,e⟩:=eS.1 J;refine⟨by simp[h.1],?_⟩;rw[h.2,Mx m,e,af o];cases fy i kn (kids.drop (j+1))with
 |none=>rfl
 |some t=>simp
def ug.done{kn kids:qu}(h:ug i kn kids kids.length s):fy i kn kids=some s:=by
 rw[h.2,fU];simp[fy]
def G6{kn:qu}{n:Nd}(C:l[i]?=some n)(h:fy i kn n.ak=none):jT l i kn=0:=by
 rw[jT,C];simp only[h]
def ZT{kn:qu}{n:Nd}(C:l[i]?=some n)(h:fy i kn n.ak=some s):jT l i kn=if dJ n.op s&&eu l n then je n s else 0:=by
 rw[jT,C];simp only[h]
theorem ZU{op:Int}(h:dJ op s=true)(m:op=25):s.length=1:=by
 subst m;by_cases c:s.length=1
 .exact c
 .rw[GT aM (by have e:(ek 25).1=1:=rfl;rw[e];omega)]at h;cases h
theorem ZV{op:Int}(h:dJ op s=true)(M:op=22):s.length=3:=by
 subst M;by_cases c:s.length=3
 .exact c
 .rw[GT aM (by have e:(ek 22).1=3:=rfl;rw[e];omega)]at h;cases h
def ZW{kn:qu}{n:Nd}(z:i<l.length)(K:∀n∈l,n.ak.length<2^30)(j:fy i kn n.ak=some s)(U:dJ n.op s=true):zD (l,n):=by
 intro Y;have V:=ZU U Y;rw[zy j]at V;obtain⟨k,Z⟩:=Y8 V;simp only[]at Z⊢;obtain⟨M,L,_⟩:=ub j k (by rw[Z];exact List.mem_singleton_self _);obtain⟨m,rfl⟩:=kq M;have O:m<l.length:=ac;exact⟨m,l[m],by rw[Z];rfl,a0 O,by have:=K _ (cL O);omega⟩
set_option maxRecDepth 100000 in
theorem ZX{kn:qu}{r:Nat}(hl:l.length<2^30)(hi:i<l.length)(hkl:∀n∈l,n.ak.length<2^30)(hkn:l.length<=kn.length)(J:H.get r=some (.cells (kn.map (.int .i64)) 0 true))(hr:r<H.next):
 aY prog (aH pls vU) 95 [kB l,.int .i64 i,.sl r 0 kn.length 1] H fun v H'=>v=.int .i64 (jT l i kn)/\H.next<=H'.next/\∀k,k<H.next->H'.get k=H.get k:=by
 have hw:zd0 (aH pls vU) 95:=dG (fun _=>rfl) rfl;have hkeep:(aH pls vU).keep 95=false:=rfl;have Y:l[i]?=some l[i]:=a0 hi;have hnk:=hkl _ (cL hi);generalize l[i]=n at *;refine bF (M:=80) (rs:=[.tmp 6]) (hw.call _) hw.aD hw.aq func95 rfl rfl Mt.2 rfl ?_;dsimp only[Mt,bA,Nat.reduceAdd];repeat' (first
  |(apply aj ?_;clear hK K)|apply Rx.o ?_|apply aE ?_|(apply aX (fun J g=>?_) (fun J g=>?_)<;>try(cases J;done))|(apply aA (fun o Z=>?_) (fun o Z=>?_)<;>try(cases o;done))|apply ah ?_|(apply ai fun K hK=>?_)|apply ak ?_|apply am ?_|apply aq ?_|apply aw ?_)
 refine cA [0,1,2,7,16,17] [] 18 n.ak.length (fun j E O=>∃v s,E.at 8=v/\fI O v s (H.next+1)/\ug i kn n.ak j s/\O.get H.next=some (.cells n.cells 0 true)/\∀k,k<H.next->O.get k=H.get k) eE ⟨.ah,[],eE,.inl ⟨rfl,rfl⟩,⟨rfl,az⟩,gL,fun k hk=>rN⟩ ?_;rintro j E O hj hcE hrH hnH hsI ⟨v,s,k8,hv,C,hn7,L⟩;(try simp only[bp,bm,aU,aF,aW,Nat.reduceBEq,Nat.reduceAdd,Nat.reduceLeDiff,tyF, *]at hcE);(try simp only[bp,bm,aU,aF,aW,Nat.reduceBEq,Nat.reduceAdd,Nat.reduceLeDiff,tyF, *]at hrH);(try simp only[bj,bE,cm,bO,Nat.reduceAdd]at hnH);repeat' (first
  |(apply aj ?_;clear hK K)|apply Rx.o ?_|apply aE ?_|(apply aX (fun J g=>?_) (fun J g=>?_)<;>try(cases J;done))|(apply aA (fun o Z=>?_) (fun o Z=>?_)<;>try(cases o;done))|apply ah ?_|(apply ai fun K hK=>?_)|apply ak ?_|apply am ?_|apply aq ?_|apply aw ?_)
 .have hlt:j<n.ak.length:=by simpa using o
  have z:n.ak[j]?=some n.ak[j]:=a0 hlt;generalize n.ak[j]=kd at *;have g2r:O.get r=some (.cells (kn.map (.int .i64)) 0 true):=by rw[L r hr];exact J
  by_cases c1:kd<0
  .repeat' (first
    |(apply aj ?_;clear hK K)|apply Ry.o ?_|(apply ct (fun J g=>?_) (fun J g=>?_)<;>try(cases J;done))|(apply bq (fun o Z=>?_) (fun o Z=>?_)<;>try(cases o;done))|apply ah ?_|(apply ai fun K hK=>?_)|apply ak ?_|apply am ?_|apply aq ?_|apply aw ?_)
   all_goals refine qq ?_
   refine⟨?_,ac,L⟩;rw[G6 Y (C.dV z (.inl c1))]
  by_cases c2:(i:Int)<=kd
  .have c1':¬kd<0:=c1;repeat' (first
    |(apply aj ?_;clear hK K)|apply Ry.o ?_|(apply ct (fun J g=>?_) (fun J g=>?_)<;>try(cases J;done))|(apply bq (fun o Z=>?_) (fun o Z=>?_)<;>try(cases o;done))|apply ah ?_|(apply ai fun K hK=>?_)|apply ak ?_|apply am ?_|apply aq ?_|apply aw ?_)
   all_goals refine qq ?_
   refine⟨?_,ac,L⟩;rw[G6 Y (C.dV z (.inr (.inl c2)))]
  obtain⟨m,rfl⟩:=kq (Int.not_lt.1 c1);have hml:m<kn.length:=ac;have hgk:kn[m]?=some kn[m]:=a0 hml;have hgd:kn.getD (m:Int).toNat 0=kn[m]:=by rw[iK,dF,hgk];rfl
  have hia:ey prog 22 (.sl r 0 kn.length 1) (.int .i64 (m:Int))=some (.ptr r m):=by rw[tM underlying22 jL hml];simp
  have hld:eY prog O 3 (.ptr r m)=some (.int .i64 kn[m]):=by rw[vt underlying3 rfl g2r,fO,hgk];rfl
  generalize kn[m]=x at *;repeat' (first
   |(apply aj ?_;clear hK K)|apply Ry.o ?_|(apply ct (fun J g=>?_) (fun J g=>?_)<;>try(cases J;done))|(apply bq (fun o Z=>?_) (fun o Z=>?_)<;>try(cases o;done))|apply ah ?_|(apply ai fun K hK=>?_)|apply ak ?_|apply am ?_|apply aq ?_|apply aw ?_)
  .all_goals refine qq ?_
   refine⟨?_,ac,L⟩;rw[G6 Y (C.dV z (.inr (.inr (by rw[hgd];assumption))))]
  .have hvb:fI (O.alloc (.cells [.int .i64 x] 0 true)) v s (H.next+1):=hv.keep (dH _) fun k hk=>by rw[aQ,af (by have:=(hv.lt hk).2;omega)]
   obtain⟨v5,H5,a5,s5,n5,f5,o5⟩:=GB (r:=O.next) (imm:=0) x hvb dL gD (by have:=C.1;omega);have hJn:=C.next z (by rw[hgd];rintro(h|h|h)<;>contradiction)
   rw[hgd]at hJn;have n5':O.next<=H5.next:=CV
   clear n5;have old5:∀k,k<H.next+1->H5.get k=O.get k:=fun k hk=>by rw[f5 k hk,aQ,af ac]
   refine jr cS cS GU ?_;repeat' (first
    |(apply aj ?_;clear hK K)|apply Rx.o ?_|apply aE ?_|(apply aX (fun J g=>?_) (fun J g=>?_)<;>try(cases J;done))|(apply aA (fun o Z=>?_) (fun o Z=>?_)<;>try(cases o;done))|apply ah ?_|(apply ai fun K hK=>?_)|apply ak ?_|apply am ?_|apply aq ?_|apply aw ?_)
   clear f5 o5 a5;refine⟨ac,a2,a2,ce,zF,?_⟩;refine⟨v5,s++[x],eE,.inr s5,hJn,by rw[old5 _ ac];exact hn7,fun k hk=>by rw[old5 k ac,L k hk]⟩
 .have hje:j=n.ak.length:=by simp at o;omega
  rw[hje]at C;have I:=ZT Y C.done;have hsl2:s.length<2^30:=by rw[C.1];exact hnk
  repeat' (first
   |(apply aj ?_;clear hK K)|apply Rx.o ?_|apply aE ?_|(apply aX (fun J g=>?_) (fun J g=>?_)<;>try(cases J;done))|(apply aA (fun o Z=>?_) (fun o Z=>?_)<;>try(cases o;done))|apply ah ?_|(apply ai fun K hK=>?_)|apply ak ?_|apply am ?_|apply aq ?_|apply aw ?_)
  refine qc ?_;refine bb ?_ (ZS (fun _=>rfl) rfl hv hsl2 n);rintro w H4 ⟨rfl,hy⟩;have n4:=hy.next
  have n4':H.next+1<=H4.next:=ac
  have V:=hv.b4 hy;have g4:H4.get H.next=some (.cells n.cells 0 true):=by rw[hy.out _ ac];exact hn7
  have o4:∀k,k<H.next->H4.get k=H.get k:=fun k hk=>by rw[hy.out _ ac,L k hk]
  clear hy n4 hv L hn7;dsimp only[aZ];cases hvd:dJ n.op s with
  |false=>
   repeat' (first
    |(apply aj ?_;clear hK K)|apply Rx.o ?_|apply aE ?_|(apply aX (fun J g=>?_) (fun J g=>?_)<;>try(cases J;done))|(apply aA (fun o Z=>?_) (fun o Z=>?_)<;>try(cases o;done))|apply ah ?_|(apply ai fun K hK=>?_)|apply ak ?_|apply am ?_|apply aq ?_|apply aw ?_)
   all_goals refine qq ?_
   refine⟨?_,ac,o4⟩;rw[I,hvd];rfl
  |true=>
  have U:=ZW hi hkl C.done hvd;rw[hvd,fT]at I;have kim:∀H,aY prog (aH pls vU) 128 [kB l,.agg n.cells] H fun v H'=>v=.bool (eu l n)/\H'=H:=fun H=>cF (enc:=vR) (ok:=zD) (out:=fun x=>.bool (eu x.1 x.2)) Zw (x:=(l,n)) rfl U;have hq:(16:Int)≠0:=aM;repeat' (first
   |(apply aj ?_;clear hK K)|apply Rx.o ?_|apply aE ?_|(apply eC ?_;first|refine bi (kim _) ?_)|(apply aX (fun J g=>?_) (fun J g=>?_)<;>try(cases J;done))|(apply aA (fun o Z=>?_) (fun o Z=>?_)<;>try(cases o;done))|apply ah ?_|(apply ai fun K hK=>?_)|apply ak ?_|apply am ?_|apply aq ?_|apply aw ?_)
  all_goals (first|(refine⟨aD,_,aN,?_⟩;(try simp only[aC]);refine⟨?_,ac,o4⟩;rw[I];unfold je;clear U kim o4 V I Y;simp_all;done)|skip)
  all_goals trace_state
  repeat' (first
   |(apply aj ?_;clear hK K)|apply Rx.o ?_|apply aE ?_|(apply aX (fun J g=>?_) (fun J g=>?_)<;>try(cases J;done))|(apply aA (fun o Z=>?_) (fun o Z=>?_)<;>try(cases o;done))|apply ah ?_|(apply ai fun K hK=>?_)|apply ak ?_|apply am ?_|apply aq ?_|apply aw ?_)
  have h22:n.op=22:=jm;have hl3:=ZV hvd h22;rcases V with⟨_,hnil⟩|V
  .rw[hnil]at hl3;simp at hl3
  obtain⟨q,hix,hlo⟩:=V.at (i:=1) ac;have hix':ey prog 22 v (.int .i64 1)=some (.ptr q 1):=hix;repeat' (first
   |(apply aj ?_;clear hK K)|apply Rx.o ?_|apply aE ?_|(apply aX (fun J g=>?_) (fun J g=>?_)<;>try(cases J;done))|(apply aA (fun o Z=>?_) (fun o Z=>?_)<;>try(cases o;done))|apply ah ?_|(apply ai fun K hK=>?_)|apply ak ?_|apply am ?_|apply aq ?_|apply aw ?_)
  all_goals refine qq ?_
  refine⟨?_,ac,o4⟩;have hgl:s.getD 1 0=s[1]' ac:=by rw[dF,a0 ac];rfl
  rw[I];unfold je;clear U kim o4 V I Y;simp_all
theorem My{i:Nat}{a b:qu}(j:a.length=i):∀L:qu,fy i (a++b) L=fy i a L
 |[]=>rfl
 |k::L=>by
  rw[fy,fy,My j L];by_cases h:k<0\/(i:Int)<=k
  .rw[ay ac,ay ac]
  .have e:(a++b).getD k.toNat 0=a.getD k.toNat 0:=by rw[dF,dF,iw ac]
   rw[e]
theorem ZY(l:qy)(b:qu):jT l i (eF l i++b)=jT l i (eF l i):=by
 unfold jT;cases l[i]? with
 |none=>rfl
 |some n=>simp only[My (pY l i)]
def mO(l:qy):Prop:=l.length<2^30/\∀n∈l,n.ak.length<2^30
def rb(l:qy):qs:=[kB l]
def C2(x y:qy)(h:rb x=rb y):x=y:=by
 simp only[rb,dR,aU]at h;exact Md h
def ZZ(l:qy)(hl:mO l):bX prog ρ 47 [kB l] (gh (eF l l.length)):=vF (m:=3) (cfg:=aH pls vU) fit (rD ρ) (gm.b2 (ZP ρ)) (.cons (zC _) .nil) (by
 obtain⟨j,C⟩:=hl;have hw:zd0 (aH pls vU) 47:=dG (fun _=>rfl) rfl;have hmk:∀H:Hp,j0 prog H 22 (.int .i64 l.length) (.int .i64 l.length)=some (.sl H.next 0 l.length 1,H.alloc (.cells ((List.replicate l.length (0:Int)).map (.int .i64)) 0 true)):=fun H=>YX _ _ (aO _) ac;refine bF (M:=22) (rs:=[.tmp 2]) (hw.call _) hw.aD hw.aq func47 rfl rfl Mu.2 rfl ?_;dsimp only[Mu,bA,Nat.reduceAdd];repeat' (first
  |(apply aj ?_;clear hK K)|apply Rx.o ?_|(apply aA (fun o g=>?_) (fun o g=>?_)<;>try(cases o;done))|apply ah ?_|(apply ai fun K hK=>?_)|apply ak ?_|apply am ?_|apply aq ?_|apply aw ?_)
 refine cA [0,2,3,9] [] 10 l.length (fun i E H=>H.get 0=some (.cells ((eF l i++List.replicate (l.length-i) 0).map (.int .i64)) 0 true)) eE (by rw[aQ,ay ea];simp[eF]) ?_;rintro i E H2 hi O J I hsI U;(try simp only[bp,bm,aU,aF,aW,Nat.reduceBEq,Nat.reduceAdd,Nat.reduceLeDiff,tyF, *]at O);(try simp only[bp,bm,aU,aF,aW,Nat.reduceBEq,Nat.reduceAdd,Nat.reduceLeDiff,tyF, *]at J);(try simp only[bj,bE,cm,bO,Nat.reduceAdd]at I);repeat' (first
  |(apply aj ?_;clear hK K)|apply Rx.o ?_|(apply aA (fun o g=>?_) (fun o g=>?_)<;>try(cases o;done))|apply ah ?_|(apply ai fun K hK=>?_)|apply ak ?_|apply am ?_|apply aq ?_|apply aw ?_)
 .have z:i<l.length:=by simpa using o
  refine qc ?_;have Z:(eF l i++List.replicate (l.length-i) (0:Int)).length=l.length:=by rw[fg,pY,pq];omega
  have Y:=ZX (l:=l) (i:=i) (kn:=eF l i++List.replicate (l.length-i) 0) (r:=0) (H:=H2) j z C ac U ac;rw[Z]at Y;refine bb ?_ Y;rintro w H3 ⟨rfl,hn3,L⟩;have g3:H3.get 0=_:=(L 0 ac).trans U;have n3:1<=H3.next:=ac
  rw[ZY];dsimp only[aZ];generalize hx:jT l i (eF l i)=x;have hsi:eF l (i+1)=eF l i++[x]:=by rw[eF,hx]
  repeat' (first
   |(apply aj ?_;clear hK K)|apply Ry.o ?_|apply ah ?_|(apply ai fun K hK=>?_)|apply ak ?_|apply am ?_|apply aq ?_|apply aw ?_)
  refine pR cS cS (zx g3 (by rw[dx,Z];exact z) x) ?_;repeat' (first
   |(apply aj ?_;clear hK K)|apply Rx.o ?_|(apply aA (fun o g=>?_) (fun o g=>?_)<;>try(cases o;done))|apply ah ?_|(apply ai fun K hK=>?_)|apply ak ?_|apply am ?_|apply aq ?_|apply aw ?_)
  refine⟨ac,a2,a2,ce,rJ,?_⟩;rw[a1,ay rfl,hsi,<-vI];have V:List.replicate (l.length-i) (0:Int)=0::List.replicate (l.length-(i+1)) 0:=Mi;rw[V,List.set_append,af (by rw[pY];omega),pY,lU,List.set_cons_zero,lT];rfl
 .have hie:i=l.length:=by simp at o;omega
  rw[hie,lU]at U;repeat' (first
   |(apply aj ?_;clear hK K)|apply Rx.o ?_|(apply aA (fun o g=>?_) (fun o g=>?_)<;>try(cases o;done))|apply ah ?_|(apply ai fun K hK=>?_)|apply ak ?_|apply am ?_|apply aq ?_|apply aw ?_)
  all_goals refine qq ?_
  have o:gI H2 (.sl 0 0 (eF l l.length).length 1) (eF l l.length) 0:=⟨0,0,rfl,xm,dN _,dN _,ac⟩;have:=o.iceV 1;rw[pY]at this;exact this)
noncomputable def G7:En:=⟨47,true,ch mO rb fun l=>gh (eF l l.length)⟩
def Z0:cT prog ρ G7:=dg fun l K=>ZZ ρ l K
def Z1{tb:qA}(U:∀o,cV tb 47 o=G7.sp o)(l:qy)(K:mO l)(H:Hp):aY prog (aH pls tb) 47 [kB l] H fun v H'=>v=gh (eF l l.length)/\H'=H:=
 cF (enc:=rb) (ok:=mO) (out:=fun l=>gh (eF l l.length)) C2 (x:=l) (U _) K
end
end Go.Proofs.Ytbflaciihaijgaa
namespace Go.Ab
set_option maxRecDepth 20000
open Go
variable{j:Nat}
def vV(a b:Nat):Nat:=a^^^ (a &&& b)
def rO(n:Nd)(h:qC)(j:Nat)(k:Int):Nat:=if n.op=31/\et n.ak.length<=j then vV (h.getD k.toNat 0) (2^ n.au.toNat)else h.getD k.toNat 0
def nM(n:Nd)(h:qC):Nat->qu->Nat->Nat
 |_,[],m=>m
 |j,k::ks,m=>nM n h (j+1) ks (m |||rO n h j k)
def pz(n:Nd)(h:qC):Nat:=nM n h 0 n.ak (if n.op=3 then 2^ (n.au.tdiv 16).toNat else 0)
def fz(l:qy):Nat->qC
 |0=>[]
 |i+1=>fz l i++[match l[i]? with|some n=>pz n (fz l i)|none=>0]
def Mz(n:Nd)(h:List qO)(j:Nat):Bool:=
 (n.ak.zipIdx.any fun p=>(h.getD p.1.toNat []).getD j false&&(!decide (n.op=31) || !decide ((j:Int)=n.au)||decide ((p.2:Int)<(n.ak.length:Int).tdiv 2)))||(decide (n.op=3)&&decide ((j:Int)=n.au.tdiv 16))
def vW(l:qy):Nat->List qO
 |0=>[]
 |i+1=>vW l i++[(List.range 16).map fun j=>match l[i]? with|some n=>Mz n (vW l i) j|none=>false]
theorem uh(l:qy):∀i,(fz l i).length=i
 |0=>rfl
 |i+1=>by rw[fz,fg,uh l i];rfl
theorem G8(l:qy):∀i,(vW l i).length=i
 |0=>rfl
 |i+1=>by rw[vW,fg,G8 l i];rfl
theorem zJ(a b j:Nat):(vV a b).testBit j=(a.testBit j && !b.testBit j):=by
 unfold vV;rw[Nat.testBit_xor,Nat.testBit_and];cases a.testBit j<;>cases b.testBit j<;>rfl
theorem C3(n:Nd)(h:qC)(t:Nat):∀(L:qu) (j m:Nat),(nM n h j L m).testBit t=(m.testBit t||(L.zipIdx j).any fun p=>(rO n h p.2 p.1).testBit t)
 |[],j,m=>by simp[nM]
 |k::L,j,m=>by
  rw[nM,C3 n h t L,Nat.testBit_or,List.zipIdx_cons,pp,Gn]
structure NdOk (n:Nd) (i:Nat):Prop where
 ak:∀k∈n.ak,0<=k/\k<i
 lv:n.op=3->0<=n.au/\n.au<=255
 lp:n.op=31->0<=n.au/\n.au<=15/\n.ak.length%2=1/\3<=n.ak.length
def zK(a t:Nat):(2^ a).testBit t=decide (a=t):=Nat.testBit_two_pow
def G9{J:Type}{a:List J}{x d:J}(h:j<a.length):(a++[x]).getD j d=a.getD j d:=by
 rw[dF,iw h,<-dF]
theorem He{J:Type}{a:List J}{x d:J}(h:j=a.length):(a++[x]).getD j d=x:=by
 subst h;rw[dF,kN (aO _),lU];rfl
theorem MA{l:qy}:∀(i:Nat),i<=l.length->(∀j n,j<i->l[j]?=some n->NdOk n j)->∀j,j<i->∀t,((fz l i).getD j 0).testBit t=(decide (t<16)&&((vW l i).getD j []).getD t false)
 |0,_,_,j,h,_=>by omega
 |i+1,hi,hok,j,hj,t=>by
  have ih:=MA i ac (fun j n h1 g=>hok j n ac g);rw[fz,vW];by_cases e:j<i
  .rw[G9 (by rw[uh];exact e),G9 (by rw[G8];exact e)];exact ih j e t
  .obtain rfl:j=i:=by omega
   rw[He (uh l j).symm,He (G8 l j).symm];obtain⟨n,C⟩:∃n,l[j]?=some n:=⟨l[j],a0 ac⟩;have ok:=hok j n (cI _) C;rw[C];simp only;by_cases c:t<16
   .rw[io c,fT,dF,fO,EC c];simp only[jo,bS];unfold pz Mz;rw[C3];have Z:(if n.op=3 then 2^ (n.au.tdiv 16).toNat else 0).testBit t=(decide (n.op=3)&&decide ((t:Int)=n.au.tdiv 16)):=by
     by_cases L:n.op=3
     .have:=ok.lv L;rw[ay L,zK,io L,fT,zp];have K:0<=n.au.tdiv 16:=Int.tdiv_nonneg this.1 ac;omega
     .rw[af L,iy L];simp
    rw[Z,Bool.or_comm]
    congr 1
    rw[Bn,CZ,CZ];have m:∀p∈n.ak.zipIdx,(rO n (fz l j) p.2 p.1).testBit t=(((vW l j).getD p.1.toNat []).getD t false&&(!decide (n.op=31) || !decide ((t:Int)=n.au)||decide ((p.2:Int)<(n.ak.length:Int).tdiv 2))):=fun p hp=>by
     have Y:p.1∈n.ak:=Mn hp;have J:=ok.ak _ Y;have o:=ih p.1.toNat ac t;rw[io c,fT]at o;unfold rO;by_cases O:n.op=31
     .obtain⟨i0,M,ho,h3⟩:=ok.lp O;have e2:et n.ak.length=((n.ak.length/2:Nat):Int):=zm;have I:(n.ak.length:Int).tdiv 2=((n.ak.length/2:Nat):Int):=rfl;rw[I,io O];by_cases U:et n.ak.length<=p.2
      .rw[ay ⟨O,U⟩,zJ,o,zK];have V:decide ((p.2:Int)<((n.ak.length/2:Nat):Int))=false:=iy ac;have z:decide (n.au.toNat=t)=decide ((t:Int)=n.au):=by rw[zp];omega
       rw[V,z];simp
      .rw[af (fun h=>U h.2),o];have V:decide ((p.2:Int)<((n.ak.length/2:Nat):Int))=true:=io ac;rw[V];simp
     .rw[af (fun h=>O h.1),o,iy O];simp
    constructor
    .rintro⟨p,hp,h⟩;exact⟨p,hp,by rw[<-m p hp];exact h⟩
    .rintro⟨p,hp,h⟩;exact⟨p,hp,by rw[m p hp];exact h⟩
   .rw[iy c,jS];unfold pz;rw[C3];have Z:(if n.op=3 then 2^ (n.au.tdiv 16).toNat else 0).testBit t=false:=by
     by_cases L:n.op=3
     .have:=ok.lv L;rw[ay L,zK];refine iy ?_;have K:n.au.tdiv 16<16:=by rw[sQ this.1];omega
      omega
     .rw[af L];simp
    rw[Z,lZ,xh];intro p hp;have Y:p.1∈n.ak:=Mn hp;have J:=ok.ak _ Y;have o:=ih p.1.toNat ac t;rw[iy c,jS]at o;unfold rO;split
    .rw[zJ,o];simp
    .rw[o];simp
end Go.Ab
namespace Go.Proofs.Ytbflaciihaijgaa
set_option maxRecDepth 20000
open Go Go.Ab Proofs.Try
variable(ρ:Nat->Int)
variable{r m a b:Nat}{H:Hp}{t:qu}{h:qC}{l:qy}
section
def tyV2.tyF:=ad @ez (ad @cR (ad @dt (ad @fP (ad @gH (ad @sC (ad @sD (ad @iU (ad @vB (ad @ol (ad @l9 (ad @X5 (ad @tL (@vr)))))))))))))
open tyV2
noncomputable def MB:{c:SC // aI 59 (f50.body.getD .skip)=c}:=by
 refine⟨?_,?_⟩;rotate_left
 .simp only[f50,bS,aI,bM,bI,bT,bU,Nat.blt,Nat.ble];rfl
noncomputable def xJ:{c:SC // aI 47 (f48.body.getD .skip)=c}:=by
 refine⟨?_,?_⟩;rotate_left
 .simp only[f48,bS,aI,bM,bI,bT,bU,Nat.blt,Nat.ble];rfl
def kC:qy->qu->Option qu
 |[],t=>some t
 |n::l,t=>if n.op=31 then (if 0<t.getD n.au.toNat 0 then none else kC l (t.set n.au.toNat (et n.ak.length)))else kC l t
def oC(t:qu)(n:Nd):Bool:=decide (n.op=3)&&decide (0<t.getD (n.au.tdiv 16).toNat 0)&&decide (t.getD (n.au.tdiv 16).toNat 0<=n.au.tmod 16)
def lL(l:qy):Bool:=match kC l (List.replicate 16 0)with
 |none=>false
 |some t=>l.all fun n=>!oC t n
def zL(n:Nd):Prop:=(n.op=31->0<=n.au/\n.au<=15)/\(n.op=3->0<=n.au/\n.au<=255)
def Z2(H:Hp):cP prog 159=some ((List.replicate 16 (0:Int)).map (.int .i64)):=aG
theorem MC(O:m<16):ey prog 159 (.ptr r 0) (.int .i64 (m:Int))=some (.ptr r m):=by
 have e:ey prog 159 (.ptr r 0) (.int .i64 (Int.ofNat m))=if m<16 then some (.ptr r (0+m*1))else none:=rfl
 rw[show((m:Nat):Int)=Int.ofNat m from rfl,e,ay O];simp
theorem MD{imm:Nat}(J:H.get r=some (.cells (t.map (.int .i64)) imm true))(O:m<t.length):eY prog H 3 (.ptr r m)=some (.int .i64 (t.getD m 0)):=by
 rw[vt underlying3 rfl J,fO,dF,a0 O];rfl
def Z3(J:H.get r=some (.cells (t.map (.int .i64)) 0 true))(O:m<t.length)(n:Int):mB prog H 3 (.ptr r m) (.int .i64 n)=some (H.set r (.cells ((t.set m n).map (.int .i64)) 0 true)):=by
 rw[zx J (by rw[dx];exact O),vI]
set_option maxRecDepth 100000 in
theorem Z4(l:qy)(hl:mO l)(hn:∀n∈l,zL n):bX prog ρ 50 [kB l] (.bool (lL l)):=eg fit (pls:=pls) (l:=[rM]) ⟨CT ρ,trivial⟩ (.cons (zC _) .nil) (.bool _) (by
 obtain⟨hl1,hl2⟩:=hl;have hw:zd0 (aH pls [rM]) 50:=dG (fun _=>rfl) rfl;have q16:(16:Int)≠0:=aM;refine bF (M:=59) (rs:=[.tmp 2]) (hw.call _) hw.aD hw.aq func50 rfl rfl MB.2 rfl ?_;dsimp only[MB,bA,Nat.reduceAdd];have gh0:=@Z2;repeat' (first
  |(apply aj ?_;clear hK K)|apply Rx.o ?_|apply ah ?_|(apply ai fun K hK=>?_)|(apply au 8 [(1,5),(1,7),(3,5),(4,5)] fun K hK=>?_)|(apply au 13 [(1,22),(5,22),(8,22),(13,22),(16,22),(19,22)] fun K hK=>?_)|(apply aS ?_;try intro _)|(apply aT ?_ ?_<;>clear hK K)|apply aR ?_|apply bD rfl ?_|apply ak ?_|apply am ?_|apply aq ?_|apply aw ?_)
 refine cA [0,3,8,9] [] 10 l.length (fun i E H=>∃t:qu,t.length=16/\H.get 0=some (.cells (t.map (.int .i64)) 0 true)/\kC l (List.replicate 16 0)=kC (l.drop i) t) eE ⟨List.replicate 16 0,az,sP,az⟩ ?_;rintro i E C hi hcE hrH z hsI ⟨t,ht,J,V⟩;(try simp only[bp,bm,aU,aF,aW,Nat.reduceBEq,Nat.reduceAdd,Nat.reduceLeDiff,tyF, *]at hcE);(try simp only[bp,bm,aU,aF,aW,Nat.reduceBEq,Nat.reduceAdd,Nat.reduceLeDiff,tyF, *]at hrH);(try simp only[bj,bE,cm,bO,Nat.reduceAdd]at z);have hB0:(0 == C.next)=false:=bz ac;have hC0:(C.next == 0)=false:=bz ac;have hn2:1<=C.next:=z
 by_cases L:i<l.length
 .have hlt':(i:Int)<l.length:=by omega
  have hgx:l[i]?=some l[i]:=a0 L;have hok:=hn _ (cL L);have hnk:=hl2 _ (cL L);have Y:kC (l.drop i) t=if l[i].op=31 then (if 0<t.getD l[i].au.toNat 0 then none else kC (l.drop (i+1)) (t.set l[i].au.toNat (et l[i].ak.length)))else kC (l.drop (i+1)) t:=by rw[eU L,kC]
  generalize l[i]=n at *;have e0:(0 == C.next)=false:=bz ac;by_cases h31:n.op=31
  .obtain⟨m0,cz⟩:=hok.1 h31;obtain⟨m,hm⟩:=kq m0;have U:m<16:=ac;rw[ay h31,hm,iK]at Y;have hix:=MC (r:=0) U;have hgA:∀b,(C.alloc b).get 0=some (.cells (t.map (.int .i64)) 0 true):=fun b=>by rw[aQ,af ac];exact J
   have O:∀b c,((C.alloc b).set C.next c).get 0=some (.cells (t.map (.int .i64)) 0 true):=fun b c=>by rw[a1,af ac];exact hgA b
   have hld:=fun b c=>MD (O b c) (m:=m) ac;generalize t.getD m 0=x at *;repeat' (first
    |(apply aj ?_;clear hK K)|apply Ry.o ?_|apply b8 ?_|(apply ee ?_;first|refine bi (xF (fun _=>rfl) _ ac _) ?_)|(apply bq (fun o g=>?_) (fun o g=>?_)<;>try(cases o;done))|apply ah ?_|(apply ai fun K hK=>?_)|(apply au 8 [(1,5),(1,7),(3,5),(4,5)] fun K hK=>?_)|(apply au 13 [(1,22),(5,22),(8,22),(13,22),(16,22),(19,22)] fun K hK=>?_)|(apply aS ?_;try intro _)|(apply aT ?_ ?_<;>clear hK K)|apply aR ?_|apply bD rfl ?_|(apply pU (fun J Z=>?_) (fun J Z=>?_)<;>try(cases J;done))|apply ak ?_|apply am ?_|apply aq ?_|apply aw ?_)
   .all_goals refine qq ?_
    rw[ay jm]at Y;rw[lL,V,Y]
   .refine pR cS cS (Z3 (O _ _) ac _) ?_;repeat' (first
     |(apply aj ?_;clear hK K)|apply Rx.o ?_|apply ah ?_|(apply ai fun K hK=>?_)|(apply au 8 [(1,5),(1,7),(3,5),(4,5)] fun K hK=>?_)|(apply au 13 [(1,22),(5,22),(8,22),(13,22),(16,22),(19,22)] fun K hK=>?_)|(apply aS ?_;try intro _)|(apply aT ?_ ?_<;>clear hK K)|apply aR ?_|apply bD rfl ?_|apply ak ?_|apply am ?_|apply aq ?_|apply aw ?_)
    .exact di
    .refine⟨ac,a2,a2,ce,rJ,?_⟩;exact⟨t.set m (et n.ak.length),by rw[ky];exact ht,gL,by rw[V,Y,af jm]⟩
  .rw[af h31]at Y;repeat' (first
    |(apply aj ?_;clear hK K)|apply Ry.o ?_|apply b8 ?_|(apply bq (fun o g=>?_) (fun o g=>?_)<;>try(cases o;done))|apply ah ?_|(apply ai fun K hK=>?_)|(apply au 8 [(1,5),(1,7),(3,5),(4,5)] fun K hK=>?_)|(apply au 13 [(1,22),(5,22),(8,22),(13,22),(16,22),(19,22)] fun K hK=>?_)|(apply aS ?_;try intro _)|(apply aT ?_ ?_<;>clear hK K)|apply aR ?_|apply bD rfl ?_|(apply pU (fun J Z=>?_) (fun J Z=>?_)<;>try(cases J;done))|apply ak ?_|apply am ?_|apply aq ?_|apply aw ?_)
   refine⟨ac,a2,a2,ce,rJ,?_⟩;exact⟨t,ht,Mj,by rw[V,Y]⟩
 .have hlt':¬(i:Int)<l.length:=by omega
  repeat' (first
   |(apply aj ?_;clear hK K)|apply Ry.o ?_|apply b8 ?_|(apply bq (fun o g=>?_) (fun o g=>?_)<;>try(cases o;done))|apply ah ?_|(apply ai fun K hK=>?_)|(apply au 8 [(1,5),(1,7),(3,5),(4,5)] fun K hK=>?_)|(apply au 13 [(1,22),(5,22),(8,22),(13,22),(16,22),(19,22)] fun K hK=>?_)|(apply aS ?_;try intro _)|(apply aT ?_ ?_<;>clear hK K)|apply aR ?_|apply bD rfl ?_|(apply pU (fun J Z=>?_) (fun J Z=>?_)<;>try(cases J;done))|apply ak ?_|apply am ?_|apply aq ?_|apply aw ?_)
  have hie:l.drop i=[]:=oB ac;rw[hie,kC]at V;have hvl:lL l=l.all fun n=>!oC t n:=by rw[lL,V]
  rw[hvl];clear hie V hvl;refine cA [3,30,31] [] 32 l.length (fun i E H=>H.get 0=some (.cells (t.map (.int .i64)) 0 true)/\(l.all fun n=>!oC t n)=(l.drop i).all fun n=>!oC t n) eE ⟨J,az⟩ ?_;rintro j E3 H3 hj hcE hrH z hsI ⟨hg3,V⟩;(try simp only[bp,bm,aU,aF,aW,Nat.reduceBEq,Nat.reduceAdd,Nat.reduceLeDiff,tyF, *]at hcE);(try simp only[bp,bm,aU,aF,aW,Nat.reduceBEq,Nat.reduceAdd,Nat.reduceLeDiff,tyF, *]at hrH);(try simp only[bj,bE,cm,bO,Nat.reduceAdd]at z);have hB0:(0 == H3.next)=false:=bz ac;have hC0:(H3.next == 0)=false:=bz ac;have hn3:1<=H3.next:=ac
  by_cases hjt:j<l.length
  .have hjt':(j:Int)<l.length:=by omega
   have hgx:l[j]?=some l[j]:=a0 hjt;have hok:=hn _ (cL hjt);have Y:((l.drop j).all fun n=>!oC t n)=(!oC t l[j]&&(l.drop (j+1)).all fun n=>!oC t n):=by rw[eU hjt,oy]
   generalize l[j]=n at *;have e0:(0 == H3.next)=false:=bz ac;by_cases h3:n.op=3
   .obtain⟨m0,cz⟩:=hok.2 h3;have hd:n.au.tdiv 16=n.au/16:=sQ m0;have hd0:0<=n.au.tdiv 16:=by rw[hd];omega
    obtain⟨m,hm⟩:=kq hd0;have U:m<16:=ac;have I:oC t n=(decide (0<t.getD m 0)&&decide (t.getD m 0<=n.au.tmod 16)):=by rw[oC,hm,h3,iK];rfl
    have ew:IntKind.wrap .i64 (n.au.tdiv 16)=m:=by rw[hm];exact iN ac ac
    have hix:=MC (r:=0) U;have O:∀b c,((H3.alloc b).set H3.next c).get 0=some (.cells (t.map (.int .i64)) 0 true):=fun b c=>Mk;have hld:=fun b c=>MD (O b c) (m:=m) ac;generalize t.getD m 0=x at *;clear hd hm;repeat' (first
     |(apply aj ?_;clear hK K)|apply Ry.o ?_|apply b8 ?_|(apply bq (fun o g=>?_) (fun o g=>?_)<;>try(cases o;done))|apply ah ?_|(apply ai fun K hK=>?_)|(apply au 8 [(1,5),(1,7),(3,5),(4,5)] fun K hK=>?_)|(apply au 13 [(1,22),(5,22),(8,22),(13,22),(16,22),(19,22)] fun K hK=>?_)|(apply aS ?_;try intro _)|(apply aT ?_ ?_<;>clear hK K)|apply aR ?_|apply bD rfl ?_|(apply pU (fun J Z=>?_) (fun J Z=>?_)<;>try(cases J;done))|apply ak ?_|apply am ?_|apply aq ?_|apply aw ?_)
    all_goals first
     |exact di
     |(refine⟨aD,_,oq,?_⟩
       simp only[aC];rw[V,Y,I];simp_all;done)
     |skip
    all_goals
     refine⟨ac,a2,a2,ce,rJ,?_⟩;exact⟨O _ _,by rw[V,Y,I];simp_all⟩
   .have I:oC t n=false:=by rw[oC,iy h3];rfl
    repeat' (first
     |(apply aj ?_;clear hK K)|apply Ry.o ?_|apply b8 ?_|(apply bq (fun o g=>?_) (fun o g=>?_)<;>try(cases o;done))|apply ah ?_|(apply ai fun K hK=>?_)|(apply au 8 [(1,5),(1,7),(3,5),(4,5)] fun K hK=>?_)|(apply au 13 [(1,22),(5,22),(8,22),(13,22),(16,22),(19,22)] fun K hK=>?_)|(apply aS ?_;try intro _)|(apply aT ?_ ?_<;>clear hK K)|apply aR ?_|apply bD rfl ?_|(apply pU (fun J Z=>?_) (fun J Z=>?_)<;>try(cases J;done))|apply ak ?_|apply am ?_|apply aq ?_|apply aw ?_)
    all_goals first
     |exact di
     |skip
    refine⟨ac,a2,a2,ce,rJ,?_⟩;exact⟨Mk,by rw[V,Y,I];rfl⟩
  .have hjt':¬(j:Int)<l.length:=by omega
   repeat' (first
    |(apply aj ?_;clear hK K)|apply Ry.o ?_|apply b8 ?_|(apply bq (fun o g=>?_) (fun o g=>?_)<;>try(cases o;done))|apply ah ?_|(apply ai fun K hK=>?_)|(apply au 8 [(1,5),(1,7),(3,5),(4,5)] fun K hK=>?_)|(apply au 13 [(1,22),(5,22),(8,22),(13,22),(16,22),(19,22)] fun K hK=>?_)|(apply aS ?_;try intro _)|(apply aT ?_ ?_<;>clear hK K)|apply aR ?_|apply bD rfl ?_|(apply pU (fun J Z=>?_) (fun J Z=>?_)<;>try(cases J;done))|apply ak ?_|apply am ?_|apply aq ?_|apply aw ?_)
   all_goals refine qq ?_
   rw[V,oB ac];rfl)
end
section
def tyV3.tyF:=ad @ez (ad @cR (ad @dt (ad @fP (ad @gH (ad @sC (ad @sD (ad @iU (ad @vB (ad @ol (@l9))))))))))
open tyV3
structure VrX where
 u:Un
 g:Gr
 n:Nd
def vX(x:VrX):qs:=[.agg x.u.cells,.agg x.g.cells,.agg x.n.cells]
def Z5(x y:VrX)(h:vX x=vX y):x=y:=by
 obtain⟨a,b,c⟩:=x;obtain⟨O,I,m⟩:=y;simp only[vX,dR,AV.agg.injEq,aU]at h;rw[Un.inj h.1,Gr.inj h.2.1,tT h.2.2]
def jU(u:Un)(g:Gr)(n:Nd):Bool:=
 if n.op=2 then decide (n.au<g.params)
 else if n.op=23\/n.op=28 then decide (n.au<u.aa.length)
 else if n.op=30 then decide (n.au<u.funcs.length)&&decide ((n.ak.length:Int)-1=(u.funcs.map Gr.params).getD n.au.toNat 0)
 else true
def Hf(x:VrX):Prop:=(x.n.op=30->0<=x.n.au)/\x.n.ak.length<2^30/\x.u.aa.length<2^30/\x.u.funcs.length<2^30
theorem Z6(x:VrX)(C:Hf x):bX prog ρ 48 (vX x) (.bool (jU x.u x.g x.n)):=eg fit (pls:=pls) (l:=[]) trivial (.cons (.agg (Un.pure _)) (.cons (.agg (Gr.pure _)) (.cons (.agg (zk _)) .nil))) (.bool _) (by
 obtain⟨u,g,n⟩:=x;obtain⟨O,j,ha,hf⟩:=C;have L:=fj 48;rw[vX];simp only[]at O j ha hf⊢;by_cases I:n.op=30
 .have h0:=O I;obtain⟨m,hm⟩:=kq h0;have e1:IntKind.wrap .i64 ((n.ak.length:Int)-1)=(n.ak.length:Int)-1:=iN ac ac;have hr:jU u g n=(decide ((m:Int)<u.funcs.length)&&decide ((n.ak.length:Int)-1=(u.funcs.map Gr.params).getD m 0)):=by
   rw[jU,af ac,af ac,ay I,hm,iK]
  by_cases z:m<u.funcs.length
  .have V:(m:Int)<u.funcs.length:=by omega
   have i:u.funcs[m]?=some u.funcs[m]:=a0 z;have U:(u.funcs.map Gr.params).getD m 0=u.funcs[m].params:=by rw[dF,fO,i];rfl
   rw[U]at hr;clear U;generalize u.funcs[m]=q at *;refine bF (M:=47) (rs:=[.tmp 6]) (L.call _) L.aD L.aq func48 rfl rfl xJ.2 rfl ?_;dsimp only[xJ,bA,Nat.reduceAdd];repeat' (first
    |(apply aj ?_;clear hK K)|apply Ry.o ?_|(apply bq (fun o Z=>?_) (fun o Z=>?_)<;>try(cases o;done))|apply ah ?_|(apply ai fun K hK=>?_)|(apply au 8 [(1,21),(3,21),(4,21),(8,21),(9,21),(12,21),(14,21),(17,21)] fun K hK=>?_)|(apply aS ?_;try intro _)|(apply aT ?_ ?_<;>clear hK K)|apply aR ?_|(apply pU (fun J Y=>?_) (fun J Y=>?_)<;>try(cases J;done))|apply ak ?_|apply am ?_|apply aq ?_)
   all_goals first
    |exact di
    |(refine⟨aD,_,oq,?_⟩
      simp only[aC];rw[hr];simp_all;done)
  .have V:¬(m:Int)<u.funcs.length:=by omega
   refine bF (M:=47) (rs:=[.tmp 6]) (L.call _) L.aD L.aq func48 rfl rfl xJ.2 rfl ?_;dsimp only[xJ,bA,Nat.reduceAdd];repeat' (first
    |(apply aj ?_;clear hK K)|apply Ry.o ?_|(apply bq (fun o Z=>?_) (fun o Z=>?_)<;>try(cases o;done))|apply ah ?_|(apply ai fun K hK=>?_)|(apply au 8 [(1,21),(3,21),(4,21),(8,21),(9,21),(12,21),(14,21),(17,21)] fun K hK=>?_)|(apply aS ?_;try intro _)|(apply aT ?_ ?_<;>clear hK K)|apply aR ?_|(apply pU (fun J Y=>?_) (fun J Y=>?_)<;>try(cases J;done))|apply ak ?_|apply am ?_|apply aq ?_)
   all_goals first
    |exact di
    |(refine⟨aD,_,oq,?_⟩
      simp only[aC];rw[hr,iy V];rfl)
 .refine bF (M:=47) (rs:=[.tmp 6]) (L.call _) L.aD L.aq func48 rfl rfl xJ.2 rfl ?_;dsimp only[xJ,bA,Nat.reduceAdd];repeat' (first
   |(apply aj ?_;clear hK K)|apply Ry.o ?_|(apply bq (fun o Z=>?_) (fun o Z=>?_)<;>try(cases o;done))|apply ah ?_|(apply ai fun K hK=>?_)|(apply au 8 [(1,21),(3,21),(4,21),(8,21),(9,21),(12,21),(14,21),(17,21)] fun K hK=>?_)|(apply aS ?_;try intro _)|(apply aT ?_ ?_<;>clear hK K)|apply aR ?_|(apply pU (fun J Y=>?_) (fun J Y=>?_)<;>try(cases J;done))|apply ak ?_|apply am ?_|apply aq ?_)
  all_goals first
   |exact di
   |(refine⟨aD,_,oq,?_⟩
     simp only[aC];simp_all[jU];done))
end
section
def tyV4.tyF:=ad @ez (ad @cR (ad @fP (ad @iU (ad @ol (ad @KT (ad @KW (ad @KZ (ad @Yl (@tL)))))))))
open tyV4
noncomputable def ME:{c:SC // aI 81 (f51.body.getD .skip)=c}:=by
 refine⟨?_,?_⟩;rotate_left
 .simp only[f51,bS,aI,bM,bI,bT,bU,Nat.blt,Nat.ble];rfl
def Hg(h:m<2^32):IntKind.wrap .u32 (m:Int)=m:=by
 exact IntWalk.u32_in _ ac
def Da(h:a<2^32):(BitVec.ofInt 32 (a:Int)).toNat=a:=by
 rw[BitVec.ofInt_natCast,BitVec.toNat_ofNat,Nat.mod_eq_of_lt h]
theorem MF(j:a<2^32)(o:b<2^32):IntKind.wrap .u32 (((BitVec.ofInt (IntKind.bits .u32) (a:Int) |||BitVec.ofInt (IntKind.bits .u32) (b:Int)).toNat:Nat):Int)=((a |||b:Nat):Int):=by
 have e:IntKind.bits .u32=32:=rfl;rw[e,BitVec.toNat_or,Da j,Da o];exact Hg (C0 j o)
theorem Z7(Z:a<2^32)(o:b<2^32):IntKind.wrap .u32 (((BitVec.ofInt (IntKind.bits .u32) (a:Int) &&& ~~~ BitVec.ofInt (IntKind.bits .u32) (b:Int)).toNat:Nat):Int)=((vV a b:Nat):Int):=by
 have e:IntKind.bits .u32=32:=rfl;have h:(BitVec.ofInt 32 (a:Int) &&& ~~~ BitVec.ofInt 32 (b:Int)).toNat=vV a b:=by
  apply Nat.eq_of_testBit_eq;intro j;rw[zJ];rw[GY,BitVec.getLsbD_and,BitVec.getLsbD_not,<-GY,<-GY,Da Z,Da o];by_cases m:j<32
  .simp[m]
  .have:a.testBit j=false:=Nat.testBit_lt_two_pow (mZ Z (Nat.pow_le_pow_right ac ac));simp[this]
 rw[e,h];refine Hg ?_;rw[<-h];exact(BitVec.ofInt 32 (a:Int) &&& ~~~ BitVec.ofInt 32 (b:Int)).isLt
def MG(Z:a<2^32):vV a b<2^32:=by
 apply Mo;intro j m;rw[zJ];have:a.testBit j=false:=Nat.testBit_lt_two_pow (mZ Z (Nat.pow_le_pow_right ac m));simp[this]
def jf(h:qC):qs:=h.map fun(m:Nat)=>AV.int .u32 (m:Int)
def Db(h:qC):AV:=.ao (h.map fun(m:Nat)=>[AV.int .u32 (m:Int)])
def Hh(h:qC):(jf h).length=h.length:=dx _
theorem MH{D:BinOp->Sx->Sx->qF}{t:TypeId}{V:IntKind}(h:m<32):em prog D .shl t (.int .u32 1) (.int V (m:Int))=some (.int .u32 ((2^ m:Nat):Int)):=by
 have e:em prog D .shl t (.int .u32 1) (.int V (Int.ofNat m))=some (.int .u32 (IntKind.wrap .u32 (1*2^ min m 32))):=rfl;rw[show((m:Nat):Int)=Int.ofNat m from rfl,e,show min m 32=m by omega];have:(1:Int)*2^ m=((2^ m:Nat):Int):=by push_cast;omega
 rw[this,Hg (GZ ac h)]
def Z8{D:BinOp->Sx->Sx->qF}{t:TypeId}{k:IntKind}{a b:Int}:em prog D .andNot t (.int k a) (.int k b)=some (.int k (k.wrap (BitVec.ofInt k.bits a &&& ~~~ BitVec.ofInt k.bits b).toNat)):=pN
theorem Z9(n:Nat):jB [.int .u32 0] n=jf (List.replicate n 0):=by
 induction n with
 |zero=>rfl
 |succ n ih=>simp only[jB,ih];simp[jf,Gp]
theorem zaa(n:Nat)(V:n<2^40):j0 prog H 111 (.int .i64 n) (.int .i64 n)=some (.sl H.next 0 n 1,H.alloc (.cells (jf (List.replicate n 0)) 0 true)):=by
 have O:dX=70368744177664:=rfl;show j0 prog H 111 (.int .i64 (Int.ofNat n)) (.int .i64 (Int.ofNat n))=_;simp only[j0,underlying111,Ch,KU,KV];rw[ay ⟨aO _,rI,rI,rfl⟩,Z9]
def MI{n:Nat}(O:m<n):ey prog 111 (.sl r 0 n 1) (.int .i64 (m:Int))=some (.ptr r m):=by rw[tM underlying111 Ch O];simp
theorem MJ{imm:Nat}(J:H.get r=some (.cells (jf h) imm true))(O:m<h.length):eY prog H 113 (.ptr r m)=some (.int .u32 ((h.getD m 0:Nat):Int)):=by
 rw[vt underlying113 rfl J,jf,fO,dF,a0 O];rfl
def Dc(J:H.get r=some (.cells (jf h) 0 true))(O:m<h.length)(x:Nat):mB prog H 113 (.ptr r m) (.int .u32 (x:Int))=some (H.set r (.cells (jf (h.set m x)) 0 true)):=by
 have I:m<(jf h).length:=by rw[Hh];exact O
 rw[B6,J,Ch,B5,Ab.cells_int,splice_one _ I,ay ⟨rfl,dN _,I,rfl⟩];simp[jf,vI]
theorem MK(H:Hp)(n:Nat):∀h:qC,iceL (iceV H (n+1)) (jf h)=some (jf h)
 |[]=>rfl
 |a::l=>by
  have:=MK H n l;have e:iceV H (n+1) (.int .u32 (a:Int))=some (.int .u32 (a:Int)):=rfl;simp only[jf,dS,iceL,e]at this⊢;rw[this]
theorem zab(h:qC):gC 1 h.length (jf h)=h.map fun(m:Nat)=>[AV.int .u32 (m:Int)]:=by
 induction h with
 |nil=>rfl
 |cons a l ih=>simp only[jf,dS,eT,gC,List.take_succ_cons,zG,zg,fF]at ih⊢;rw[ih]
theorem zac(J:H.get r=some (.cells (jf (fz l l.length++List.replicate 0 0)) 0 true)):iceV H 3 (.sl r 0 l.length 1)=some (Db (fz l l.length)):=by
 have K:=uh l l.length;rw[List.replicate_zero,jI]at J;generalize fz l l.length=h at *;have e:iceV H 3 (.sl r 0 l.length 1)=match H.get r with
  |some (.cells Y _ _)=>match iceL (iceV H 2) ((Y.drop 0).take (l.length*1))with
   |some j=>if j.length=l.length*1 then some (.ao (gC 1 l.length j))else none
   |none=>none
  |_=>none:=rfl
 rw[e,J];simp only[fF,lW];rw[gZ (by rw[Hh];omega),MK];simp only[Hh,K,bC];rw[<-K,zab];rfl
def zM(l:qy):Prop:=mO l/\∀i n,l[i]?=some n->NdOk n i
theorem zad(K:zM l){i j:Nat}(z:i<=l.length)(m:j<i):(fz l i).getD j 0<2^16:=by
 apply Mo;intro t U;rw[MA i z (fun j n _ h=>K.2 j n h) j m t,iy ac];rfl
set_option maxRecDepth 100000 in
theorem zae(l:qy)(hl:zM l):bX prog ρ 51 [kB l] (Db (fz l l.length)):=vF (m:=3) (cfg:=aH pls [rM]) fit (rD ρ) (gm.b2 ⟨CT ρ,trivial⟩) (.cons (zC _) .nil) (by
 have hl1:=hl.1.1;have hw:zd0 (aH pls [rM]) 51:=dG (fun _=>rfl) rfl;have q16:(16:Int)≠0:=aM;have hmk:∀H:Hp,j0 prog H 111 (.int .i64 l.length) (.int .i64 l.length)=some (.sl H.next 0 l.length 1,H.alloc (.cells (jf (List.replicate l.length 0)) 0 true)):=fun H=>zaa _ ac;refine bF (M:=81) (rs:=[.tmp 2]) (hw.call _) hw.aD hw.aq func51 rfl rfl ME.2 rfl ?_;dsimp only[ME,bA,Nat.reduceAdd];repeat' (first
  |(apply aj ?_;clear hK K)|apply Rx.o ?_|apply aE ?_|(apply aA (fun o g=>?_) (fun o g=>?_)<;>try(cases o;done))|apply ah ?_|(apply ai fun K hK=>?_)|(apply dw 14 fun K hK=>?_)|(apply dw 15 fun K hK=>?_)|apply ak ?_|apply am ?_|apply aq ?_|apply aw ?_)
 refine cA [2,3,12,13] [] 14 l.length (fun i E H=>H.get 0=some (.cells (jf (fz l i++List.replicate (l.length-i) 0)) 0 true)) eE (by rw[aQ,ay ea];simp[fz]) ?_;rintro i E L hi hcE hrH hnH hsI J;(try simp only[bp,bm,aU,aF,aW,Nat.reduceBEq,Nat.reduceAdd,Nat.reduceLeDiff,tyF, *]at hcE);(try simp only[bp,bm,aU,aF,aW,Nat.reduceBEq,Nat.reduceAdd,Nat.reduceLeDiff,tyF, *]at hrH);(try simp only[bj,bE,cm,bO,Nat.reduceAdd]at hnH);have hB0:(0 == L.next)=false:=bz ac;have hC0:(L.next == 0)=false:=bz ac;have hn2:1<=L.next:=hnH
 by_cases hlt:i<l.length
 .have hlt':(i:Int)<l.length:=by omega
  have hgx:l[i]?=some l[i]:=a0 hlt;have hok:=hl.2 i _ hgx;have hnk:=hl.1.2 _ (cL hlt);have hms:fz l (i+1)=fz l i++[pz l[i] (fz l i)]:=by rw[fz,hgx]
  have hmlt:∀j,j<i->(fz l i).getD j 0<2^16:=fun j hj=>zad hl ac hj;have hml:=uh l i;generalize l[i]=n at *;generalize fz l i=h at *;have hrep:List.replicate (l.length-i) (0:Nat)=0::List.replicate (l.length-(i+1)) 0:=Mi;rw[hrep]at J;have hzl:(h++0::List.replicate (l.length-(i+1)) (0:Nat)).length=l.length:=ca;generalize List.replicate (l.length-(i+1)) (0:Nat)=z at *;have e0:(0 == L.next)=false:=bz ac;have hgA:∀b c,((L.alloc b).set L.next c).get 0=some (.cells (jf (h++0::z)) 0 true):=fun b c=>Mj;have hix:ey prog 111 (.sl 0 0 l.length 1) (.int .i64 (i:Int))=some (.ptr 0 i):=MI hlt;repeat' (first
   |(apply aj ?_;clear hK K)|apply Ry.o ?_|(apply ct (fun J Z=>?_) (fun J Z=>?_)<;>try(cases J;done))|apply ah ?_|(apply ai fun K hK=>?_)|(apply dw 14 fun K hK=>?_)|(apply dw 15 fun K hK=>?_)|apply ak ?_|apply am ?_|apply aq ?_|apply aw ?_)
  (apply aA (fun o g=>?_) (fun o g=>?_)<;>try(cases o;done));repeat' (first
   |(apply aj ?_;clear hK K)|apply Rx.o ?_|apply aE ?_|apply ah ?_|(apply ai fun K hK=>?_)|(apply dw 14 fun K hK=>?_)|(apply dw 15 fun K hK=>?_)|apply ak ?_|apply am ?_|apply aq ?_|apply aw ?_)
  generalize hHb:Hp.set (L.alloc _) _ _=Hb;have nb:L.next+1<=Hb.next:=by rw[<-hHb];exact aO _
  have gb:Hb.get 0=some (.cells (jf (h++0::z)) 0 true):=by rw[<-hHb];exact hgA _ _
  have g5:Hb.get L.next=some (.cells n.cells 0 true):=CW
  clear hHb hgA;have hset:∀x:Nat,(h++0::z).set i x=h++x::z:=fun x=>Ml;refine G4 (fun E' H'=>E'.at 2=.ah/\E'.at 3=.sl 0 0 l.length 1/\E'.at 4=.int .i64 i/\E'.at 5=.ptr L.next 0/\E'.at 12=kB l/\E'.at 13=.int .i64 l.length/\E'.at 14=.int .i64 i/\H'.get 0=some (.cells (jf (h++(if n.op=3 then 2^ (n.au.tdiv 16).toNat else 0)::z)) 0 true)/\H'.get L.next=some (.cells n.cells 0 true)/\L.next+1<=H'.next) ?_ ?_
  .by_cases h3:n.op=3
   .obtain⟨m0,cz⟩:=hok.lv h3;have hd:n.au.tdiv 16=n.au/16:=sQ m0;have hd0:0<=n.au.tdiv 16:=by rw[hd];omega
    obtain⟨m,hm⟩:=kq hd0;have hm16:m<16:=ac;rw[ay h3,hm,iK];have ew:IntKind.wrap .i64 (n.au.tdiv 16)=m:=by rw[hm];exact iN ac ac
    have ew2:IntKind.wrap .u64 (m:Int)=m:=IntWalk.u64_in _ ac;have hsh:∀(D:BinOp->Sx->Sx->qF) (t:TypeId),em prog D .shl t (.int .u32 1) (.int .u64 (m:Int))=some (.int .u32 ((2^ m:Nat):Int)):=fun D t=>MH ac;clear hd hm hd0;repeat' (first
     |(apply aj ?_;clear hK K)|apply Ry.o ?_|(apply ct (fun J Z=>?_) (fun J Z=>?_)<;>try(cases J;done))|(apply bq (fun o g=>?_) (fun o g=>?_)<;>try(cases o;done))|apply ah ?_|(apply ai fun K hK=>?_)|(apply dw 14 fun K hK=>?_)|(apply dw 15 fun K hK=>?_)|apply ak ?_|apply am ?_|apply aq ?_|apply aw ?_)
    refine pR cS cS (Dc gb ac _) ?_;repeat' (first
     |(apply aj ?_;clear hK K)|apply Rx.o ?_|apply aE ?_|(apply aA (fun o g=>?_) (fun o g=>?_)<;>try(cases o;done))|apply ah ?_|(apply ai fun K hK=>?_)|(apply dw 14 fun K hK=>?_)|(apply dw 15 fun K hK=>?_)|apply ak ?_|apply am ?_|apply aq ?_|apply aw ?_)
    exact⟨rfl,eE,eE,eE,eE,eE,eE,eE,by rw[a1,ay rfl,hset],by rw[a1,af ac];exact g5,nb⟩
   .rw[af h3];repeat' (first
     |(apply aj ?_;clear hK K)|apply Ry.o ?_|(apply ct (fun J Z=>?_) (fun J Z=>?_)<;>try(cases J;done))|(apply bq (fun o g=>?_) (fun o g=>?_)<;>try(cases o;done))|apply ah ?_|(apply ai fun K hK=>?_)|(apply dw 14 fun K hK=>?_)|(apply dw 15 fun K hK=>?_)|apply ak ?_|apply am ?_|apply aq ?_|apply aw ?_)
    exact⟨rfl,eE,eE,eE,eE,eE,eE,eE,gb,g5,nb⟩
  clear gb g5 nb;rintro E3 H3 ⟨k2,k3,k4,k5,k12,k13,k14,g30,g35,n3⟩;dsimp only[nr];repeat' (first
   |(apply aj ?_;clear hK K)|apply Rx.o ?_|apply aE ?_|apply ah ?_|(apply ai fun K hK=>?_)|(apply dw 14 fun K hK=>?_)|(apply dw 15 fun K hK=>?_)|apply ak ?_|apply am ?_|apply aq ?_|apply aw ?_)
  refine G4 (fun E' H'=>E'.at 2=.ah/\E'.at 3=.sl 0 0 l.length 1/\E'.at 4=.int .i64 i/\E'.at 5=.ptr L.next 0/\E'.at 12=kB l/\E'.at 13=.int .i64 l.length/\E'.at 14=.int .i64 i/\(n.op=31->E'.at 6=.int .u32 ((2^ n.au.toNat:Nat):Int))/\H'=H3) ?_ ?_
  .by_cases V:n.op=31
   .obtain⟨m0,cz,_⟩:=hok.lp V;obtain⟨m,hm⟩:=kq m0;have ew2:IntKind.wrap .u64 (m:Int)=m:=IntWalk.u64_in _ ac;have hsh:∀(D:BinOp->Sx->Sx->qF) (t:TypeId),em prog D .shl t (.int .u32 1) (.int .u64 (m:Int))=some (.int .u32 ((2^ m:Nat):Int)):=fun D t=>MH ac;rw[hm,iK];repeat' (first
     |(apply aj ?_;clear hK K)|apply Ry.o ?_|(apply ct (fun J Z=>?_) (fun J Z=>?_)<;>try(cases J;done))|(apply bq (fun o g=>?_) (fun o g=>?_)<;>try(cases o;done))|apply ah ?_|(apply ai fun K hK=>?_)|(apply dw 14 fun K hK=>?_)|(apply dw 15 fun K hK=>?_)|apply ak ?_|apply am ?_|apply aq ?_|apply aw ?_)
    exact⟨rfl,eE,eE,eE,eE,eE,eE,eE,fun _=>eE,rfl⟩
   .repeat' (first
     |(apply aj ?_;clear hK K)|apply Ry.o ?_|(apply ct (fun J Z=>?_) (fun J Z=>?_)<;>try(cases J;done))|(apply bq (fun o g=>?_) (fun o g=>?_)<;>try(cases o;done))|apply ah ?_|(apply ai fun K hK=>?_)|(apply dw 14 fun K hK=>?_)|(apply dw 15 fun K hK=>?_)|apply ak ?_|apply am ?_|apply aq ?_|apply aw ?_)
    exact⟨rfl,eE,eE,eE,eE,eE,eE,eE,fun h=>absurd h V,rfl⟩
  clear k2 k3 k4 k5 k12 k13 k14 E3;rintro E3 _ ⟨k2,k3,k4,k5,k12,k13,k14,k6,rfl⟩;dsimp only[nr];repeat' (first
   |(apply aj ?_;clear hK K)|apply Rx.o ?_|apply aE ?_|(apply aA (fun o g=>?_) (fun o g=>?_)<;>try(cases o;done))|apply ah ?_|(apply ai fun K hK=>?_)|(apply dw 14 fun K hK=>?_)|(apply dw 15 fun K hK=>?_)|apply ak ?_|apply am ?_|apply aq ?_|apply aw ?_)
  have hmm:pz n h=nM n h 0 n.ak (if n.op=3 then 2^ (n.au.tdiv 16).toNat else 0):=rfl;have hcur0:(if n.op=3 then 2^ (n.au.tdiv 16).toNat else 0:Nat)<2^32:=by
   by_cases h3:n.op=3
   .rw[ay h3];obtain⟨m0,cz⟩:=hok.lv h3;have hd:n.au.tdiv 16=n.au/16:=sQ m0;exact GZ ac ac
   .rw[af h3];decide
  generalize (if n.op=3 then 2^ (n.au.tdiv 16).toNat else 0:Nat)=cur0 at *;refine cA [2,3,4,5,6,12,13,14,38,39] [] 40 n.ak.length (fun j E H=>∃Y,H.get 0=some (.cells (jf (h++Y::z)) 0 true)/\H.get L.next=some (.cells n.cells 0 true)/\Y<2^32/\pz n h=nM n h j (n.ak.drop j) Y) eE ⟨cur0,g30,g35,hcur0,by rw[hmm,fF]⟩ ?_;clear g30 g35 hcur0 hmm;rintro j E4 H4 hj hcE hrH hnH hsI ⟨Y,C,g45,I,hJ⟩;(try simp only[bp,bm,aU,aF,aW,Nat.reduceBEq,Nat.reduceAdd,Nat.reduceLeDiff,tyF, *]at hcE);(try simp only[bp,bm,aU,aF,aW,Nat.reduceBEq,Nat.reduceAdd,Nat.reduceLeDiff,tyF, *]at hrH);(try simp only[bj,bE,cm,bO,Nat.reduceAdd]at hnH);by_cases hjt:j<n.ak.length
  .have hjt':(j:Int)<n.ak.length:=by omega
   have hgy:n.ak[j]?=some n.ak[j]:=a0 hjt;obtain⟨d0,d1⟩:=hok.ak _ (cL hjt);have U:nM n h j (n.ak.drop j) Y=nM n h (j+1) (n.ak.drop (j+1)) (Y |||rO n h j n.ak[j]):=by rw[eU hjt,nM]
   generalize n.ak[j]=kd at *;obtain⟨d,rfl⟩:=kq d0;have hdi:d<i:=ac;have hixd:ey prog 111 (.sl 0 0 l.length 1) (.int .i64 (d:Int))=some (.ptr 0 d):=MI ac;have hlc:∀x:Nat,(h++x::z).length=l.length:=fun x=>by rw[<-hzl];simp
   have hldi:=MJ C (m:=i) zE;have hldd:=MJ C (m:=d) zE;have hgi:(h++Y::z).getD i 0=Y:=by rw[dF,kN ac,hml,lU];rfl
   have hgd:(h++Y::z).getD d 0=h.getD d 0:=by rw[dF,iw ac,<-dF]
   rw[hgi]at hldi;rw[hgd]at hldd;have hdl:=hmlt d hdi;have O:∀x:Nat,(h++Y::z).set i x=h++x::z:=fun x=>Ml;have hkd:rO n h j (d:Int)=if n.op=31/\et n.ak.length<=j then vV (h.getD d 0) (2^ n.au.toNat)else h.getD d 0:=by rw[rO,iK]
   rw[hkd]at U;generalize h.getD d 0=y at *;have hy:y<2^32:=ac;have e1:=MF I hy;by_cases V:n.op=31
   .have k6':=k6 V;obtain⟨m0,cz,_⟩:=hok.lp V;have hown:2^ n.au.toNat<2^32:=GZ ac ac;by_cases hlv:et n.ak.length<=j
    .rw[ay ⟨V,hlv⟩]at U;have e2:=Z7 hy hown;have e3:=MF I (MG (b:=2^ n.au.toNat) hy);have gh0:=@Z8;repeat' (first
      |(apply aj ?_;clear hK K)|apply Ry.o ?_|(apply ee ?_;first|refine bi (xF (fun _=>rfl) _ ac _) ?_)|(apply ct (fun J Z=>?_) (fun J Z=>?_)<;>try(cases J;done))|(apply bq (fun o g=>?_) (fun o g=>?_)<;>try(cases o;done))|apply ah ?_|(apply ai fun K hK=>?_)|(apply dw 14 fun K hK=>?_)|(apply dw 15 fun K hK=>?_)|apply ak ?_|apply am ?_|apply aq ?_|apply aw ?_)
     refine pR cS cS (Dc C zE _) ?_;repeat' (first
      |(apply aj ?_;clear hK K)|apply Rx.o ?_|apply aE ?_|(apply aA (fun o g=>?_) (fun o g=>?_)<;>try(cases o;done))|apply ah ?_|(apply ai fun K hK=>?_)|(apply dw 14 fun K hK=>?_)|(apply dw 15 fun K hK=>?_)|apply ak ?_|apply am ?_|apply aq ?_|apply aw ?_)
     refine⟨ac,a2,a2,ce,zF,?_⟩;exact⟨_,GV,GX,C0 I (MG hy),by rw[hJ,U]⟩
    .rw[af (fun c=>hlv c.2)]at U;repeat' (first
      |(apply aj ?_;clear hK K)|apply Ry.o ?_|(apply ee ?_;first|refine bi (xF (fun _=>rfl) _ ac _) ?_)|(apply ct (fun J Z=>?_) (fun J Z=>?_)<;>try(cases J;done))|(apply bq (fun o g=>?_) (fun o g=>?_)<;>try(cases o;done))|apply ah ?_|(apply ai fun K hK=>?_)|(apply dw 14 fun K hK=>?_)|(apply dw 15 fun K hK=>?_)|apply ak ?_|apply am ?_|apply aq ?_|apply aw ?_)
     refine pR cS cS (Dc C zE _) ?_;repeat' (first
      |(apply aj ?_;clear hK K)|apply Rx.o ?_|apply aE ?_|(apply aA (fun o g=>?_) (fun o g=>?_)<;>try(cases o;done))|apply ah ?_|(apply ai fun K hK=>?_)|(apply dw 14 fun K hK=>?_)|(apply dw 15 fun K hK=>?_)|apply ak ?_|apply am ?_|apply aq ?_|apply aw ?_)
     refine⟨ac,a2,a2,ce,zF,?_⟩;exact⟨_,GV,GX,C0 I hy,by rw[hJ,U]⟩
   .rw[af (fun c=>V c.1)]at U;repeat' (first
     |(apply aj ?_;clear hK K)|apply Ry.o ?_|(apply ct (fun J Z=>?_) (fun J Z=>?_)<;>try(cases J;done))|(apply bq (fun o g=>?_) (fun o g=>?_)<;>try(cases o;done))|apply ah ?_|(apply ai fun K hK=>?_)|(apply dw 14 fun K hK=>?_)|(apply dw 15 fun K hK=>?_)|apply ak ?_|apply am ?_|apply aq ?_|apply aw ?_)
    refine pR cS cS (Dc C zE _) ?_;repeat' (first
     |(apply aj ?_;clear hK K)|apply Rx.o ?_|apply aE ?_|(apply aA (fun o g=>?_) (fun o g=>?_)<;>try(cases o;done))|apply ah ?_|(apply ai fun K hK=>?_)|(apply dw 14 fun K hK=>?_)|(apply dw 15 fun K hK=>?_)|apply ak ?_|apply am ?_|apply aq ?_|apply aw ?_)
    refine⟨ac,a2,a2,ce,zF,?_⟩;exact⟨_,GV,GX,C0 I hy,by rw[hJ,U]⟩
  .have hjt':¬(j:Int)<n.ak.length:=by omega
   have hjd:n.ak.drop j=[]:=oB ac;rw[hjd]at hJ;have hJ2:pz n h=Y:=hJ;repeat' (first
    |(apply aj ?_;clear hK K)|apply Ry.o ?_|(apply ct (fun J Z=>?_) (fun J Z=>?_)<;>try(cases J;done))|(apply bq (fun o g=>?_) (fun o g=>?_)<;>try(cases o;done))|apply ah ?_|(apply ai fun K hK=>?_)|(apply dw 14 fun K hK=>?_)|(apply dw 15 fun K hK=>?_)|apply ak ?_|apply am ?_|apply aq ?_|apply aw ?_)
   refine⟨ac,a2,a2,ce,rJ,?_⟩;rw[hms,hJ2,lT];exact C
 .have hlt':¬(i:Int)<l.length:=by omega
  repeat' (first
   |(apply aj ?_;clear hK K)|apply Ry.o ?_|(apply ct (fun J Z=>?_) (fun J Z=>?_)<;>try(cases J;done))|(apply bq (fun o g=>?_) (fun o g=>?_)<;>try(cases o;done))|apply ah ?_|(apply ai fun K hK=>?_)|(apply dw 14 fun K hK=>?_)|(apply dw 15 fun K hK=>?_)|apply ak ?_|apply am ?_|apply aq ?_|apply aw ?_)
  all_goals refine qq ?_
  have hie:i=l.length:=ac;rw[hie,lU]at J;exact zac J)
end
section
def tyR3c.tyF:=ad @ez (ad @cR (ad @dt (ad @gH (ad @iV (ad @gO (ad @fb (ad @eA (ad @ft (ad @fc (ad @l8 (ad @l9 (ad @fG (ad @L0 (ad @L2 (@L3)))))))))))))))
open tyR3c
noncomputable def ML:{c:SC // aI 50 (f112.body.getD .skip)=c}:=by
 refine⟨?_,?_⟩;rotate_left
 .simp only[f112,bS,aI,bM,bI,bT,bU,Nat.blt,Nat.ble];rfl
noncomputable def MM:{c:SC // aI 94 (f68.body.getD .skip)=c}:=by
 refine⟨?_,?_⟩;rotate_left
 .simp only[f68,bS,aI,bM,bI,bT,bU,Nat.blt,Nat.ble];rfl
mutual
def mP:St->Bool
 | .mk _ _ _ _ a v C L M=>decide ((20:Int)<cX a)||decide ((20:Int)<cX v)||fJ L||fJ M||C.any fun e=>decide ((20:Int)<cX e)
def fJ:qD->Bool
 |[]=>false
 |x::l=>mP x||fJ l
end
theorem zaf(x:St):mP x=(decide ((20:Int)<cX x.aW)||decide ((20:Int)<cX x.value)||fJ x.a5||fJ x.a6||x.args.any fun e=>decide ((20:Int)<cX e)):=by cases x;rw[mP];rfl
noncomputable def zN:En:=⟨113,false,ch (fun x=>x.sz<2^60) ju fun x=>.int .i64 (cX x)⟩
def MN:cT prog ρ zN:=dg fun x I=>Zb ρ x I
def zag:∀x:qD,bN x<2^60->bX prog ρ 112 (mM x) (.bool (fJ x)):=
 vG fit (pls:=pls) (l:=[zN]) ⟨MN ρ,trivial⟩ (fun x=>bN x) (ok:=fun x=>bN x<2^60) (enc:=mM) (out:=fun x=>.bool (fJ x)) (fun x _=>.cons (zi _) .nil) (fun x _=>.bool _) (fun x hx=>by
 have hw:=vJ (sz:=fun x:qD=>bN x) (ok:=fun x=>bN x<2^60) (out:=fun x=>.bool (fJ x)) xE (f:=112) (l:=[zN]) x;generalize hl:(⟨112,false,ch (fun y=>bN y<2^60/\bN y<bN x) mM fun x=>.bool (fJ x)⟩:En)::[zN]=l at hw⊢;have kr:∀(y:qD),bN y<bN x->∀H,aY prog (aH pls l) 112 [.ao (y.map St.cells)] H fun v H'=>v=.bool (fJ y)/\H'=H:=fun y h2 H=>by
  subst hl;exact cF (enc:=mM) (out:=fun x=>.bool (fJ x)) xE (x:=y) rfl ⟨ac,h2⟩
 have kd:∀y:Ex,y.sz<2^60->∀H,aY prog (aH pls l) 113 [.agg y.cells] H fun v H'=>v=.int .i64 (cX y)/\H'=H:=fun y h1 H=>by
  subst hl;exact cF (enc:=ju) (out:=fun x=>.int .i64 (cX x)) pZ (x:=y) rfl h1
 have hlen:=tR x;change aY _ _ _ [.ao (x.map St.cells)] _ _;refine bF (M:=50) (rs:=[.tmp 2]) hw.call hw.aD hw.aq func112 rfl rfl ML.2 rfl ?_;dsimp only[ML,bA,Nat.reduceAdd];repeat' (first
  |(apply aj ?_;clear hK K)|apply Rx.o ?_|apply aE ?_|(apply aX (fun J g=>?_) (fun J g=>?_)<;>try(cases J;done))|(apply aA (fun o Z=>?_) (fun o Z=>?_)<;>try(cases o;done))|apply ah ?_|(apply ai fun K hK=>?_)|apply ak ?_|apply am ?_|apply aq ?_|apply aw ?_)
 refine cA [0] [] 3 x.length (fun i E H=>fJ x=fJ (x.drop i)) eE az ?_;rintro i E H2 hi m L z hsI C;(try simp only[bp,bm,aU,aF,aW,Nat.reduceBEq,Nat.reduceAdd,Nat.reduceLeDiff,tyF, *]at m);(try simp only[bp,bm,aU,aF,aW,Nat.reduceBEq,Nat.reduceAdd,Nat.reduceLeDiff,tyF, *]at L);(try simp only[bj,bE,cm,bO,Nat.reduceAdd]at z);repeat' (first
  |(apply aj ?_;clear hK K)|apply Rx.o ?_|apply aE ?_|(apply aX (fun J g=>?_) (fun J g=>?_)<;>try(cases J;done))|(apply aA (fun o Z=>?_) (fun o Z=>?_)<;>try(cases o;done))|apply ah ?_|(apply ai fun K hK=>?_)|apply ak ?_|apply am ?_|apply aq ?_|apply aw ?_)
 .have I:i<x.length:=by simpa using o
  have hgx:x[i]?=some x[i]:=a0 I;have hsm:=pi (cL I);have hsz:=x[i].aM;have hla:=ph x[i].args;have U:fJ (x.drop i)=(mP x[i]||fJ (x.drop (i+1))):=by rw[eU I];rfl
  rw[zaf]at U;repeat' (first
   |(apply aj ?_;clear hK K)|apply Rx.o ?_|apply aE ?_|(apply eC ?_;first|refine bi (kd _ ac _) ?_|refine bi (kr _ ac _) ?_)|(apply aX (fun J g=>?_) (fun J g=>?_)<;>try(cases J;done))|(apply aA (fun o Z=>?_) (fun o Z=>?_)<;>try(cases o;done))|apply ah ?_|(apply ai fun K hK=>?_)|apply ak ?_|apply am ?_|apply aq ?_|apply aw ?_)
  rotate_left
  .refine cA [0,3,4] [H2.next] 5 x[i].args.length (fun j E H=>(x[i].args.any fun e=>decide ((20:Int)<cX e))=(x[i].args.drop j).any fun e=>decide ((20:Int)<cX e)) eE az ?_;rintro j E3 H3 hj m L z hsI Y;(try simp only[bp,bm,aU,aF,aW,Nat.reduceBEq,Nat.reduceAdd,Nat.reduceLeDiff,tyF, *]at m);(try simp only[bp,bm,aU,aF,aW,Nat.reduceBEq,Nat.reduceAdd,Nat.reduceLeDiff,tyF, *]at L);(try simp only[bj,bE,cm,bO,Nat.reduceAdd]at z);have hB0:(H2.next == H3.next)=false:=bz ac;have hC0:(H3.next == H2.next)=false:=bz ac;repeat' (first
    |(apply aj ?_;clear hK K)|apply Rx.o ?_|apply aE ?_|(apply aX (fun J g=>?_) (fun J g=>?_)<;>try(cases J;done))|(apply aA (fun o Z=>?_) (fun o Z=>?_)<;>try(cases o;done))|apply ah ?_|(apply ai fun K hK=>?_)|apply ak ?_|apply am ?_|apply aq ?_|apply aw ?_)
   .have V:j<x[i].args.length:=by simpa using o
    have hgx2:x[i].args[j]?=some x[i].args[j]:=a0 V;have hsm2:=ou (cL V);have O:((x[i].args.drop j).any fun e=>decide ((20:Int)<cX e))=(decide ((20:Int)<cX x[i].args[j])||(x[i].args.drop (j+1)).any fun e=>decide ((20:Int)<cX e)):=by rw[eU V];rfl
    repeat' (first
     |(apply aj ?_;clear hK K)|apply Rx.o ?_|apply aE ?_|(apply eC ?_;first|refine bi (kd _ ac _) ?_)|(apply aX (fun J g=>?_) (fun J g=>?_)<;>try(cases J;done))|(apply aA (fun o Z=>?_) (fun o Z=>?_)<;>try(cases o;done))|apply ah ?_|(apply ai fun K hK=>?_)|apply ak ?_|apply am ?_|apply aq ?_|apply aw ?_)
    .all_goals refine qq ?_
     rw[C,U,Y,O];(try simp only[ci]at *);simp only[ *,cj,bC,bH,Int.reduceEq]
    .refine⟨ac,a2,a2,ce,(by simp only[aF,Nat.reduceBEq, *];exact gQ (n:=x[i].args.length) ac ac),?_⟩;rw[Y,O];(try simp only[ci]at *);simp only[ *,cj,bC,bH,Int.reduceEq]
   .refine⟨ac,a2,a2,ce,tX,?_⟩;have hje:j=x[i].args.length:=p9;rw[hje,fU,xA]at Y;rw[C,U,Y];(try simp only[ci]at *);simp only[ *,cj,bC,bH,Int.reduceEq]
  all_goals
   all_goals refine qq ?_
   rw[C,U];(try simp only[ci]at *);simp only[ *,cj,bC,bH,Int.reduceEq]
 .all_goals refine qq ?_
  rw[C,show i=x.length by simp at o;omega];simp[fJ])
def fA(p:Pr):qs:=[.agg p.cells]
def rc(x y:Pr)(h:fA x=fA y):x=y:=by simp only[fA,dR,AV.agg.injEq,aU]at h;exact Pr.inj h
noncomputable def MO:En:=⟨111,false,ch (fun x=>bN x.1+x.2<2^60) sM ud⟩
def zah:cT prog ρ MO:=dg fun x I=>Zh ρ x I
noncomputable def MP:En:=⟨112,false,ch (fun x=>bN x<2^60) mM fun x=>.bool (fJ x)⟩
def zai:cT prog ρ MP:=dg fun x I=>zag ρ x I
def mQ(f:Fu):Bool:=decide ((6:Int)<f.params.length)||decide ((8:Int)<f.aj.length)||decide ((200:Int)<nS f.body)||decide ((16:Int)<da f.body)||decide ((20:Int)<eJ f.body 0)||fJ f.body||decide ((20:Int)<cX f.value)
def re(a:Ar):Bool:=decide (a.len<1)||decide (16<a.len)
def jv(p:Pr):Bool:=decide ((4:Int)<p.aa.length)||decide ((8:Int)<p.funcs.length)||p.aa.any re||p.funcs.any mQ
noncomputable def zO:qA:=[zN,MO,MP]
def zaj:gm prog ρ zO:=⟨MN ρ,zah ρ,zai ρ,trivial⟩
theorem zak(p:Pr)(hz:p.sz<2^60):bX prog ρ 68 [.agg p.cells] (.bool (jv p)):=eg fit (pls:=pls) (zaj ρ) (.cons (.agg p.pure) .nil) (.bool _) (by
 have hw:zd0 (aH pls zO) 68:=dG (fun _=>rfl) rfl;have kd:∀y:Ex,y.sz<2^60->∀H,aY prog (aH pls zO) 113 [.agg y.cells] H fun v H'=>v=.int .i64 (cX y)/\H'=H:=fun y I H=>cF (enc:=ju) (out:=fun x=>.int .i64 (cX x)) pZ (x:=y) rfl I;have kt:∀y:qD,bN y<2^60->∀H,aY prog (aH pls zO) 112 [.ao (y.map St.cells)] H fun v H'=>v=.bool (fJ y)/\H'=H:=fun y I H=>cF (enc:=mM) (out:=fun x=>.bool (fJ x)) xE (x:=y) rfl I;have kc:∀y:qD,bN y<2^60->∀H,aY prog (aH pls zO) 111 [.ao (y.map St.cells),.int .i64 0] H fun v H'=>v=.aS [.int .i64 (nS y),.int .i64 (da y),.int .i64 (eJ y 0)]/\H'=H:=fun y I H=>cF (enc:=sM) (out:=ud) GJ (x:=(y,0)) rfl (by simpa using I);have hpz:p.sz=1+gp p.aa+fw p.funcs:=rfl;have hla:=nF p.aa;have hlf:=nE p.funcs;refine bF (M:=94) (rs:=[.tmp 2]) (hw.call _) hw.aD hw.aq func68 rfl rfl MM.2 rfl ?_;dsimp only[MM,bA,Nat.reduceAdd];repeat' (first
  |(apply aj ?_;clear hK K)|apply Rx.o ?_|apply aE ?_|(apply aX (fun J g=>?_) (fun J g=>?_)<;>try(cases J;done))|(apply aA (fun o Z=>?_) (fun o Z=>?_)<;>try(cases o;done))|apply ah ?_|(apply ai fun K hK=>?_)|apply ak ?_|apply am ?_|apply aq ?_|apply aw ?_)
 all_goals (first|(refine⟨aD,_,aN,?_⟩;(try simp only[aC]);rw[jv];(try simp only[ci]at *);simp only[ *,cj,bC,bH,Int.reduceEq];done)|skip)
 .refine cA [1] [0] 3 p.aa.length (fun i E H=>p.aa.any re=(p.aa.drop i).any re) eE az ?_;rintro i E C hi m O L j hJ;(try simp only[bp,bm,aU,aF,aW,Nat.reduceBEq,Nat.reduceAdd,Nat.reduceLeDiff,tyF, *]at m);(try simp only[bp,bm,aU,aF,aW,Nat.reduceBEq,Nat.reduceAdd,Nat.reduceLeDiff,tyF, *]at O);(try simp only[bj,bE,cm,bO,Nat.reduceAdd]at L);have hB0:(0 == C.next)=false:=bz ac;have hC0:(C.next == 0)=false:=bz ac;repeat' (first
   |(apply aj ?_;clear hK K)|apply Rx.o ?_|apply aE ?_|(apply aX (fun J g=>?_) (fun J g=>?_)<;>try(cases J;done))|(apply aA (fun o Z=>?_) (fun o Z=>?_)<;>try(cases o;done))|apply ah ?_|(apply ai fun K hK=>?_)|apply ak ?_|apply am ?_|apply aq ?_|apply aw ?_)
  .have z:i<p.aa.length:=by simpa using o
   have hgx:p.aa[i]?=some p.aa[i]:=a0 z;have Y:(p.aa.drop i).any re=(re p.aa[i]||(p.aa.drop (i+1)).any re):=GW;rw[re]at Y;repeat' (first
    |(apply aj ?_;clear hK K)|apply Rx.o ?_|apply aE ?_|(apply aX (fun J g=>?_) (fun J g=>?_)<;>try(cases J;done))|(apply aA (fun o Z=>?_) (fun o Z=>?_)<;>try(cases o;done))|apply ah ?_|(apply ai fun K hK=>?_)|apply ak ?_|apply am ?_|apply aq ?_|apply aw ?_)
   all_goals (first|(refine⟨aD,_,aN,?_⟩;(try simp only[aC]);rw[jv,hJ,Y];(try simp only[ci]at *);simp only[ *,cj,bC,bH,Int.reduceEq];done)|skip)
   refine⟨ac,a2,a2,ce,xH,?_⟩;rw[hJ,Y];(try simp only[ci]at *);simp only[ *,cj,bC,bH,Int.reduceEq]
  .have U:i=p.aa.length:=by simp at o;omega
   rw[U,fU,xA]at hJ;clear o U j hi;refine cA [1] [0] 4 p.funcs.length (fun i E H=>p.funcs.any mQ=(p.funcs.drop i).any mQ) eE az ?_;rintro i E C hi m O L j V;(try simp only[bp,bm,aU,aF,aW,Nat.reduceBEq,Nat.reduceAdd,Nat.reduceLeDiff,tyF, *]at m);(try simp only[bp,bm,aU,aF,aW,Nat.reduceBEq,Nat.reduceAdd,Nat.reduceLeDiff,tyF, *]at O);(try simp only[bj,bE,cm,bO,Nat.reduceAdd]at L);have hB0:(0 == C.next)=false:=bz ac;have hC0:(C.next == 0)=false:=bz ac;repeat' (first
    |(apply aj ?_;clear hK K)|apply Rx.o ?_|apply aE ?_|(apply aX (fun J g=>?_) (fun J g=>?_)<;>try(cases J;done))|(apply aA (fun o Z=>?_) (fun o Z=>?_)<;>try(cases o;done))|apply ah ?_|(apply ai fun K hK=>?_)|apply ak ?_|apply am ?_|apply aq ?_|apply aw ?_)
   .have z:i<p.funcs.length:=by simpa using o
    have hgx:p.funcs[i]?=some p.funcs[i]:=a0 z;have Y:(p.funcs.drop i).any mQ=(mQ p.funcs[i]||(p.funcs.drop (i+1)).any mQ):=GW;rw[mQ]at Y;have hsm:=ow (cL z);have hsz:p.funcs[i].sz=1+p.funcs[i].name.length+dU p.funcs[i].params+dU p.funcs[i].aj+bN p.funcs[i].body+p.funcs[i].value.sz:=rfl;repeat' (first
     |(apply aj ?_;clear hK K)|apply Rx.o ?_|apply aE ?_|(apply eC ?_;first|refine bi (kd _ ac _) ?_|refine bi (kt _ ac _) ?_|refine bi (kc _ ac _) ?_)|(apply aX (fun J g=>?_) (fun J g=>?_)<;>try(cases J;done))|(apply aA (fun o Z=>?_) (fun o Z=>?_)<;>try(cases o;done))|apply ah ?_|(apply ai fun K hK=>?_)|apply ak ?_|apply am ?_|apply aq ?_|apply aw ?_)
    all_goals (first|(refine⟨aD,_,aN,?_⟩;(try simp only[aC]);rw[jv,hJ,V,Y];(try simp only[ci]at *);simp only[ *,cj,bC,bH,Int.reduceEq];done)|skip)
    refine⟨ac,a2,a2,ce,po,?_⟩;rw[V,Y];(try simp only[ci]at *);simp only[ *,cj,bC,bH,Int.reduceEq]
   .all_goals refine qq ?_
    have U:i=p.funcs.length:=p9;rw[U,fU,xA]at V;rw[jv,hJ,V];(try simp only[ci]at *);simp only[ *,cj,bC,bH,Int.reduceEq])
end
section
def Dd(d:Nat)(h:d<2^60):cC ((d:Int)+1)=((d+1:Nat):Int):=by unfold cC;rw[iN ac ac];omega
mutual
theorem MQ:∀(x:Ex) (d:Nat),d<=21->mI sF x d=decide (d+cX x<=20)
 | .mk k n s o L,d,hd=>by
   rw[mI,sF,cX];by_cases h:d<=20
   .rw[Dd d ac,MR L d h];simp only[show decide ((d:Int)<=20)=true by simpa using (by omega:(d:Int)<=20),fT]
   .have i:decide ((d:Int)<=20)=false:=by simp;omega
    rw[i,jS];symm;simp;omega
theorem MR:∀(l:qG) (d:Nat),d<=20->jb sF l ((d+1:Nat):Int)=decide (d+jt l<=20)
 |[],d,hd=>by rw[jb,jt];symm;simpa using hd
 |e::es,d,hd=>by
  rw[jb,MQ e (d+1) ac,MR es d hd,jt];by_cases i:d+1+cX e<=20<;>by_cases g:d+jt es<=20;all_goals simp only[i,g,Lq,kW,sG,fT,jS]
  all_goals (symm;simp;omega)
end
def Hk(x:Ex):mI sF x 0=!decide ((20:Int)<cX x):=by
 have:=MQ x 0 ac;rw[show((0:Nat):Int)=0 from rfl]at this;rw[this];by_cases h:cX x<=20
 .have:¬(20:Int)<cX x:=by omega
  simp[h,this]
 .have:(20:Int)<cX x:=by omega
  simp[h,this]
theorem MS:∀(l:qG),jb sF l 0=!(l.any fun e=>decide ((20:Int)<cX e))
 |[]=>rfl
 |e::es=>by rw[jb,Hk,MS es,pp,xI]
mutual
theorem zal:∀(x:St) (d:Int),kX (pj sF) x d ()=(!mP x,())
 | .mk k o z n a v C L M,d=>by
   rw[kX,pj,mP];simp only[St.aW,St.value,St.args,Hk,MS];cases i:decide ((20:Int)<cX a)
   .cases g:decide ((20:Int)<cX v)
    .cases m:C.any fun e=>decide ((20:Int)<cX e)
     .simp only[oh,kW,fT,De L];cases U:fJ L
      .simp only[oh,De M,pe,lZ]
      .simp
     .simp
    .simp
   .simp
theorem De:∀(l:qD) (d:Int),eV (pj sF) l d ()=(!fJ l,())
 |[],_=>rfl
 |x::l,d=>by
  rw[eV,zal x,fJ];cases h:mP x
  .simp only[oh,De l,lZ]
  .simp
end
def ui(k:Int):Nat:=if k=4 then 1 else 0
def zam(x:St)(d n l:Nat)(C:n<2^60)(K:l<2^60):ox x d ((n:Int),(l:Int))=(decide ((d:Int)<=20)&&decide (((n+1:Nat):Int)<=200)&&decide (((l+ui x.am:Nat):Int)<=16),(((n+1:Nat):Int),((l+ui x.am:Nat):Int))):=by
 have L:(if x.am=4 then cC ((l:Int)+1)else (l:Int))=((l+ui x.am:Nat):Int):=by
  unfold ui;split
  .rw[Dd l ac]
  .rfl
 unfold ox;simp only[Dd n ac,L]
mutual
theorem zan:∀(x:St) (d n l:Nat),d<=21->n<=200->l<=16 ->
 ((cz x d<=20/\n+dy x<=200/\l+dd x<=16)->kX ox x d ((n:Int),(l:Int))=(true,(((n+dy x:Nat):Int),((l+dd x:Nat):Int)))) /\
 (¬(cz x d<=20/\n+dy x<=200/\l+dd x<=16)->(kX ox x d ((n:Int),(l:Int))).1=false)
 | .mk k o Z m a v C L M,d,n,l,hd,hn,hl=>by
   have Y:ui (St.mk k o Z m a v C L M).am<=1:=by unfold ui;split<;>omega
   have O:dd (.mk k o Z m a v C L M)=ui (St.mk k o Z m a v C L M).am+da L+da M:=by rw[dd];rfl
   rw[kX,zam _ _ _ _ ac ac,O];obtain⟨z,I⟩:∃z,ui (St.mk k o Z m a v C L M).am=z:=⟨_,rfl⟩;rw[I]at Y⊢;clear I O;simp only[Dd d ac,cz,dy];by_cases K:d<=20/\n+1<=200/\l+z<=16
   .have V:(decide ((d:Int)<=20)&&decide (((n+1:Nat):Int)<=200)&&decide (((l+z:Nat):Int)<=16))=true:=by
     rw[co,co];refine⟨⟨?_,?_⟩,?_⟩<;>apply io<;>omega
    rw[V];simp only[];have t:=Df L (d+1) (n+1) (l+z) ac ac ac;by_cases i:eJ L (d+1)<=20/\n+1+nS L<=200/\l+z+da L<=16
    .rw[t.1 i];simp only[];have u:=Df M (d+1) (n+1+nS L) (l+z+da L) ac ac ac;by_cases g:eJ M (d+1)<=20/\n+1+nS L+nS M<=200/\l+z+da L+da M<=16
     .rw[u.1 g];refine⟨fun _=>?_,fun h=>(h ⟨ac,ac,ac⟩).elim⟩;rw[show n+1+nS L+nS M=n+(1+nS L+nS M) by omega,show l+z+da L+da M=l+(z+da L+da M) by omega]
     .refine⟨fun h=>(g ⟨ac,ac,ac⟩).elim,fun _=>u.2 g⟩
    .refine⟨fun h=>(i ⟨ac,ac,ac⟩).elim,fun _=>?_⟩;have:=t.2 i;generalize eV ox L _ _=r at this⊢;obtain⟨b,s⟩:=r;simp only at this;subst this;rfl
   .have V:(decide ((d:Int)<=20)&&decide (((n+1:Nat):Int)<=200)&&decide (((l+z:Nat):Int)<=16))=false:=by
     rw[<-Bool.not_eq_true,co,co];rintro⟨⟨bK,bW⟩,U⟩;have bK:=sR bK;have bW:=sR bW;have U:=sR U;exact K ⟨ac,ac,ac⟩
    rw[V];exact⟨fun h=>(K ⟨ac,ac,ac⟩).elim,fun _=>rfl⟩
theorem Df:∀(x:qD) (d n l:Nat),d<=21->n<=200->l<=16 ->
 ((eJ x d<=20/\n+nS x<=200/\l+da x<=16)->eV ox x d ((n:Int),(l:Int))=(true,(((n+nS x:Nat):Int),((l+da x:Nat):Int)))) /\
 (¬(eJ x d<=20/\n+nS x<=200/\l+da x<=16)->(eV ox x d ((n:Int),(l:Int))).1=false)
 |[],d,n,l,hd,hn,hl=>by
  rw[eV,eJ,nS,da];exact⟨fun _=>rfl,fun h=>(h ⟨ac,ac,ac⟩).elim⟩
 |x::r,d,n,l,hd,hn,hl=>by
  rw[eV,eJ,nS,da];have t:=zan x d n l hd hn hl;by_cases i:cz x d<=20/\n+dy x<=200/\l+dd x<=16
  .rw[t.1 i];simp only[];have u:=Df r d (n+dy x) (l+dd x) hd ac ac;by_cases g:eJ r d<=20/\n+dy x+nS r<=200/\l+dd x+da r<=16
   .rw[u.1 g];refine⟨fun _=>?_,fun h=>(h ⟨ac,ac,ac⟩).elim⟩;rw[show n+dy x+nS r=n+(dy x+nS r) by omega,show l+dd x+da r=l+(dd x+da r) by omega]
   .exact⟨fun h=>(g ⟨ac,ac,ac⟩).elim,fun _=>u.2 g⟩
  .refine⟨fun h=>(i ⟨ac,ac,ac⟩).elim,fun _=>?_⟩;have:=t.2 i;generalize kX ox x _ _=r at this⊢;obtain⟨b,s⟩:=r;simp only at this;subst this;rfl
end
def zao(x:qD):(eV ox x 0 (0,0)).1=(!decide ((200:Int)<nS x) && !decide ((16:Int)<da x) && !decide ((20:Int)<eJ x 0)):=by
 have t:=Df x 0 0 0 ac ac ac;rw[show((0:Nat):Int)=0 from rfl]at t;simp only[bO]at t;by_cases h:eJ x 0<=20/\nS x<=200/\da x<=16
 .rw[t.1 h];have i:¬(200:Int)<nS x:=ac;have Z:¬(16:Int)<da x:=ac;have m:¬(20:Int)<eJ x 0:=ac;simp[i,Z,m]
 .rw[t.2 h]
  symm
  rw[<-Bool.not_eq_true,co,co];rintro⟨⟨bK,bW⟩,g⟩;simp only[xg,lH]at bK bW g;exact h ⟨ac,ac,ac⟩
theorem zap(f:Fu):jP f=!mQ f:=by
 rw[jP,mQ,pm,zao,Hk,De];have i:decide ((f.params.length:Int)<=6)=!decide ((6:Int)<f.params.length):=by
  by_cases h:(6:Int)<f.params.length
  .have:¬(f.params.length:Int)<=6:=by omega
   simp[h,this]
  .have:(f.params.length:Int)<=6:=by omega
   simp[h,this]
 have Z:decide ((f.aj.length:Int)<=8)=!decide ((8:Int)<f.aj.length):=by
  by_cases h:(8:Int)<f.aj.length
  .have:¬(f.aj.length:Int)<=8:=by omega
   simp[h,this]
  .have:(f.aj.length:Int)<=8:=by omega
   simp[h,this]
 rw[i,Z];simp only[xI];generalize (!decide ((6:Int)<f.params.length))=a;generalize (!decide ((8:Int)<f.aj.length))=b;generalize (!decide ((200:Int)<nS f.body))=c;generalize (!decide ((16:Int)<da f.body))=d;generalize (!decide ((20:Int)<eJ f.body 0))=e;generalize (!fJ f.body)=g;generalize (!decide ((20:Int)<cX f.value))=h;cases a<;>cases b<;>cases c<;>cases d<;>cases e<;>cases g<;>cases h<;>rfl
theorem MT{J:Type}(l:List J)(p q:J->Bool)(h:∀x,p x=!q x):l.all p=!l.any q:=by
 induction l with
 |nil=>rfl
 |cons a l ih=>rw[oy,pp,xI,h,ih]
def zaq(p:Pr):lI p=!jv p:=by
 rw[lI,jv,MT p.funcs jP mQ zap,MT p.aa _ re (fun a=>by rw[re,xI])];simp only[xI]
def tyR3d.tyF:=ad @ez (ad @cR (ad @dt (ad @fb (ad @eA (ad @fc (@fG))))))
open tyR3d
noncomputable def MU:{c:SC // aI 128 (f116.body.getD .skip)=c}:=by
 refine⟨?_,?_⟩;rotate_left
 .simp only[f116,bS,aI,bM,bI,bT,bU,Nat.blt,Nat.ble];rfl
noncomputable def MV:{c:SC // aI 27 (f152.body.getD .skip)=c}:=by
 refine⟨?_,?_⟩;rotate_left
 .simp only[f152,bS,aI,bM,bI,bT,bU,Nat.blt,Nat.ble];rfl
def md(x:Ex):Bool:=
 if x.am=1 then decide ((x.ak.length:Int)=0)&&decide (x.name=[])&&decide (x.op=0)
 else if x.am=2 then decide ((x.ak.length:Int)=0)&&decide (x.n=0)&&decide (x.op=0)&&cZ x.name
 else if x.am=3 then decide ((x.ak.length:Int)=1)&&decide (x.n=0)&&decide (x.op=0)&&cZ x.name
 else if x.am=4 then decide (x.n=0)&&decide (x.name=[])&&((decide ((x.ak.length:Int)=2)&&py x.op)||(decide ((x.ak.length:Int)=1)&&(decide (x.op=20)||decide (x.op=21))))
 else if x.am=5 then decide ((x.ak.length:Int)=3)&&decide (x.n=0)&&decide (x.name=[])&&decide (x.op=0)
 else false
mutual
def eK:Ex->Bool
 | .mk k n s o L=>el L&&md (.mk k n s o L)
def el:qG->Bool
 |[]=>true
 |e::es=>eK e&&el es
end
theorem zP(x:Ex):eK x=(el x.ak&&md x):=by cases x;rw[eK];rfl
noncomputable def Dg:En:=⟨114,false,ch (fun s=>s.length<2^60) nJ fun s=>.bool (cZ s)⟩
def Hl:cT prog ρ Dg:=dg fun x I=>YO ρ x I
noncomputable def MW:En:=⟨139,false,ch (fun _=>True) (fun n:Int=>[.int .i64 n]) fun n=>.bool (py n)⟩
def zar:cT prog ρ MW:=dg fun x _=>YH ρ x
def Hm(x y:Int)(h:([.int .i64 x]:qs)=[.int .i64 y]):x=y:=i9
noncomputable def zQ:En:=⟨151,false,ch (fun _=>True) ju fun x=>.bool (zeroE x)⟩
def MX:cT prog ρ zQ:=dg fun x _=>YI ρ x
noncomputable def Hn:qA:=[Dg,MW]
def zas:gm prog ρ Hn:=⟨Hl ρ,zar ρ,trivial⟩
def zat:∀x:Ex,x.sz<2^60->bX prog ρ 116 (ju x) (.bool (eK x)):=
 vG fit (pls:=pls) (zas ρ) (fun x=>x.sz) (ok:=fun x=>x.sz<2^60) (enc:=ju) (out:=fun x=>.bool (eK x)) (fun x _=>.cons (.agg x.pure) .nil) (fun x _=>.bool _) (fun x hx=>by
 have L:=vJ (sz:=fun x:Ex=>x.sz) (ok:=fun x=>x.sz<2^60) (out:=fun x=>.bool (eK x)) pZ (f:=116) (l:=Hn) x;generalize I:(⟨116,false,ch (fun y=>y.sz<2^60/\y.sz<x.sz) ju fun x=>.bool (eK x)⟩:En)::Hn=l at L⊢;have kr:∀y:Ex,y.sz<x.sz->∀H,aY prog (aH pls l) 116 [.agg y.cells] H fun v H'=>v=.bool (eK y)/\H'=H:=fun y h2 H=>by
  subst I;exact cF (enc:=ju) (out:=fun x=>.bool (eK x)) pZ (x:=y) rfl ⟨ac,h2⟩
 have kv:∀s:qw,s.length<2^60->∀H,aY prog (aH pls l) 114 [.ai s] H fun v H'=>v=.bool (cZ s)/\H'=H:=fun s h1 H=>by
  subst I;exact cF (enc:=nJ) (out:=fun x=>.bool (cZ x)) vL (x:=s) rfl h1
 have kb:∀n:Int,∀H,aY prog (aH pls l) 139 [.int .i64 n] H fun v H'=>v=.bool (py n)/\H'=H:=fun n H=>by
  subst I;exact cF (enc:=fun n:Int=>[.int .i64 n]) (out:=fun x=>.bool (py x)) Hm (x:=n) rfl trivial
 have hsz:=x.aM;have hlen:=ph x.ak;change aY _ _ _ [.agg x.cells] _ _;refine bF (M:=128) (rs:=[.tmp 2]) L.call L.aD L.aq func116 rfl rfl MU.2 rfl ?_;dsimp only[MU,bA,Nat.reduceAdd];repeat' (first
  |(apply aj ?_;clear hK K)|apply Rx.o ?_|apply dE ?_|(apply aX (fun J g=>?_) (fun J g=>?_)<;>try(cases J;done))|(apply aA (fun o Z=>?_) (fun o Z=>?_)<;>try(cases o;done))|apply ah ?_|(apply ai fun K hK=>?_)|apply ak ?_|apply am ?_|apply aq ?_|apply aw ?_)
 refine cA [1] [0] 3 x.ak.length (fun i E H=>el x.ak=el (x.ak.drop i)) eE az ?_;rintro i E H2 hi m U O hsI Y;(try simp only[bp,bm,aU,aF,aW,Nat.reduceBEq,Nat.reduceAdd,Nat.reduceLeDiff,tyF, *]at m);(try simp only[bp,bm,aU,aF,aW,Nat.reduceBEq,Nat.reduceAdd,Nat.reduceLeDiff,tyF, *]at U);(try simp only[bj,bE,cm,bO,Nat.reduceAdd]at O);have hB0:(0 == H2.next)=false:=bz ac;have hC0:(H2.next == 0)=false:=bz ac;repeat' (first
  |(apply aj ?_;clear hK K)|apply Rx.o ?_|(apply eC ?_;first|refine bi (kv _ ac _) ?_|refine bi (kb _ _) ?_)|apply dE ?_|(apply aX (fun J g=>?_) (fun J g=>?_)<;>try(cases J;done))|(apply aA (fun o Z=>?_) (fun o Z=>?_)<;>try(cases o;done))|apply ah ?_|(apply ai fun K hK=>?_)|apply ak ?_|apply am ?_|apply aq ?_|apply aw ?_)
 .have z:i<x.ak.length:=by simpa using o
  have hgx:x.ak[i]?=some x.ak[i]:=a0 z;have hm:=ou (cL z);have V:el (x.ak.drop i)=(eK x.ak[i]&&el (x.ak.drop (i+1))):=nH;repeat' (first
   |(apply aj ?_;clear hK K)|apply Rx.o ?_|(apply eC ?_;first|refine bi (kr _ ac _) ?_)|apply dE ?_|(apply aX (fun J g=>?_) (fun J g=>?_)<;>try(cases J;done))|(apply aA (fun o Z=>?_) (fun o Z=>?_)<;>try(cases o;done))|apply ah ?_|(apply ai fun K hK=>?_)|apply ak ?_|apply am ?_|apply aq ?_|apply aw ?_)
  all_goals (first|(refine⟨aD,_,aN,?_⟩;(try simp only[aC]);rw[zP,Y,V];(try simp only[ci]at *);simp only[ *,cj,bC,bH,Int.reduceEq];done)|skip)
  refine⟨ac,a2,a2,ce,Gl,?_⟩;rw[Y,V];(try simp only[ci]at *);simp only[ *,cj,bC,bH,Int.reduceEq]
 all_goals
  have C:i=x.ak.length:=ac;rw[C,fU]at Y;have j:el x.ak=true:=Y;clear Y;all_goals refine qq ?_
  rw[zP,j,md];(try simp only[ci]at *);simp only[ *,cj,bC,bH,Int.reduceEq])
end
section
def tyR3e.tyF:=ad @ez (ad @cR (ad @dt (ad @fb (ad @eA (ad @fc (@fG))))))
open tyR3e
noncomputable def MY:{c:SC // aI 202 (f138.body.getD .skip)=c}:=by
 refine⟨?_,?_⟩;rotate_left
 .simp only[f138,bS,aI,bM,bI,bT,bU,Nat.blt,Nat.ble];rfl
def pA(x:St):Bool:=decide (x.name=[])&&decide (x.to=[])&&decide (x.n=0)&&zeroE x.aW&&decide ((x.args.length:Int)=0)
def pB(x:St):Bool:=decide ((x.a5.length:Int)=0)&&decide ((x.a6.length:Int)=0)
def me(x:St):Bool:=
 if x.am=1 then pB x&&cZ x.name&&decide (x.to=[])&&decide (x.n=0)&&zeroE x.aW&&decide ((x.args.length:Int)=0)&&eK x.value
 else if x.am=2 then pB x&&cZ x.name&&decide (x.to=[])&&decide (x.n=0)&&eK x.aW&&decide ((x.args.length:Int)=0)&&eK x.value
 else if x.am=3 then pA x&&eK x.value
 else if x.am=4 then pA x&&eK x.value&&decide ((x.a6.length:Int)=0)
 else if x.am=5 then pB x&&pA x&&eK x.value
 else if x.am=6 then pB x&&cZ x.name&&cZ x.to&&decide (x.n=0)&&zeroE x.aW&&zeroE x.value
 else if x.am=7 then pB x&&decide (x.name=[])&&decide (x.to=[])&&decide (0<=x.n)&&decide (x.n<=1000000)&&zeroE x.aW&&zeroE x.value&&decide ((x.args.length:Int)=0)
 else false
def iO(x:St):Bool:=el x.args&&me x
def vY(x:St):qs:=[.agg x.cells]
def MZ(x y:St)(h:vY x=vY y):x=y:=by simp only[vY,dR,AV.agg.injEq,aU]at h;exact St.inj h
def zau(x:St):bX prog ρ 152 [.agg x.cells] (.bool (pA x)):=eg fit (pls:=pls) (l:=[zQ]) ⟨MX ρ,trivial⟩ (.cons (.agg x.pure) .nil) (.bool _) (by
 have L:zd0 (aH pls [zQ]) 152:=dG (fun _=>rfl) rfl;have o:∀y:Ex,∀H,aY prog (aH pls [zQ]) 151 [.agg y.cells] H fun v H'=>v=.bool (zeroE y)/\H'=H:=fun y H=>cF (enc:=ju) (out:=fun x=>.bool (zeroE x)) pZ (x:=y) rfl trivial;refine bF (M:=27) (rs:=[.tmp 2]) (L.call _) L.aD L.aq func152 rfl rfl MV.2 rfl ?_;dsimp only[MV,bA,Nat.reduceAdd];repeat' (first
  |(apply aj ?_;clear hK K)|apply Rx.o ?_|(apply eC ?_;first|refine bi (o _ _) ?_)|(apply aX (fun J g=>?_) (fun J g=>?_)<;>try(cases J;done))|apply ah ?_|(apply ai fun K hK=>?_)|apply aq ?_)
 all_goals
  all_goals refine qq ?_
  rw[pA];(try simp only[ci]at *);simp only[ *,cj,bC,bH,Int.reduceEq])
noncomputable def M0:En:=⟨152,false,ch (fun _=>True) vY fun x=>.bool (pA x)⟩
def zav:cT prog ρ M0:=dg fun x _=>zau ρ x
noncomputable def Ho:En:=⟨116,false,ch (fun x=>x.sz<2^60) ju fun x=>.bool (eK x)⟩
def M1:cT prog ρ Ho:=dg fun x I=>zat ρ x I
noncomputable def xK:qA:=[Dg,zQ,M0,Ho]
def zaw:gm prog ρ xK:=⟨Hl ρ,MX ρ,zav ρ,M1 ρ,trivial⟩
def zax(x:St)(hx:x.sz<2^60):bX prog ρ 138 [.agg x.cells] (.bool (iO x)):=eg fit (pls:=pls) (zaw ρ) (.cons (.agg x.pure) .nil) (.bool _) (by
 have I:zd0 (aH pls xK) 138:=dG (fun _=>rfl) rfl;have kz:∀y:Ex,∀H,aY prog (aH pls xK) 151 [.agg y.cells] H fun v H'=>v=.bool (zeroE y)/\H'=H:=fun y H=>cF (enc:=ju) (out:=fun x=>.bool (zeroE x)) pZ (x:=y) rfl trivial;have ko:∀y:St,∀H,aY prog (aH pls xK) 152 [.agg y.cells] H fun v H'=>v=.bool (pA y)/\H'=H:=fun y H=>cF (enc:=vY) (out:=fun x=>.bool (pA x)) MZ (x:=y) rfl trivial;have kv:∀s:qw,s.length<2^60->∀H,aY prog (aH pls xK) 114 [.ai s] H fun v H'=>v=.bool (cZ s)/\H'=H:=fun s U H=>cF (enc:=nJ) (out:=fun x=>.bool (cZ x)) vL (x:=s) rfl U;have kw:∀y:Ex,y.sz<2^60->∀H,aY prog (aH pls xK) 116 [.agg y.cells] H fun v H'=>v=.bool (eK y)/\H'=H:=fun y U H=>cF (enc:=ju) (out:=fun x=>.bool (eK x)) pZ (x:=y) rfl U;have hsz:=x.aM;have hlen:=ph x.args;refine bF (M:=202) (rs:=[.tmp 2]) (I.call _) I.aD I.aq func138 rfl rfl MY.2 rfl ?_;dsimp only[MY,bA,Nat.reduceAdd];repeat' (first
  |(apply aj ?_;clear hK K)|apply Rx.o ?_|(apply aX (fun J g=>?_) (fun J g=>?_)<;>try(cases J;done))|(apply aA (fun o Z=>?_) (fun o Z=>?_)<;>try(cases o;done))|apply ah ?_|(apply ai fun K hK=>?_)|apply ak ?_|apply am ?_|apply aq ?_|apply aw ?_)
 refine cA [1] [0] 3 x.args.length (fun i E H=>el x.args=el (x.args.drop i)) eE az ?_;rintro i E H2 hi m O L hsI Y;(try simp only[bp,bm,aU,aF,aW,Nat.reduceBEq,Nat.reduceAdd,Nat.reduceLeDiff,tyF, *]at m);(try simp only[bp,bm,aU,aF,aW,Nat.reduceBEq,Nat.reduceAdd,Nat.reduceLeDiff,tyF, *]at O);(try simp only[bj,bE,cm,bO,Nat.reduceAdd]at L);have hB0:(0 == H2.next)=false:=bz ac;have hC0:(H2.next == 0)=false:=bz ac;repeat' (first
  |(apply aj ?_;clear hK K)|apply Rx.o ?_|(apply eC ?_;first|refine bi (kv _ ac _) ?_|refine bi (kz _ _) ?_|refine bi (ko _ _) ?_|refine bi (kw _ ac _) ?_)|(apply aX (fun J g=>?_) (fun J g=>?_)<;>try(cases J;done))|(apply aA (fun o Z=>?_) (fun o Z=>?_)<;>try(cases o;done))|apply ah ?_|(apply ai fun K hK=>?_)|apply ak ?_|apply am ?_|apply aq ?_|apply aw ?_)
 .have z:i<x.args.length:=by simpa using o
  have hgx:x.args[i]?=some x.args[i]:=a0 z;have hm:=ou (cL z);have V:el (x.args.drop i)=(eK x.args[i]&&el (x.args.drop (i+1))):=nH;repeat' (first
   |(apply aj ?_;clear hK K)|apply Rx.o ?_|(apply eC ?_;first|refine bi (kw _ ac _) ?_)|(apply aX (fun J g=>?_) (fun J g=>?_)<;>try(cases J;done))|(apply aA (fun o Z=>?_) (fun o Z=>?_)<;>try(cases o;done))|apply ah ?_|(apply ai fun K hK=>?_)|apply ak ?_|apply am ?_|apply aq ?_|apply aw ?_)
  all_goals (first|(refine⟨aD,_,aN,?_⟩;(try simp only[aC]);rw[iO,Y,V];(try simp only[ci]at *);simp only[ *,cj,bC,bH,Int.reduceEq];done)|skip)
  refine⟨ac,a2,a2,ce,CY,?_⟩;rw[Y,V];(try simp only[ci]at *);simp only[ *,cj,bC,bH,Int.reduceEq]
 all_goals
  have C:i=x.args.length:=ac;rw[C,fU]at Y;have j:el x.args=true:=Y;clear Y;all_goals refine qq ?_
  rw[iO,j,me,pB];(try simp only[ci]at *);simp only[ *,cj,bC,bH,Int.reduceEq])
end
end Go.Proofs.Ytbflaciihaijgaa
