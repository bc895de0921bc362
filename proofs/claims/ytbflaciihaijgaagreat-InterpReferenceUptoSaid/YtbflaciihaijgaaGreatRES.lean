/- Lemmas for the last file. -/
import Derived.Test.YtbflaciihaijgaaGreatRER
import Derived.Test.YtbflaciihaijgaaGreatRows
set_option linter.all false
set_option maxHeartbeats 32000000
namespace Go.Ab
set_option maxRecDepth 20000
open Go
variable{qb:Prop}
def Dg(h:qb:=by intro e;cases e):=h
def PB(h:qb:=by rw[Hp.get_set,if_neg (by have:=j.1;omega)]):=h
def GX(h:qb:=by simp only[List.map_cons,List.sum_cons];omega):=h
def ul:=@List.sum_cons
def zQ:=@List.flatten_nil
def zR:=@List.sum_nil
end Go.Ab
namespace Go.Proofs.YtbflaciihaijgaaGreat
set_option maxRecDepth 20000
open Go Go.Ab Proofs.Tryz
variable{i lo m P:Nat}{k x y:Int}{H:Hp}{f g:Fu}{E:aD}{A:AV}
section
def tyMuQ.tyF:=ac @dF (ac @cI (ac @oX (ac @cY (ac @fg (ac @fh (ac @eL (ac @dW (ac @dR (ac @dX (ac @dy (ac @ge (ac @tm (ac @iW (ac @eD (ac @pT (ac @oV (@CP)))))))))))))))))
open tyMuQ
def PC{J:qu}(K:zdi J){a h:Int}{I:Hp}{z rf:Nat}{pf lf bf:AV}{vf:qm}{pg lg bg:AV}{vg:qm}(U:AtM i a h k lo m P I H z rf x y f g pf lf bf vf pg lg bg vg E):bN prog (aF pls J) 10 285 fM E H (lx lo m P I):=by
 by_cases c1:h=1
 .exact zb2 K U c1
 by_cases c2:h=2
 .exact zb3 K U c2
 by_cases c3:h=3
 .exact zb4 K U c3
 by_cases c4:h=4
 .exact zb5 K U c4
 by_cases c5:h=5
 .exact zcd K U c5
 by_cases c6:h=6
 .exact zcq K U c6
 by_cases c7:h=7
 .exact zce K U c7
 by_cases F:h=8
 .exact zb9 K U F
 by_cases C:h=9
 .exact zca K U C
 by_cases A:h=10
 .exact zb6 K U A
 by_cases S:h=11
 .exact zb7 K U S
 by_cases Y:h=12
 .exact zP K U ⟨aa,aa⟩
 by_cases V:h=13
 .exact zP K U ⟨aa,aa⟩
 by_cases O:h=14
 .exact zP K U ⟨aa,aa⟩
 by_cases M:h=15
 .exact zP K U ⟨aa,aa⟩
 by_cases j:h=16
 .exact zP K U ⟨aa,aa⟩
 by_cases Z:h=17
 .exact zcr K U Z
 by_cases o:h=18
 .exact zcs K U o
 refine zb1 K U ?_;simp only[yE,nj,false_implies,implies_true,bb];exact⟨c1,c2,c3,c4,c5,c6,c7,F,C,A,S,Y,V,O,M,j,Z,o⟩
def PD{J:Nat->Nat}{b V:Nat}{Z rf:Nat}{a:Int}{j lf bf:AV}{U:qm}{O z:AV}{M:qm}{S:Hp}(h:zc8 i (fun q=>if S.next<=q then 0 else J q) lo b V 14 ((S.alloc qf).set S.next (.cells [.sl Z 0 2 2,.sl rf 0 2 9] 0 true)) Z rf x y f g j lf bf U O z A M)(F:i=0\/i=1)(C:P=S.next)(I:lo<=S.next)(fs:f.sz<2^24)(gs:g.sz<2^24)(fn:oG f)(gn:oG g)(Y:aZ a 2=i)(hm:m<lo){K:Int}
 (k2:E.at 2=.int .i64 a) (k6:E.at 6=.ptr m 0) (k7:E.at 7=.ptr P 0) (k8:E.at 8=.ptr rf (9*i)) (k9:E.at 9=.int .i64 k) (o:E.at 27=.int .i64 K) :
 AtM i a K k lo m P ((S.alloc qf).set S.next (.cells [.sl Z 0 2 2,.sl rf 0 2 9] 0 true)) ((S.alloc qf).set S.next (.cells [.sl Z 0 2 2,.sl rf 0 2 9] 0 true)) Z rf x y f g j lf bf U O z A M E:=
 ⟨⟨_,b,V,h,by rw[C,au (aT _)]⟩,F,hm,aa,by rw[C];exact dq _,by rw[C,aO,au rfl],fun _ _=>rfl,fs,gs,fn,gn,Y,k2,k6,k7,k8,k9,o⟩
def zct(r:Nat):eS prog 23 (.sl r 0 2 9) (.int .i64 0)=some (.ptr r 0):=aA
def zcu(r:Nat):eS prog 23 (.sl r 0 2 9) (.int .i64 1)=some (.ptr r 9):=aA
set_option maxRecDepth 100000 in
theorem zcv{O:qu}(V:zdi O)(hst:Gm O)(l:qp)(hl:l.length<2^63)(hL:il l)(J a:Int)(H:Hp):
 aU prog (aF pls O) 10 [.ai (l.map fun n=>[AV.int .i64 n]),.int .i64 J,.int .i64 a] H fun v H'=>∃A vb p R P,v=.agg [A,vb]/\MutR (H.next+1) P 50 H' A vb p R/\H.next<=H'.next/\∀q,q<H.next->H'.get q=H.get q:=by
 have hw:zc7 (aF pls O) 10:=dZ V.plm.1 V.plm.2;have hkeep:(aF pls O).aj 10=false:=rfl;have C:=OB l;have I:=zbN hL;have hq24:(24:Int)≠0:=cy;have hpr:=fb (n:=a) (m:=2) aa aa;have o:=iC V.pick a 2 cy;refine a5 (M:=285) (rs:=[.cell 6 25]) (hw.call _) hw.ao hw.am func10 rfl rfl kh.2 rfl ?_;dsimp only[kh,a3,Nat.reduceAdd];repeat' (first
  |(apply ai ?_;clear hK K)|apply Rx.o ?_|apply aN ?_|apply ae ?_|(apply ah fun K hK=>?_)|(apply aq 2 [(1,3),(1,6)] fun K hK=>?_)|(apply aq 8 [(4,7),(4,11),(5,7),(5,11),(9,11),(10,11)] fun K hK=>?_)|(apply aq 10 [(4,7),(4,11),(5,7),(5,11),(9,11),(10,11)] fun K hK=>?_)|(apply aq 15 [(4,12),(7,12),(8,12),(9,12),(11,12)] fun K hK=>?_)|(apply aq 17 [(1,3),(1,5),(1,9)] fun K hK=>?_)|(apply aq 19 [(1,4),(1,9),(2,4),(2,9),(6,9),(8,9)] fun K hK=>?_)|(apply aq 50 [(3,14),(3,16),(8,14),(11,14)] fun K hK=>?_)|(apply aq 52 [(1,4),(1,9),(2,4),(2,9),(6,9),(8,9)] fun K hK=>?_)|(apply aM ?_;try intro _)|(apply aR ?_ ?_<;>clear hK K)|apply aL ?_|apply am ?_)
 refine qa ?_;refine a4 ?_ (NT V.tozdj hst l hl _);rintro _ S ⟨ra,rf,x,y,cf,cg,rfl,_,hnx,Y,hra,pt,pf,lf,bf,vf,pg,lg,bg,vg,rfl,rfl,hP,hA,z⟩;simp only[br]at hnx Y hra z;have hm0:S.get H.next=some qf:=by rw[Y _ aa,aP,au rfl]
 have ltA:=hP.cS;have ltF:=hP.ca;obtain⟨X0,X1⟩:=hP.toX (lo:=H.next+1) aa (fun q hq=>z q hq);have Z:(gQ (l.take 60)).sz<2^24/\(gR (l.take 60)).sz<2^24:=by
  rw[ei]at C;simp only[Pr.sz,dY]at C;omega
 dsimp only[a0];rcases(by omega:aZ a 2=0\/aZ a 2=1)with hi|hi;all_goals
  rw[hi]at o;have gh0:=@zct;have gh1:=@zcu;repeat' (first
   |(apply ai ?_;clear hK K)|apply Rx.o ?_|apply aN ?_|(apply dJ ?_;first|refine aY (o _) ?_)|apply ae ?_|(apply ah fun K hK=>?_)|(apply aq 2 [(1,3),(1,6)] fun K hK=>?_)|(apply aq 8 [(4,7),(4,11),(5,7),(5,11),(9,11),(10,11)] fun K hK=>?_)|(apply aq 10 [(4,7),(4,11),(5,7),(5,11),(9,11),(10,11)] fun K hK=>?_)|(apply aq 15 [(4,12),(7,12),(8,12),(9,12),(11,12)] fun K hK=>?_)|(apply aq 17 [(1,3),(1,5),(1,9)] fun K hK=>?_)|(apply aq 19 [(1,4),(1,9),(2,4),(2,9),(6,9),(8,9)] fun K hK=>?_)|(apply aq 50 [(3,14),(3,16),(8,14),(11,14)] fun K hK=>?_)|(apply aq 52 [(1,4),(1,9),(2,4),(2,9),(6,9),(8,9)] fun K hK=>?_)|(apply aM ?_;try intro _)|(apply aR ?_ ?_<;>clear hK K)|apply aL ?_|apply am ?_)
  .exact di
  refine qa ?_;refine a4 ?_ (iC V.pick J 24 cy _);rintro _ _ ⟨rfl,rfl⟩;dsimp only[a0];refine wm (hK _ _ ?_);clear hK K;dsimp only[lE,nU];first
  |refine yF (fun x E' H' h=>?_) (PC V (PD (m:=H.next) (X0.mv0 (H':=(S.alloc qf).set S.next (.cells [.sl ra 0 2 2,.sl rf 0 2 9] 0 true)) gA (fun q _ j=>by rw[aO,ad aa,eX j])) (P:=S.next) (a:=a) (.inl rfl) rfl aa Z.1 Z.2 ⟨Dg,I _ gW⟩ ⟨Dg,I _ (jE _ gW)⟩ hi (dq _) eE eE eE eE eE eE))
  |refine yF (fun x E' H' h=>?_) (PC V (PD (m:=H.next) (X1.mv0 (H':=(S.alloc qf).set S.next (.cells [.sl ra 0 2 2,.sl rf 0 2 9] 0 true)) gA (fun q _ j=>by rw[aO,ad aa,eX j])) (P:=S.next) (a:=a) (.inr rfl) rfl aa Z.2 Z.1 ⟨Dg,I _ (jE _ gW)⟩ ⟨Dg,I _ gW⟩ hi (dq _) eE eE eE eE eE eE))
  obtain⟨rfl,k6,k7,A,vb,p,R,hgP,hPl,U,F⟩:=h;have hm1:H'.get H.next=some qf:=by
   rw[F _ aa,aO,ad aa,eX aa];exact hm0
  dsimp only[lE,nU];have e1:(S.next == H.next)=false:=ay aa;have e2:(H.next == S.next)=false:=ay aa;have o1:AV.one A=true:=by
   rcases U.ars with⟨rfl,_⟩|⟨q,imm,rows,rfl,_⟩<;>rfl
  have o2:AV.one vb=true:=by
   rcases U.fns with⟨rfl,_⟩|⟨q,imm,rows,rfl,_⟩<;>rfl
  repeat' (first
   |(apply ai ?_;clear hK K)|apply Rx.o ?_|apply aN ?_|apply ae ?_|(apply ah fun K hK=>?_)|(apply aq 2 [(1,3),(1,6)] fun K hK=>?_)|(apply aq 8 [(4,7),(4,11),(5,7),(5,11),(9,11),(10,11)] fun K hK=>?_)|(apply aq 10 [(4,7),(4,11),(5,7),(5,11),(9,11),(10,11)] fun K hK=>?_)|(apply aq 15 [(4,12),(7,12),(8,12),(9,12),(11,12)] fun K hK=>?_)|(apply aq 17 [(1,3),(1,5),(1,9)] fun K hK=>?_)|(apply aq 19 [(1,4),(1,9),(2,4),(2,9),(6,9),(8,9)] fun K hK=>?_)|(apply aq 50 [(3,14),(3,16),(8,14),(11,14)] fun K hK=>?_)|(apply aq 52 [(1,4),(1,9),(2,4),(2,9),(6,9),(8,9)] fun K hK=>?_)|(apply aM ?_;try intro _)|(apply aR ?_ ?_<;>clear hK K)|apply aL ?_|apply am ?_)
  refine⟨aC,_,(by(try simp only[aK,aW,Nat.reduceBEq,Nat.reduceAdd,Nat.reduceLeDiff,tyF,bU,cc,CP, *]);first|done|with_reducible rfl),?_⟩;try simp only[aB]
  refine⟨A,vb,p,R,S.next,rfl,⟨U.ne,U.ars.aj (fun _ _ h=>h) (aT _) fun q j _=>PB,U.fns.aj (fun _ _ h=>h) (aT _) fun q j _=>PB,U.gr⟩,by rw[bG];omega,fun q j=>?_⟩;rw[aO,ad aa,F q aa,aO,ad aa,eX aa,Y q aa,eX j]
end
variable(ρ:Nat->Int)
section
def MutR.rd{n:Nat}{V:AV}{p:Pr}{R:Nat->Prop}(h:MutR lo P n H A V p R):cJ (fun q=>lo<=q/\q≠P/\q<H.next) (n+1) H [A,V] p.cells:=by
 have e:p.cells=[.ai (p.af.map Ar.cells),.ai (p.funcs.map Fu.cells)]:=by cases p;rfl
 rw[e];exact .cons (h.ars.rd.ax (fun k j m=>⟨m.1,fun e=>h.ne (by rw[<-e];exact m.2),j⟩) (aT _) fun _ _ _=>rfl) (.cons (h.fns.rd.ax (fun k j m=>⟨m.1,m.2.2,j⟩) (aT _) fun _ _ _=>rfl) .nil)
noncomputable def zS:qu:=[pp,tS,zi,vA zK,vA Dd]
def zcw:eU prog ρ zS:=⟨w1 ρ,F8 ρ,MC ρ,L5 (OO ρ),L5 (zbS ρ),trivial⟩
theorem PE:zdi zS where
 pick:=fun _=>rfl
 f5:=fun _=>rfl
 nms:=fun _=>rfl
 pl:=fun f m=>by rcases NH m with rfl|rfl|rfl|rfl|rfl<;>exact⟨fun _=>rfl,rfl⟩
 me:=fun _=>rfl
 mei:=rfl
 ms:=fun _=>rfl
 msi:=rfl
 plm:=⟨fun _=>rfl,rfl⟩
structure zdq where
 l:qp
 how:Int
 aL:Int
def sJ(x:zdq):qm:=[gG x.l,.int .i64 x.how,.int .i64 x.aL]
def zcx(x y:zdq)(h:sJ x=sJ y):x=y:=by
 obtain⟨a,b,c⟩:=x;obtain⟨z,b',Z⟩:=y;simp only[sJ,ew,AV.int.injEq,iw]at h;obtain⟨j,rfl,rfl⟩:=h;rw[CT j]
structure zdq.ok (x:zdq):Prop where
 l:x.l.length<2^63
 r:il x.l
def zcy(x:zdq)(O:x.ok):∃p,zdz p/\∀J,bJ prog J 10 (sJ x) (.agg p.cells):=by
 have F:=zcv PE (NR PE.tozdj) x.l O.l O.r x.how x.aL bV
 have M:∃p,zdz p/\aU prog (aF pls zS) 10 (sJ x) bV fun v H'=>∃m u,iceV H' m v=some u/\bW 60 u=.agg p.cells:=by
  unfold aU at F;obtain⟨v,H',j,A,vb,p,R,P,rfl,V,_,_⟩:=F;refine⟨p,V.gr,?_⟩;unfold aU;refine⟨_,H',j,?_⟩;obtain⟨Z,Y,S⟩:=V.rd;have o:cV (fun q=>bV.next+1<=q/\q≠P/\q<H'.next) 100 H' (.agg [A,vb]) (.agg Z):=cV.up (n:=52) ⟨Z,Y,rfl⟩ aa;obtain⟨U,K⟩:=cV.iceV o;refine⟨U,.agg Z,K U (aT _),?_⟩;show AV.agg (Z.map (bW 59))=_;rw[S 59 aa]
 obtain⟨p,j,z⟩:=M;exact⟨p,j,fun J=>F9 (n:=60) (cfg:=aF pls zS) fit (mL J) (fun g I r C=>eU.bS (l:=zS) (zcw J) g I r C) (.cons (zC _) (.cons (.int _ _) (.cons (.int _ _) .nil))) z⟩
noncomputable def um(x:zdq):Pr:=open Classical in if h:∃p,zdz p/\∀J,bJ prog J 10 (sJ x) (.agg p.cells)then Classical.choose h else ⟨[],[]⟩
def PF{x:zdq}(O:x.ok):zdz (um x)/\∀J,bJ prog J 10 (sJ x) (.agg (um x).cells):=by
 have h:=zcy x O;have e:um x=Classical.choose h:=by unfold um;rw[dif_pos h]
 rw[e];exact uY h
noncomputable def PG:En:=⟨10,false,bS zdq.ok sJ fun x=>.agg (um x).cells⟩
def zcz:cS prog ρ PG:=cZ fun x hx=>(PF hx).2 ρ
def tyGX.tyF:=ac @dF (@jH)
open tyGX
noncomputable def PH:{c:SC // aG 14 (f9.body.getD .skip)=c}:=by
 refine⟨?_,?_⟩;rotate_left
 .simp only[f9,bE,aG,bz,bq,bF,bB,Nat.blt,Nat.ble];rfl
noncomputable def PI:{c:SC // aG 5 (f13.body.getD .skip)=c}:=by
 refine⟨?_,?_⟩;rotate_left
 .simp only[f13,bE,aG,bz,bq,bF,bB,Nat.blt,Nat.ble];rfl
def zcA(l:qp)(K:l.length<2^63):bJ prog ρ 12 [gG l] (.agg (ei l).cells):=by
 refine F9 (n:=60) (cfg:=aF pls CJ) fit (mL ρ) (fun g I r C=>eU.bS (l:=CJ) (ZX ρ) g I r C) (.cons (zC l) .nil) ?_;refine a4 (fun v H' h=>?_) (NT NI (NR NI) l K bV);obtain⟨ra,rf,x,y,V,S,rfl,Z,_,_⟩:=h;obtain⟨m,j,Y⟩:=Z.cells;have A:cV (fun q=>bV.next<=q) 100 H' (.agg [.sl ra 0 2 2,.sl rf 0 2 9]) (.agg m):=cV.up (n:=16) ⟨m,j,rfl⟩ aa;obtain⟨U,M⟩:=cV.iceV A;refine⟨U,.agg m,M U (aT _),?_⟩;show AV.agg (m.map (bW 59))=_;rw[Y 59 aa]
noncomputable def PJ:En:=⟨12,false,bS (fun l=>l.length<2^63) (fun l=>[gG l]) fun l=>.agg (ei l).cells⟩
def zcB:cS prog ρ PJ:=cZ fun x hx=>zcA ρ x hx
structure zdr where
 a:Int
 b:Int
 w:Int
def vM(x:zdr):qm:=[.int .i64 x.a,.int .i64 x.b,.int .i64 x.w]
theorem zcC(x y:zdr)(h:vM x=vM y):x=y:=by
 obtain⟨a,b,c⟩:=x;obtain⟨z,b',j⟩:=y;simp only[vM,ew,AV.int.injEq,iw]at h;obtain⟨rfl,rfl,rfl⟩:=h;rfl
def GY(x:zdr):qp:=[hC x.a x.w,hC x.b x.w]
def zcD(H:Hp)(a b:Int):dc prog H 27 2 [(0,.int .i64 a),(1,.int .i64 b)]=some (.sl H.next 0 2 1,H.alloc (.cells [.int .i64 a,.int .i64 b] 0 true)):=aA
theorem zcE(x:zdr):bJ prog ρ 9 (vM x) (gG (GY x)):=u5 (m:=3) (cfg:=aF pls [tS]) fit (mL ρ) (fun g I r C=>eU.bS (l:=[tS]) ⟨F8 ρ,trivial⟩ g I r C) (.cons (.int _ _) (.cons (.int _ _) (.cons (.int _ _) .nil))) (by
 have J:zc7 (aF pls [tS]) 9:=dZ (fun _=>rfl) rfl;obtain⟨a,b,w⟩:=x;rw[vM];simp only[];refine a5 (M:=14) (rs:=[.tmp 6]) (J.call _) J.ao J.am func9 rfl rfl PH.2 rfl ?_;dsimp only[PH,a3,Nat.reduceAdd];have V:=@zcD;repeat' (first
  |(apply ai ?_;clear hK K)|apply Rx.o ?_|(apply dJ ?_;first|refine aY (MB (fun _=>rfl) _ _ _) ?_)|apply ae ?_|(apply ah fun K hK=>?_)|apply am ?_)
 all_goals refine qq ?_
 rfl)
noncomputable def PK:En:=⟨9,false,bS (fun _=>True) vM fun x=>gG (GY x)⟩
def zcF:cS prog ρ PK:=cZ fun x hx=>zcE ρ x
def zcG(n:Int):bJ prog ρ 13 [.int .i64 n] (.int .i64 (aZ n 12)):=eG fit (pls:=pls) (l:=[pp]) ⟨w1 ρ,trivial⟩ (.cons (.int _ _) .nil) (.int _ _) (by
 have J:zc7 (aF pls [pp]) 13:=dZ (fun _=>rfl) rfl;refine a5 (M:=5) (rs:=[.tmp 2]) (J.call _) J.ao J.am func13 rfl rfl PI.2 rfl ?_;dsimp only[PI,a3,Nat.reduceAdd];repeat' (first
  |(apply ai ?_;clear hK K)|apply Rx.o ?_|(apply dJ ?_;first|refine aY (iC (fun _=>rfl) _ _ cy _) ?_)|apply ae ?_|(apply ah fun K hK=>?_)|apply am ?_)
 all_goals refine qq ?_
 all_goals trivial)
noncomputable def PL:En:=⟨13,false,bS (fun _=>True) (fun n:Int=>[.int .i64 n]) fun n=>.int .i64 (aZ n 12)⟩
def zcH:cS prog ρ PL:=cZ fun x hx=>zcG ρ x
end
end Go.Proofs.YtbflaciihaijgaaGreat
namespace Go.Ab
set_option maxRecDepth 20000
open Go Go.WideShapes Go.Deep Go.RowKit Go.ChangeShapes Go.Proofs.YtbflaciihaijgaaGreat
inductive Sh (P:Program):Nat->TypeId->qm->Prop
 |int {t:TypeId}{k:IntKind} (n:Int) (ht:P.underlying t=some (.int k)) (hw:(Lit.int k n).wf=true):Sh P 1 t [.int k n]
 |bool {t:TypeId} (b:Bool) (ht:P.underlying t=some .bool):Sh P 1 t [.bool b]
 |ae {t:TypeId} (s:qr) (ht:P.underlying t=some .string):Sh P (s.length+1) t [.ae s]
 |rows {t e:TypeId} (l:List (qm×Nat)) (ht:P.underlying t=some (.slice e)) (h:∀r∈l,Sh P r.2 e r.1):Sh P ((l.map (·.2)).sum+1) t [.ai (l.map (·.1))]
 |struct {t:TypeId}{fs:Array Field} (l:List (qm×Nat)) (ht:P.underlying t=some (.struct fs)) (hl:l.length=fs.size) (h:∀(i:Nat) f r,fs[i]?=some f->l[i]?=some r->Sh P r.2 f.type r.1):Sh P ((l.map (·.2)).sum+1) t (l.map (·.1)).flatten
variable{a:Addr}{n:Nat}{t:TypeId}{V:qm}
def zT(P:Program):List Field->Nat->Nat->Bool
 |[],i,n=>i == n
 |f::fs,i,n=>f.offset == i&&zT P fs (i+P.cellsOf f.type) n
def GZ(P:Program)(S:List TypeId):Bool:=S.all fun t=>match P.underlying t with
 |some (.int _)|some .bool|some .string=>true
 |some (.slice e)=>S.contains e&&Nat.blt 0 (P.cellsOf e)
 |some (.struct U)=>U.toList.all (fun f=>S.contains f.type)&&zT P U.toList 0 (P.cellsOf t)
 |_=>false
theorem PM{P:Program}{A:Type}{cs:List A}{n:Nat}(K:cs.length=n):∀(U:List Field) (i:Nat),zT P U i n=true->(U.map fun f=>(cs.drop f.offset).take (P.cellsOf f.type)).flatten=cs.drop i
 |[],i,h=>by
  have:i=n:=by simpa [zT]using h
  subst this;rw[<-K,gy];rfl
 |f::U,i,h=>by
  simp only[zT,cN,mG]at h;rw[el,iI,PM K U _ h.2,h.1,<-Ap,Dw]
section
variable {H:Type} {enc:TypeId × Value -> H} {P:Program} {W:World}
theorem bT.cc{G:Gh}:∀{l:List qm}{m:List qw},l.length=m.length->(∀(i:Nat) a b,l[i]?=some a->m[i]?=some b->bT G a b)->bT G l.flatten m.flatten
 |[],[],_,_=>kQ G
 |a::l,b::m,hl,h=>by
  rw[iI,iI];exact(h 0 a b rfl rfl).append (bT.cc (by simpa using hl) fun i x y hx hy=>h (i+1) x y AE (by simpa using hy))
theorem G3:∀{l:List (DataW H)}{m:qx},l.length=m.length->(∀(i:Nat) d n,l[i]?=some d->m[i]?=some n->n<=Rows.uptoBulk d)->m.sum<=Rows.uptoBulkAll l
 |[],[],_,_=>aT _
 |d::l,n::m,hl,h=>by
  have j:=h 0 d n rfl rfl;have Z:=G3 (l:=l) (m:=m) (by simpa using hl) fun i x y hx hy=>h (i+1) x y AE (by simpa using hy);simp only[Rows.uptoBulkAll,ul];omega
def PN{i:Nat}(h:a.spot=none):a.add i=⟨a.block,a.off+i,none⟩:=by
 obtain⟨b,o,s⟩:=a;simp only at h;subst h;unfold Addr.add;split
 .rename_i h;subst h;rfl
 .rfl
def Dh{cs:qw}(h:W.cells? 0 a n=some cs):cs.length=n/\∀j,j<n->W.cell? (a.add j)=cs[j]?:=by
 unfold World.cells? at h;rw[au (dx _)]at h;refine⟨by have:=mapM_some_length h;simpa using this,fun j A=>?_⟩;have:=mapM_some_get h j j (by rw[uC A]);exact this
theorem Di{S:List TypeId}(hS:GZ P S=true)(ρ:Nat->Int){sp:Nat->Bool}{held:Bool}:∀(J:Nat) (t:TypeId) (cs:qw) (x:DataW H×List MemPlace),t∈S->DataW.trod enc P W 0 sp held J t cs=some x ->
 ∃az n,bT ⟨fun _=>none,oC W,ρ⟩ az cs/\Sh P n t az/\n<=Rows.uptoBulk x.1
 |0,_,_,_,_,h=>by simp[DataW.trod]at h
 |J+1,t,cs,x,ht,h=>by
  have hg:=kj.1 hS t ht;split at hg
  .rename_i k Y;obtain⟨n,rfl,rfl,hw⟩:=DataW.trod_int Y h;exact⟨[.int _ n],1,gO (.int _ _) (kQ _),.int n Y hw,aT _⟩
  .rename_i Y;obtain⟨n,rfl,rfl⟩:=DataW.trod_bool Y h;exact⟨[.bool n],1,gO (.bool _) (kQ _),.bool n Y,aT _⟩
  .rename_i Y;obtain⟨s,rfl,rfl,_⟩:=DataW.trod_string Y h;exact⟨[.ae s.data.toList],_,gO (.ae s _ rfl) (kQ _),.ae _ Y,by simp[Rows.uptoBulk]⟩
  .rename_i e Y;rw[cN,iH]at hg;have he:e∈S:=by simpa using hg.1
   have hz0:=hg.2;rcases DataW.trod_slice Y h with⟨rfl,rfl⟩|⟨a,Z,cap,O,rest,n,hn,rfl,rfl,_,hl,M,hlen,hel,_,_⟩
   .exact⟨[.ai []],_,gO (.cb none 0) (kQ _),.rows [] Y aI,by simp[Rows.uptoBulk]⟩
   .obtain rfl:n=J:=by omega
    have key:∀i:Nat,∃r:qm×Nat,i<Z->∃C,W.cells? 0 (a.add (i*P.cellsOf e)) (P.cellsOf e)=some C/\bT ⟨fun _=>none,oC W,ρ⟩ r.1 C/\Sh P r.2 e r.1/\∀y:DataW H×List MemPlace,O[i]?=some y->r.2<=Rows.uptoBulk y.1:=fun i=>by
     by_cases F:i<Z
     .have hb:=hel i F;rw[bt aa]at hb;obtain⟨C,h1,h2⟩:=dI.1 hb;obtain⟨a',k,v1,v2,v3⟩:=Di hS ρ n e C _ he h2;exact⟨(a',k),fun _=>⟨C,h1,v1,v2,fun y hy=>by
       rw[bt aa]at hy;cases hy;exact v3⟩⟩
     .exact⟨([],0),fun h=>absurd h F⟩
    obtain⟨R,A⟩:=Gp key;have hLl:(((List.range Z).map R).map (·.1)).length=Z:=aI;refine⟨[.ai (((List.range Z).map R).map (·.1))],_,gO ?_ (kQ _),.rows ((List.range Z).map R) Y ?_,?_⟩
    .by_cases h0:Z=0
     .subst h0;exact .cb _ _
     obtain⟨cs0,c1,c2,_⟩:=A 0 aa;obtain⟨xG,c3⟩:=Dh c1;have V:a.spot=none:=by
      have h4:=c3 0 hz0;rw[bt aa]at h4;simp only[Addr.add,tf,bw,World.cell?]at h4;split at h4
      .split at h4
       .cases h4
       .rename_i hn;cases hq:a.spot with
        |none=>rfl
        |some s=>rw[hq]at hn;simp at hn
      .cases h4
     have K:∀i j,i<Z->j<P.cellsOf e->∃C v,W.cells? 0 (a.add (i*P.cellsOf e)) (P.cellsOf e)=some C/\C[j]?=some v/\W.cell? ⟨a.block,a.off+i*P.cellsOf e+j,none⟩=some v:=fun i j F hj=>by
      obtain⟨C,d1,_⟩:=A i F;obtain⟨l1,d3⟩:=Dh d1;refine⟨C,C[j]' aa,d1,bt aa,?_⟩;have:=d3 j hj;rw[bt aa]at this;rw[<-this,PN V,PN rfl]
     have hfin:=VR.ai (G:=⟨fun _=>none,oC W,ρ⟩) (xs:=((List.range Z).map R).map (·.1)) (b:=a.block) (o:=a.off) (cap:=cap) (z:=P.cellsOf e) (fun i j=>(W.cell? ⟨a.block,a.off+i*P.cellsOf e+j,none⟩).getD .nilFunc) ?_ ?_ ?_ (by rw[hLl];exact hl)
     .rw[hLl]at hfin;obtain⟨ab,ao,asp⟩:=a;simp only at V;subst V;exact hfin
     .intro i row hr;rw[ev,ev]at hr;by_cases F:i<Z
      .rw[uC F]at hr;simp only[iT]at hr;subst hr;obtain⟨C,d1,d2,_⟩:=A i F;rw[d2.1,(Dh d1).1]
      .rw[oS ce]at hr;simp at hr
     .intro i j F hj;rw[hLl]at F;obtain⟨C,v,_,_,d3⟩:=K i j F hj;show W.cell? ⟨a.block,a.off+i*P.cellsOf e+j,none⟩=_;rw[d3];rfl
     .intro i j row c hr hc;rw[ev,ev]at hr;by_cases F:i<Z
      .rw[uC F]at hr;simp only[iT]at hr;subst hr;obtain⟨C,d1,d2,_⟩:=A i F;have hj:j<P.cellsOf e:=by
        have:=(eu.1 hc).1;rw[d2.1,(Dh d1).1]at this;exact this
       obtain⟨cs2,v,e1,e2,e3⟩:=K i j F hj;rw[d1]at e1;cases e1;rw[e3];exact d2.2 j c v hc e2
      .rw[oS ce]at hr;simp at hr
    .intro r hr;obtain⟨i,F,rfl⟩:=l3.1 hr;exact(A i (nO.1 F)).choose_spec.2.2.1
    .have h1:(((List.range Z).map R).map (·.2)).sum<=Rows.uptoBulkAll (O.map (·.1)):=by
      refine G3 (by simp[hlen]) fun i d m hd M=>?_;rw[ev,ev]at M;rw[ev]at hd;by_cases F:i<Z
      .rw[uC F]at M;simp only[iT]at M;subst M;rw[bt aa]at hd;simp only[iT]at hd;subst hd;exact(A i F).choose_spec.2.2.2 _ (bt aa)
      .rw[oS ce]at M;simp at M
     show _<=Rows.uptoBulkAll (O.map (·.1))+Rows.uptoBulkAll (rest.map (·.1))+1;omega
  .rename_i U Y;rw[cN,kj]at hg;obtain⟨xs,n,hn,rfl,hcl,hxl,hf⟩:=DataW.trod_struct Y h;obtain rfl:n=J:=aa;have key:∀i:Nat,∃r:qm×Nat,∀f:Field,U[i]?=some f->bT ⟨fun _=>none,oC W,ρ⟩ r.1 ((cs.drop f.offset).take (P.cellsOf f.type))/\Sh P r.2 f.type r.1/\∀y:DataW H×List MemPlace,xs[i]?=some y->r.2<=Rows.uptoBulk y.1:=fun i=>by
    cases F:U[i]? with
    |none=>exact⟨([],0),fun f h=>by cases h⟩
    |some f=>
     have h1:=hf i f F;have hil:i<U.size:=(Array.getElem?_eq_some_iff.1 F).1;rw[bt aa]at h1;have hfS:f.type∈S:=by
      have:=hg.1 f (by rw[<-uH]at F;exact fq F);simpa using this
     obtain⟨a',k,v1,v2,v3⟩:=Di hS ρ n f.type _ _ hfS h1;refine⟨(a',k),fun f' h'=>?_⟩;cases h';exact⟨v1,v2,fun y hy=>by
      rw[bt aa]at hy;cases hy;exact v3⟩
   obtain⟨R,A⟩:=Gp key;have I:=PM hcl U.toList 0 hg.2;rw[gV]at I;have K:∀i r,(((List.range U.size).map R))[i]?=some r->r=R i/\i<U.size:=fun i r hr=>by
    rw[ev]at hr;by_cases F:i<U.size
    .rw[uC F]at hr;simp only[iT]at hr;exact⟨hr.symm,F⟩
    .rw[oS ce]at hr;simp at hr
   refine⟨(((List.range U.size).map R).map (·.1)).flatten,_,?_,.struct ((List.range U.size).map R) Y aI ?_,?_⟩
   .rw[<-I];refine bT.cc aI fun i r c hr hc=>?_;rw[ev]at hr hc;cases hq:((List.range U.size).map R)[i]? with
    |none=>rw[hq]at hr;simp at hr
    |some q=>
     rw[hq]at hr;simp only[iT]at hr;obtain⟨rfl,F⟩:=K i q hq;cases hg2:U.toList[i]? with
     |none=>rw[hg2]at hc;simp at hc
     |some f=>
      rw[hg2]at hc;simp only[iT]at hc;subst hr;subst hc;exact(A i f (by rw[<-uH];exact hg2)).1
   .intro i f r F hr;obtain⟨rfl,_⟩:=K i r hr;exact(A i f F).2.1
   .have h1:(((List.range U.size).map R).map (·.2)).sum<=Rows.uptoBulkAll (xs.map (·.1)):=by
     refine G3 (by simp[hxl]) fun i d m hd M=>?_;rw[ev]at M hd;cases hq:((List.range U.size).map R)[i]? with
     |none=>rw[hq]at M;simp at M
     |some q=>
      rw[hq]at M;simp only[iT]at M;obtain⟨rfl,F⟩:=K i q hq;cases hy:xs[i]? with
      |none=>rw[hy]at hd;simp at hd
      |some y=>
       rw[hy]at hd;simp only[iT]at hd;subst hd;subst M;exact(A i U[i] (oQ F)).2.2 y hy
    show _<=Rows.uptoBulkAll (xs.map (·.1))+1;omega
  .cases hg
def Sh.bG{P:Program}{k:IntKind}(h:Sh P n t V)(U:P.underlying t=some (.int k)):∃x,V=[.int k x]/\(Lit.int k x).wf=true/\n=1:=by
 cases h with
 |int x j J=>rw[U]at j;cases j;exact⟨x,rfl,J,rfl⟩
 |bool b j=>rw[U]at j;cases j
 |ae s j=>rw[U]at j;cases j
 |rows l j _=>rw[U]at j;cases j
 |struct l j _ _=>rw[U]at j;cases j
def Sh.bp{P:Program}(h:Sh P n t V)(U:P.underlying t=some .string):∃s,V=[.ae s]/\n=s.length+1:=by
 cases h with
 |int x j J=>rw[U]at j;cases j
 |bool b j=>rw[U]at j;cases j
 |ae s j=>exact⟨s,rfl,rfl⟩
 |rows l j _=>rw[U]at j;cases j
 |struct l j _ _=>rw[U]at j;cases j
def Sh.aY{P:Program}{e:TypeId}(h:Sh P n t V)(U:P.underlying t=some (.slice e)):∃l:List (qm×Nat),V=[.ai (l.map (·.1))]/\n=(l.map (·.2)).sum+1/\∀r∈l,Sh P r.2 e r.1:=by
 cases h with
 |int x j J=>rw[U]at j;cases j
 |bool b j=>rw[U]at j;cases j
 |ae s j=>rw[U]at j;cases j
 |rows l j h=>rw[U]at j;cases j;exact⟨l,rfl,rfl,h⟩
 |struct l j _ _=>rw[U]at j;cases j
def Sh.a4{P:Program}{fs:Array Field}(h:Sh P n t V)(U:P.underlying t=some (.struct fs)):∃l:List (qm×Nat),V=(l.map (·.1)).flatten/\n=(l.map (·.2)).sum+1/\l.length=fs.size/\∀(i:Nat) f r,fs[i]?=some f->l[i]?=some r->Sh P r.2 f.type r.1:=by
 cases h with
 |int x j J=>rw[U]at j;cases j
 |bool b j=>rw[U]at j;cases j
 |ae s j=>rw[U]at j;cases j
 |rows l j h=>rw[U]at j;cases j
 |struct l j K h=>rw[U]at j;cases j;exact⟨l,rfl,rfl,K,h⟩
end
end Go.Ab
namespace Go.Proofs.YtbflaciihaijgaaGreat
set_option maxRecDepth 20000
open Go Go.Ab Go.WideShapes Proofs.Tryz
variable{n:Nat}{V:qm}
def zcI{x:Int}(h:(Lit.int .i64 x).wf=true):i9 x:=by
 have o:IntKind.min .i64=-9223372036854775808:=cy;have K:IntKind.max .i64=9223372036854775807:=cy;simp only[Lit.wf,jj,o,K]at h;unfold i9;omega
theorem sK{A:Type}{f:A->qm}{sz:List A->Nat}{s1:A->Nat}{g:List A->Prop}{g1:A->Prop}(I:sz []=0)(K:∀a l,sz (a::l)=1+s1 a+sz l)(C:g [])(V:∀a l,g1 a->g l->g (a::l)):∀l:List (qm×Nat),(∀r∈l,∃x,r.1=f x/\s1 x+1<=r.2/\g1 x)->∃Z:List A,l.map (·.1)=Z.map f/\sz Z<=(l.map (·.2)).sum/\g Z
 |[],_=>⟨[],rfl,vc,C⟩
 |r::l,h=>by
  obtain⟨x,o,j,Y⟩:=h r gW;obtain⟨Z,U,m,O⟩:=sK (f:=f) I K C V l fun q F=>h q (jE _ F)
  exact⟨x::Z,by rw[el,el,o,U],by rw[K,el,ul];omega,V _ _ Y O⟩
def G4{l:List (qm×Nat)}{r:qm×Nat}(h:r∈l):r.2<=(l.map (·.2)).sum:=by
 induction l with
 |nil=>cases h
 |cons a l ih=>
  rw[el,ul];rcases fY.1 h with rfl|h
  .omega
  .have:=ih h;omega
def Dj:∀(n:Nat) {V:qm},Sh prog n 70 V->∃e:Ex,V=e.cells/\e.sz+1<=n/\dO e:=by
 intro n;induction n using Nat.strongRecOn with
 |ind n ih=>
  intro V h;obtain⟨l,rfl,rfl,K,m⟩:=h.a4 underlying70
  match l,K with
  |[ee,aw,a1,im,pD],_=>
   obtain⟨a,Y,_,A⟩:=(m 0 _ _ rfl rfl).bG underlying3;obtain⟨b,U,S,z⟩:=(m 1 _ _ rfl rfl).bG underlying2;obtain⟨c,O,nc⟩:=(m 2 _ _ rfl rfl).bp underlying9;obtain⟨d,C,_,nd⟩:=(m 3 _ _ rfl rfl).bG underlying3;obtain⟨k,M,nk,o⟩:=(m 4 _ _ rfl rfl).aY underlying68;obtain⟨J,I,j,F⟩:=sK (f:=Ex.cells) (sz:=cF) (s1:=Ex.sz) (g:=dE) (g1:=dO) (by rw[cF]) (fun a l=>by rw[cF]) (by rw[dE];trivial) (fun _ _ j Z=>by rw[dE];exact⟨j,Z⟩) k fun r hr=>by
    have:=G4 hr;exact ih r.2 GX (o r hr)
   refine⟨.mk a b c d J,?_,?_,?_⟩
   .rw[jm];simp only[m9,iI,zQ,Y,U,O,C,M,I];rfl
   .simp only[Ex.sz,m9,ul,zR];omega
   .rw[dO];exact⟨zcI S,F⟩
def zcJ(h:Sh prog n 68 V):∃l:qz,V=[.ai (l.map Ex.cells)]/\cF l+1<=n/\dE l:=by
 obtain⟨k,rfl,rfl,o⟩:=h.aY underlying68;obtain⟨Z,Y,j,M⟩:=sK (f:=Ex.cells) (sz:=cF) (s1:=Ex.sz) (g:=dE) (g1:=dO) (by rw[cF]) (fun a l=>by rw[cF]) (by rw[dE];trivial) (fun _ _ j m=>by rw[dE];exact⟨j,m⟩) k fun r hr=>Dj _ (o r hr)
 exact⟨Z,by rw[Y],aa,M⟩
def zcK:∀(n:Nat) {V:qm},Sh prog n 78 V->∃e:St,V=e.cells/\e.sz+1<=n/\eJ e:=by
 intro n;induction n using Nat.strongRecOn with
 |ind n ih=>
  intro V h;obtain⟨l,rfl,rfl,K,m⟩:=h.a4 underlying78
  match l,K with
  |[ee,aw,a1,im,pD,r5,r6,zU,r8],_=>
   obtain⟨a,Y,_,na⟩:=(m 0 _ _ rfl rfl).bG underlying3;obtain⟨b,U,nb⟩:=(m 1 _ _ rfl rfl).bp underlying9;obtain⟨c,S,nc⟩:=(m 2 _ _ rfl rfl).bp underlying9;obtain⟨d,C,_,nd⟩:=(m 3 _ _ rfl rfl).bG underlying3;obtain⟨x,ex,nx,F⟩:=Dj _ (m 4 _ _ rfl rfl);obtain⟨y,O,ny,M⟩:=Dj _ (m 5 _ _ rfl rfl);obtain⟨z,o,nz,J⟩:=zcJ (m 6 _ _ rfl rfl);obtain⟨k,I,nk,A⟩:=(m 7 _ _ rfl rfl).aY underlying67;obtain⟨q,eq,nq,hq⟩:=(m 8 _ _ rfl rfl).aY underlying67;obtain⟨xs,e1,j,g1⟩:=sK (f:=St.cells) (sz:=a6) (s1:=St.sz) (g:=cK) (g1:=eJ) (by rw[a6]) (fun a l=>by rw[a6]) (by rw[cK];trivial) (fun _ _ j Z=>by rw[cK];exact⟨j,Z⟩) k fun r hr=>by
    have:=G4 hr;exact ih r.2 GX (A r hr)
   obtain⟨ys,e2,Z,g2⟩:=sK (f:=St.cells) (sz:=a6) (s1:=St.sz) (g:=cK) (g1:=eJ) (by rw[a6]) (fun a l=>by rw[a6]) (by rw[cK];trivial) (fun _ _ j Z=>by rw[cK];exact⟨j,Z⟩) q fun r hr=>by
    have:=G4 hr;exact ih r.2 GX (hq r hr)
   refine⟨.mk a b c d x y z xs ys,?_,?_,?_⟩
   .rw[l7];simp only[m9,iI,zQ,Y,U,S,C,ex,O,o,I,eq,e1,e2,jm];rfl
   .simp only[St.sz,m9,ul,zR];omega
   .rw[eJ];exact⟨F,M,J,g1,g2⟩
def PO(h:Sh prog n 66 V):∃l:qo,V=[cD l]/\db l+1<=n:=by
 obtain⟨k,rfl,rfl,o⟩:=h.aY underlying66;obtain⟨Z,Y,j,_⟩:=sK (f:=fun s:qr=>[AV.ae s]) (sz:=db) (s1:=fun s=>s.length) (g:=fun _=>True) (g1:=fun _=>True) (by rw[db]) (fun a l=>by rw[db]) trivial (fun _ _ _ _=>trivial) k fun r hr=>by
  obtain⟨s,e,h⟩:=(o r hr).bp underlying9;exact⟨s,e,aa,trivial⟩
 exact⟨Z,by rw[Y],aa⟩
def zcL(h:Sh prog n 72 V):∃f:Fu,V=f.cells/\f.sz+1<=n/\cK f.body/\dO f.value:=by
 obtain⟨l,rfl,rfl,K,m⟩:=h.a4 underlying72
 match l,K with
 |[ee,aw,a1,im,pD],_=>
  obtain⟨a,Y,I⟩:=(m 0 _ _ rfl rfl).bp underlying9;obtain⟨b,U,C⟩:=PO (m 1 _ _ rfl rfl);obtain⟨c,S,nc⟩:=PO (m 2 _ _ rfl rfl);obtain⟨k,M,A,o⟩:=(m 3 _ _ rfl rfl).aY underlying67;obtain⟨O,J,j,g1⟩:=sK (f:=St.cells) (sz:=a6) (s1:=St.sz) (g:=cK) (g1:=eJ) (by rw[a6]) (fun a l=>by rw[a6]) (by rw[cK];trivial) (fun _ _ j Z=>by rw[cK];exact⟨j,Z⟩) k fun r hr=>zcK _ (o r hr)
  obtain⟨x,ex,z,F⟩:=Dj _ (m 4 _ _ rfl rfl);refine⟨⟨a,b,c,O,x⟩,?_,?_,g1,F⟩
  .rw[wr];simp only[m9,iI,zQ,Y,U,S,M,ex,J,jm];rfl
  .simp only[Fu.sz,m9,ul,zR];omega
def zcM(h:Sh prog n 75 V):∃a:Ar,V=a.cells/\a.name.length+1<=n:=by
 obtain⟨l,rfl,rfl,K,m⟩:=h.a4 underlying75
 match l,K with
 |[ee,aw],_=>
  obtain⟨a,Y,U⟩:=(m 0 _ _ rfl rfl).bp underlying9;obtain⟨b,Z,_,J⟩:=(m 1 _ _ rfl rfl).bG underlying3;refine⟨⟨a,b⟩,?_,?_⟩
  .rw[Ar.aq];simp only[m9,iI,zQ,Y,Z];rfl
  .simp only[m9,ul,zR];omega
def zcN(h:Sh prog n 25 V):∃p:Pr,V=p.cells/\p.sz<=n/\∀f∈p.funcs,cK f.body/\dO f.value:=by
 obtain⟨l,rfl,rfl,K,Z⟩:=h.a4 underlying25
 match l,K with
 |[ee,aw],_=>
  obtain⟨k,M,C,o⟩:=(Z 0 _ _ rfl rfl).aY underlying22;obtain⟨q,Y,A,F⟩:=(Z 1 _ _ rfl rfl).aY underlying23;obtain⟨U,S,j,_⟩:=sK (f:=Ar.cells) (sz:=ez) (s1:=fun a=>a.name.length) (g:=fun _=>True) (g1:=fun _=>True) (by rw[ez]) (fun a l=>by rw[ez]) trivial (fun _ _ _ _=>trivial) k fun r hr=>by
   obtain⟨x,j,m⟩:=zcM (o r hr);exact⟨x,j,m,trivial⟩
  obtain⟨O,J,m,I⟩:=sK (f:=Fu.cells) (sz:=dY) (s1:=Fu.sz) (g:=fun l=>∀f∈l,cK f.body/\dO f.value) (g1:=fun f=>cK f.body/\dO f.value) (by rw[dY]) (fun a l=>by rw[dY]) (fun _ h=>by cases h) (fun a l j m=>yE.2 ⟨j,m⟩) q fun r hr=>zcL (F r hr)
  refine⟨⟨U,O⟩,?_,?_,I⟩
  .rw[Bj];simp only[m9,iI,zQ,M,Y,S,J];rfl
  .simp only[Pr.sz,m9,ul,zR];omega
def zcO:List TypeId:=[25,22,75,23,72,66,9,3,2,67,78,68,70]
def zcP:GZ prog zcO=true:=aA
set_option maxRecDepth 100000 in
def zcQ{H:Type}{enc:TypeId×Value->H}{W:World}{C:Value}{r:Reach}{A:Nat}(k0:Value.okWide prog W r A 25 C){d:DataW H}{ps:List MemPlace}{Z:Nat->Bool}{S:Bool}(I:DataW.Trod enc prog W 0 Z S 25 C d ps):∃p:Pr,VR ⟨fun _=>none,oC W,fun _=>0⟩ (.agg p.cells) C/\p.sz<=Rows.uptoBulk d/\∀f∈p.funcs,cK f.body/\dO f.value:=by
 obtain⟨J,m⟩:=I;obtain⟨O,n,j,Y,V⟩:=Di zcP (fun _=>0) J _ _ _ gW m;obtain⟨p,rfl,hp,U⟩:=zcN Y;refine⟨p,?_,dC hp V,U⟩;obtain⟨cs,rfl,_⟩:=okWide_struct underlying25 k0;have:=VR.agg (G:=⟨fun _=>none,oC W,fun _=>0⟩) (cs:=p.cells) (vs:=cs.toList) j.1 j.2;rw[uB]at this;exact this
end Go.Proofs.YtbflaciihaijgaaGreat
