/- Parts: Mu1, Mu2, PgY. -/
import Derived.Test.YtpbcimfiofmoeaaGreatMCS
set_option linter.unusedSimpArgs false
set_option linter.unusedVariables false
set_option linter.unusedSectionVars false
set_option linter.defProp false
set_option maxHeartbeats 32000000
namespace Go.Ab
set_option maxRecDepth 20000
open Go
theorem EE{P:Prop}(h:P:=by show _ < 6;omega):P:=h
theorem ya{P:Prop}(h:P:=by rw[<- Y];simp[zkZ,zk9,zlI]):P:=h
theorem kO{P:Prop}(h:P:=by simp[zmr];omega):P:=h
theorem Ta{P:Prop}(h:P:=by simp only[AV.sl.injEq]at e;omega):P:=h
theorem EF{P:Prop}(h:P:=by show _ < 5;omega):P:=h
theorem qu{P:Prop}(h:P:=by rw[<- V];simp[zkZ,zk9,zlI]):P:=h
theorem yb{P:Prop}(h:P:=by rw[o4 0 ac ac];exact g0):P:=h
theorem yc{P:Prop}(h:P:=by rw[o4 1 ac ac];exact g1):P:=h
theorem EG{P:Prop}(h:P:=by rw[zkZ,if_neg ac];exact gq):P:=h
theorem EH{P:Prop}(h:P:=by rw[f5 0 cL (fun o m z' e=>Ta),zkZ,if_neg ac];exact h0):P:=h
theorem EI{P:Prop}(h:P:=by rw[f5 1 cL (fun o m z' e=>Ta),zkZ,if_neg ac];exact h1):P:=h
theorem Tb{P:Prop}(h:P:=by rw[Hp.get_set,if_neg ac];exact gq):P:=h
theorem Tc{P:Prop}(h:P:=by rw[Hp.get_set,if_neg ac,Hp.get_set,if_pos rfl,hks]):P:=h
def Td:=@List.drop_length_add_append
end Go.Ab
namespace Go.Proofs.YtpbcimfiofmoeaaGreat
set_option maxRecDepth 20000
open Go Go.Ab
section
def tyMu1.tyF:=ad @ec (ad @cJ (ad @dd (ad @fx (ad @en (ad @zms (@qK))))))
open tyMu1
noncomputable def Te:{c:SC // aC 80 (Tryz.f50.body.getD .skip)=c}:=by
 refine⟨?_,?_⟩;rotate_left
 .simp only[Tryz.f50,bI,aC,zll,zle,zlp,zln,Nat.blt,Nat.ble];rfl
theorem Tf{z:Nat}:∀{rows:List (List AV)}{i:Nat}{r:List AV},(∀x∈rows,x.length=z)->rows[i]?=some r->rows.flatten.drop (i*z)=r++(rows.drop (i+1)).flatten
 |[],i,r,_,e=>by simp at e
 |a::rows,0,r,h,e=>by
  simp only[sR,aL]at e;subst e;simp
 |a::rows,i+1,r,h,e=>by
  have O:=h a ee;have ih:=Tf (rows:=rows) (i:=i) (r:=r) (fun x hx=>h x (el _ hx)) zB;have m:(i+1)*z=a.length+i*z:=by rw[tZ,O];omega
  rw[mW,m,Td,ih];rfl
theorem JL{z:Nat}{w:List AV}(Z:w.length=z):∀{rows:List (List AV)}{i:Nat},(∀x∈rows,x.length=z)->i<rows.length->splice rows.flatten (i*z) w=(rows.set i w).flatten
 |[],i,_,e=>by simp at e
 |a::rows,0,h,e=>by
  have O:=h a ee;simp only[splice,vm,xF,ly,bL,mW,CX];rw[BS ac,BH ac,ly]
 |a::rows,i+1,h,e=>by
  have O:=h a ee;have ih:=JL Z (rows:=rows) (i:=i) (fun x hx=>h x (el _ hx)) zB;simp only[splice,mW,Hk]at ih⊢;have m:(i+1)*z=a.length+i*z:=by rw[tZ,O];omega
  rw[m,List.take_length_add_append,iE,Td,i8,i8];rw[i8]at ih;rw[ih]
theorem JM{z:Nat}{rows:List (List AV)}{i:Nat}{r:List AV}(h:∀x∈rows,x.length=z)(e:rows[i]?=some r):zlT z (rows.flatten.drop (i*z))=some (.agg r):=by
 have hr:=h r (j7 e);rw[Tf h e];unfold zlT;rw[BG ac,gl ac,am hr]
theorem A3(l:List Ex):∀x∈l.map Ex.cells,x.length=5:=fun r hr=>by
 obtain⟨a,_,rfl⟩:=kV.1 hr;exact a.clen
theorem EJ:∀l:List Ex,(l.map Ex.cells).flatten.all AV.one=true
 |[]=>rfl
 |a::l=>by rw[dM,mW,wn,a.one,EJ l];rfl
theorem dO.exs{S:Nat->Prop}{n:Nat}{H:Hp}:∀l:List Ex,dO S (n+1) H 5 (l.map Ex.cells) (l.map Ex.cells)
 |[]=>trivial
 |a::l=>⟨⟨a.clen,zlJ.ex a⟩,dO.exs l⟩
theorem yd{P:Program}{t e:TypeId}{z b:Nat}{O:List AV}(J:P.underlying t=some (.slice e))(hs:zlq P e=some z)(C:zmg P e=some b)(hz:zlV P e=some O)(Y:O.length=z)(M:znh P t=true)
 {H:Hp}{q:Nat} (K:H.get q=some (.cells [] 0 true)) (hq:q<H.next) {rows:List (List AV)} (hr:∀x∈rows,x.length=z) (U:rows.flatten.all AV.one=true) (V:rows.length*b<=zmr) (I:rows.length<=zmr) :
 ∃Z H',zmc P false H t t (.sl q 0 0 z) (.lst rows)=some (.sl Z 0 rows.length z,H')/\H'.get Z=some (.cells rows.flatten 0 true)/\(Z=q\/Z=H.next)/\Z<H'.next/\H.next<=H'.next/\H'.next<=H.next+1/\∀k,k<H.next->k≠q->H'.get k=H.get k:=by
 have hx:zmM H z (.lst rows)=some (rows.length,rows.flatten):=PX hr;by_cases h0:rows=[]
 .subst h0;refine⟨q,H,?_,K,.inl rfl,hq,aB _,dQ _,fun _ _ _=>rfl⟩;simp only[eW]at hx;simp only[zmc,J,hs,C,hz,M,hx,eW]
 .obtain⟨m,hm⟩:∃m,rows.length=m+1:=⟨rows.length-1,by have:=vK.2 h0;omega⟩;have o:iC false H z (.sl q 0 0 z)=H:=by
   unfold iC;simp only[K];have:Nat.blt (0+0*z) ([]:List AV).length=false:=by
    cases C:Nat.blt (0+0*z) ([]:List AV).length with
    |false=>rfl
    |true=>rw[jH]at C;simp at C
   simp only[this,uo,gy]
  refine⟨H.next,(H.kill q).alloc (.cells rows.flatten 0 true),?_,?_,.inr rfl,cE _,dQ _,aB _,fun k hk j=>?_⟩
  .rw[hm]at hx V I;simp only[zmc,J,hs,C,hz,M,hx,U,o,Y,oM,dB,znM,K,bL,vm,List.drop_nil,dE,dL];rw[am ⟨wT,wU,ax,trivial,ax⟩,hm];simp
  .show((H.kill q).alloc _).get (H.kill q).next=_
   rw[zkZ,am rfl]
  .rw[zkZ,af nh,znf,af j]
theorem Tg{P:Program}{t z q i:Nat}{tip:Bool}{H:Hp}{rows:List (List AV)}{w:List AV}(U:zlq P t=some z)(K:H.get q=some (.cells rows.flatten 0 tip))(J:∀x∈rows,x.length=z)(I:i<rows.length)(O:w.length=z)(h1:w.all AV.one=true):lS P H t (.ptr q (i*z)) (.agg w)=some (H.set q (.cells (rows.set i w).flatten 0 tip)):=by
 have M:=vN J;have C:i*z+z<=rows.flatten.length:=by
  rw[M];have:(i+1)*z<=rows.length*z:=wW z I;rw[tZ]at this;exact this
 simp only[lS,K,U];show(if w.length=z/\0<=i*z/\i*z+z<=rows.flatten.length/\w.all AV.one=true then some (H.set q (.cells (splice rows.flatten (i*z) w) 0 tip))else none)=_;rw[am ⟨O,dm _,C,h1⟩,JL O J I]
theorem zlJ.made{S:Nat->Prop}{n:Nat}{H:Hp}{cs ws:List AV}(h:zlJ S n H cs ws)(J:n<=58):∃m u,iceV H m (.agg cs)=some u/\bX 60 u=.agg ws:=by
 obtain⟨j,Z,Y⟩:=h;have z:zl5 S 100 H (.agg cs) (.agg j):=zl5.up (n:=n+1) ⟨j,Z,rfl⟩ ac;obtain⟨M,V⟩:=zl5.iceV z;refine⟨M,.agg j,V M (aB _),?_⟩;show AV.agg (j.map (bX 59))=_;rw[Y 59 ac]
theorem Th{ρ:Nat->Int}{l:List En}(V:fK Tryz.prog ρ l){Z:Type}(sz:Z->Nat){f:FuncId}{ok:Z->Prop}{enc:Z->List AV}{out:Z->AV}(C:∀x,ok x->gw (enc x))
 (h:∀x,ok x->zk5 Tryz.prog (zkY pls (⟨f,false,b7 (fun y=>ok y/\sz y<sz x) enc out⟩::l)) f (enc x) zlv fun v H'=>∃m u,iceV H' m v=some u/\bX 60 u=out x):∀x,ok x->bM Tryz.prog ρ f (enc x) (out x):=by
 have Y:∀n x,sz x<n->ok x->bM Tryz.prog ρ f (enc x) (out x):=by
  intro n;induction n with
  |zero=>intro x hx;omega
  |succ n ih=>
   intro x hx z;exact PZ (cfg:=zkY pls (⟨f,false,b7 (fun y=>ok y/\sz y<sz x) enc out⟩::l)) fit (pP ρ) (fun g M r K=>fK.look (l:=⟨f,false,b7 (fun y=>ok y/\sz y<sz x) enc out⟩::l) ⟨zl7 fun y hy=>ih y ac hy.1,V⟩ g M r K) (C x z) (h x z)
 exact fun x=>Y (sz x+1) x (cE _)
def uR:Ex:=.mk 1 0 [] 0 []
def ye(l:List (List UInt8))(n m:Int):List UInt8:=l.getD (zla n m).toNat []
def EK:List (List UInt8):=[[120],[113],[97],[102],[],[105,102]]
mutual
def gh:Ex->Int->Int->Ex
 | .mk k n M V K,how,a=>
   if zla how 9=0 then .mk (bE (zla (bE (how.tdiv 9)) 8-1)) n M V K
   else if zla how 9=1 then .mk k (zla a 3) M V K
   else if zla how 9=2 then .mk k n (ye EK a 6) V K
   else if zla how 9=3 then .mk k n M (zla (bE (how.tdiv 9)) 40) K
   else if zla how 9=4 then .mk k n M V (K++[uR])
   else if zla how 9=5 then .mk k n M V []
   else if zla how 9=6 then .mk k n M V (py K (zla a K.length).toNat (bE (how.tdiv 9)) (bE (a.tdiv 3)))
   else .mk k n M V K
def py:List Ex->Nat->Int->Int->List Ex
 |[],_,_,_=>[]
 |x::l,0,how,a=>gh x how a::l
 |x::l,i+1,how,a=>x::py l i how a
end
theorem Ti:∀(l:List Ex) (i:Nat) (x:Ex) (j a:Int),l[i]?=some x->py l i j a=l.set i (gh x j a)
 |[],i,x,_,_,h=>by simp at h
 |y::l,0,x,j,a,h=>by
  simp only[sR,aL]at h;subst h;rw[py];rfl
 |y::l,i+1,x,j,a,h=>by
  rw[py,Ti l i x j a j8];rfl
structure MuA where
 x:Ex
 how:Int
 a:Int
def ry(y:MuA):List AV:=[.agg y.x.cells,.int .i64 y.how,.int .i64 y.a]
theorem EL(x y:MuA)(h:ry x=ry y):x=y:=by
 obtain⟨a,b,c⟩:=x;obtain⟨Z,b',Y⟩:=y;simp only[ry,ea,AV.agg.injEq,AV.int.injEq,aR,j9]at h;obtain⟨m,rfl,rfl⟩:=h;rw[Ex.inj m]
theorem Tj(H:Hp):zmb Tryz.prog H 61 0 []=some (.sl H.next 0 0 5,H.alloc (.cells [] 0 true)):=aj
theorem EM(H:Hp)(a b c d e f:List UInt8):zmb Tryz.prog H 59 6 [(0,.str a),(1,.str b),(2,.str c),(3,.str d),(4,.str e),(5,.str f)]=some (.sl H.next 0 6 1,H.alloc (.cells ([a,b,c,d,e,f].map .str) 0 true)):=aj
theorem yf:zma Tryz.prog 63 [(0,.int .i64 1)]=some (.agg [.int .i64 1,.int .i64 0,.str [],.int .i64 0,.nilS]):=aj
theorem JN(H:Hp)(a b c d e:AV):zmb Tryz.prog H 61 1 [(0,.agg [a,b,c,d,e])]=some (.sl H.next 0 1 5,H.alloc (.cells [a,b,c,d,e] 0 true)):=aj
theorem uS(r m:Nat){n:Int}(Z:0<=n)(h1:n.toNat<m):zlO Tryz.prog 59 (.sl r 0 m 1) (.int .i64 n)=some (.ptr r n.toNat):=by
 rw[GJ _ _ _ _ Z,fY h1];simp
theorem zjF(r m:Nat){n:Int}(Z:0<=n)(h1:n.toNat<m):zlO Tryz.prog 61 (.sl r 0 m 5) (.int .i64 n)=some (.ptr r (n.toNat*5)):=by
 rw[LO _ _ _ _ Z,fY h1];simp
theorem uT(l:List (List UInt8)){n:Int}(h1:n.toNat<l.length):(l.map AV.str)[n.toNat]?=some (.str (l.getD n.toNat [])):=by
 rw[eS,dx,aT h1];rfl
theorem yg(a b c d e:AV):zlT 5 [a,b,c,d,e]=some (.agg [a,b,c,d,e]):=rfl
theorem tJ{H:Hp}(k n op:Int)(nm:List UInt8){kv:AV}{I:List Ex}{S:Nat->Prop}{m:Nat}(h:fd S (m+1) H kv (.lst (I.map Ex.cells)))(V:m<=57):∃M u,iceV H M (.agg [.int .i64 k,.int .i64 n,.str nm,.int .i64 op,kv])=some u/\bX 60 u=.agg (Ex.mk k n nm op I).cells:=(uH k n op nm h).made ac
noncomputable def JO:List En:=[uF]
theorem zxa(ρ:Nat->Int):fK Tryz.prog ρ JO:=⟨DV ρ,trivial⟩
theorem zxb(ρ:Nat->Int):∀y:MuA,y.x.sz<2^36->bM Tryz.prog ρ 50 (ry y) (.agg (gh y.x y.how y.a).cells):=
 Th (zxa ρ) (fun y=>y.x.sz) (ok:=fun y=>y.x.sz<2^36) (enc:=ry) (out:=fun y=>.agg (gh y.x y.how y.a).cells) (fun y _=>.cons (.agg y.x.pure) (.cons (.int _ _) (.cons (.int _ _) .nil))) (fun y hx=>by
 have hw:=sW (sz:=fun y:MuA=>y.x.sz) (ok:=fun y=>y.x.sz<2^36) (out:=fun y=>.agg (gh y.x y.how y.a).cells) EL (f:=50) (l:=JO) y;generalize hl:(⟨50,false,b7 (fun z=>z.x.sz<2^36/\z.x.sz<y.x.sz) ry fun y=>.agg (gh y.x y.how y.a).cells⟩:En)::JO=l at hw⊢;obtain⟨x,j,a⟩:=y;simp only at hx hl hw⊢;have kr:∀(y:Ex) (h b:Int),y.sz<x.sz->∀H,zk5 Tryz.prog (zkY pls l) 50 [.agg y.cells,.int .i64 h,.int .i64 b] H fun v H'=>v=.agg (gh y h b).cells/\H'=H:=fun y h b h2 H=>by
  subst hl;exact zlM (enc:=ry) (out:=fun y=>.agg (gh y.x y.how y.a).cells) EL (x:=⟨y,h,b⟩) rfl ⟨show y.sz<2^36 by omega,h2⟩
 have kp:∀n m:Int,m≠0->∀H,zk5 Tryz.prog (zkY pls l) 12 [.int .i64 n,.int .i64 m] H fun v H'=>v=.int .i64 (zla n m)/\H'=H:=fun n m h H=>by
  subst hl;exact zlM (enc:=po) (ok:=fun x=>x.2≠0) (out:=fun x=>.int .i64 (zla x.1 x.2)) DU (x:=(n,m)) rfl h
 have hkeep:(zkY pls l).keep 50=false:=rfl;clear hl;have hsz:=x.sz_eq;have hlen:=znJ x.kids;have hq:=zmO (n:=j) (m:=9) ac ac;have h6:=zmO (n:=a) (m:=6) ac ac;have h9:(9:Int)≠0:=aE;have h3:(3:Int)≠0:=aE;generalize C:gh x j a=R;obtain⟨k,n,O,J,Z⟩:=x;rw[gh]at C;have e5:(Ex.mk k n O J Z).cells=[.int .i64 k,.int .i64 n,.str O,.int .i64 J,.lst (Z.map Ex.cells)]:=sK;change zk5 _ _ _ [.agg (Ex.mk k n O J Z).cells,.int .i64 j,.int .i64 a] _ _;change PlainA _ _ [.agg (Ex.mk k n O J Z).cells,.int .i64 j,.int .i64 a]at hw;rw[e5]at hw⊢;clear e5;simp only[Ex.kids]at hsz hlen;have hn6:=uT EK (n:=zla a 6) EE;have hi6:=fun r=>uS r 6 h6.1 ac;have h60:=h6.1;have hb6:=fun H=>EM H [120] [113] [97] [102] [] [105,102];change ∀H,zmb _ H _ _ _=some (_,H.alloc (.cells (EK.map .str) 0 true))at hb6;refine zlf (M:=80) (rs:=[.cell 6 63]) hw.call hw.ice hw.froz Tryz.func50 rfl rfl Te.2 rfl ?_;dsimp only[Te,zD,Nat.reduceAdd];have kpl:∀n:Int,(0:Int)<Z.length->∀H,zk5 Tryz.prog (zkY pls l) 12 [.int .i64 n,.int .i64 (Z.length:Int)] H fun v H'=>v=.int .i64 (zla n Z.length)/\H'=H:=fun n h H=>kp n _ ac H;have I:=@yg;have gh1:=@Tj;have gh2:=@yf;have gh3:=@JN;repeat' (first
  |(apply ah ?_;clear hK K)|apply Ry.o ?_|apply dG ?_|(apply d7 ?_;first|refine zlc (kp _ _ aE _) ?_|refine zlc (kpl _ ac _) ?_)|(apply bb (fun hb hbp=>?_) (fun hb hbp=>?_)<;>try(cases hb;done))|apply ak ?_|(apply zkU fun K hK=>?_)|apply aG ?_|apply zk3 ?_|apply aF ?_)
 .refine⟨eI,_,(by(try simp only[zk1,zk7,Nat.reduceBEq,tyF,zlX,zl1, *]);first|done|with_reducible rfl),?_⟩;try simp only[zkX]
  rw[am jF]at C;subst C;exact tJ (S:=fun _=>True) (m:=0) _ _ _ _ (lO Z) ac
 .refine⟨eI,_,(by(try simp only[zk1,zk7,Nat.reduceBEq,tyF,zlX,zl1, *]);first|done|with_reducible rfl),?_⟩;try simp only[zkX]
  rw[af ac,am ac]at C;subst C;exact tJ (S:=fun _=>True) (m:=0) _ _ _ _ (lO Z) ac
 .refine⟨eI,_,(by(try simp only[zk1,zk7,Nat.reduceBEq,Nat.reduceAdd,tyF,zlX,zl1, *]);first|done|with_reducible rfl),?_⟩;try simp only[zkX]
  rw[af ac,af ac,am ac]at C;subst C;exact tJ (S:=fun _=>True) (m:=0) _ _ _ _ (lO Z) ac
 .refine⟨eI,_,(by(try simp only[zk1,zk7,Nat.reduceBEq,tyF,zlX,zl1, *]);first|done|with_reducible rfl),?_⟩;try simp only[zkX]
  rw[af ac,af ac,af ac,am ac]at C;subst C;exact tJ (S:=fun _=>True) (m:=0) _ _ _ _ (lO Z) ac
 .rw[af ac,af ac,af ac,af ac,am ac]at C;generalize Y:Hp.alloc (Hp.alloc (Hp.alloc zlv _) _) _=Hb;have nb:Hb.next=3:=by rw[<-Y];rfl
  have g0:Hb.get 0=some (.cells [.int .i64 k,.int .i64 n,.str O,.int .i64 J,.lst (Z.map Ex.cells)] 0 true):=ya;have g1:Hb.get 1=some (.cells [.int .i64 0,.int .i64 0,.str [],.int .i64 0,.nilS] 0 true):=ya;have g2:Hb.get 2=some (.cells [] 0 true):=ya;clear Y;obtain⟨V,U,a4,gq,hq',lq,n4,n4',o4⟩:=yd (P:=Tryz.prog) (t:=61) Tryz.underlying61 sP vD vE rfl aj g2 ac (rows:=Z.map Ex.cells) (A3 Z) (EJ Z) kO kO;simp only[cp]at a4;have h0:U.get 0=some (.cells [.int .i64 k,.int .i64 n,.str O,.int .i64 J,.lst (Z.map Ex.cells)] 0 true):=yb;have h1:U.get 1=some (.cells [.int .i64 0,.int .i64 0,.str [],.int .i64 0,.nilS] 0 true):=yc;have lo:2<=V:=ac;have n40:3<=U.next:=ac
  clear nb g0 g1 g2 o4 n4 n4' hq';have e2:(V == 0)=false:=zkV ac;have e3:(0 == V)=false:=zkV ac;have e4:(1 == V)=false:=zkV ac;have e0:(0 == U.next)=false:=zkV ac;have e1:(1 == U.next)=false:=zkV ac;have I:=@yf;have gh1:=@JN;repeat' (first
   |apply Rx.o ?_|fail)
  obtain⟨v5,H5,a5,s5,n5,f5,q5⟩:=xP (P:=Tryz.prog) (t:=61) Tryz.underlying61 sP vD vE rfl aj (lo:=2) (n:=1) (H:=U.alloc (.cells [.int .i64 1,.int .i64 0,.str [],.int .i64 0,.nilS] 0 true)) (v:=.sl V 0 Z.length 5) (ws:=Z.map Ex.cells) (.inr ⟨V,0,Z.map Ex.cells,An,lo,cL,EG,dm _,dO.exs Z⟩) cL (r:=U.next) (imm:=0) (row:=[.int .i64 1,.int .i64 0,.str [],.int .i64 0,.nilS]) (w:=uR.cells) gH rfl rfl (oo 1 0 0 []) kO kO;have h05:H5.get 0=some (.cells [.int .i64 k,.int .i64 n,.str O,.int .i64 J,.lst (Z.map Ex.cells)] 0 true):=EH;have h15:H5.get 1=some (.cells [.int .i64 0,.int .i64 0,.str [],.int .i64 0,.nilS] 0 true):=EI;obtain⟨t1,t2⟩:=s5.one;clear f5 q5 n5 h0 h1;have I:=@yg;repeat' (first
   |(apply ah ?_;clear hK K)|apply Rx.o ?_|apply bS ?_|apply ak ?_|(apply zkU fun K hK=>?_)|apply aF ?_)
  refine⟨eI,_,(by(try simp only[zk1,zk7,Nat.reduceBEq,tyF,zlX,zl1, *]);first|done|with_reducible rfl),?_⟩;try simp only[zkX]
  subst C;refine tJ (S:=fun k=>2<=k) (m:=1) _ _ _ _ ?_ ac;rw[l0];exact s5.rd.keep2 (fun _ _ h=>h) (aB _) fun k h1 h2=>uN
 .refine⟨eI,_,(by(try simp only[zk1,zk7,Nat.reduceBEq,tyF,zlX,zl1, *]);first|done|with_reducible rfl),?_⟩;try simp only[zkX]
  rw[af ac,af ac,af ac,af ac,af ac,am ac]at C;subst C;exact tJ (S:=fun _=>True) (m:=0) _ _ _ _ .nilS ac
 .rw[af ac,af ac,af ac,af ac,af ac,af ac,am ac]at C;generalize Y:Hp.alloc (Hp.alloc (Hp.alloc zlv _) _) _=Hb;have nb:Hb.next=3:=by rw[<-Y];rfl
  have g0:Hb.get 0=some (.cells [.int .i64 k,.int .i64 n,.str O,.int .i64 J,.lst (Z.map Ex.cells)] 0 true):=ya;have g1:Hb.get 1=some (.cells [.int .i64 0,.int .i64 0,.str [],.int .i64 0,.nilS] 0 true):=ya;have g2:Hb.get 2=some (.cells [] 0 true):=ya;clear Y;obtain⟨V,U,a4,gq,hq',lq,n4,n4',o4⟩:=yd (P:=Tryz.prog) (t:=61) Tryz.underlying61 sP vD vE rfl aj g2 ac (rows:=Z.map Ex.cells) (A3 Z) (EJ Z) kO kO;simp only[cp]at a4;have h0:U.get 0=some (.cells [.int .i64 k,.int .i64 n,.str O,.int .i64 J,.lst (Z.map Ex.cells)] 0 true):=yb;have h1:U.get 1=some (.cells [.int .i64 0,.int .i64 0,.str [],.int .i64 0,.nilS] 0 true):=yc;have lo:2<=V:=ac;have n40:3<=U.next:=ac
  clear nb g0 g1 g2 o4 n4 n4' hq';have e2:(V == 0)=false:=zkV ac;have e3:(0 == V)=false:=zkV ac;have e4:(1 == V)=false:=zkV ac;have e0:(0 == U.next)=false:=zkV ac;have e1:(1 == U.next)=false:=zkV ac;have hp:=zmO (n:=a) (m:=Z.length) ac ac;have hlt:(zla a Z.length).toNat<Z.length:=ac;have hi5:zlO Tryz.prog 61 (.sl V 0 Z.length 5) (.int .i64 (zla a Z.length))=some (.ptr V ((zla a Z.length).toNat*5)):=zjF V _ hp.1 hlt;obtain⟨y,hy⟩:∃y,Z[(zla a Z.length).toNat]?=some y:=⟨_,aT hlt⟩;have hrow:(Z.map Ex.cells)[(zla a Z.length).toNat]?=some y.cells:=by rw[eS,hy];rfl
  have hagg:=JM (A3 Z) hrow;have hsm:=znK (j7 hy);have kr1:=fun H=>kr y (bE (j.tdiv 9)) (bE (a.tdiv 3)) (by show y.sz<1+O.length+zlZ Z;omega) H;rw[Ti _ _ _ _ _ hy]at C;have I:=@yg;repeat' (first
   |(apply ah ?_;clear hK K)|apply Rx.o ?_|apply bS ?_|(apply eM ?_;first|refine zlc (kr1 _) ?_)|(apply zmm 18 [(1,12),(1,14),(4,12),(7,12)] fun K hK=>?_)|(apply zlC ?_;try intro _)|apply bZ ?_|apply zmK rfl ?_|fail)
  refine oN eV eV (Tg (rows:=Z.map Ex.cells) sP Tb (A3 Z) Je (Ex.clen _) (Ex.one _)) ?_;have I:=@yg;repeat' (first
   |(apply ah ?_;clear hK K)|apply Rx.o ?_|apply bS ?_|apply ak ?_|(apply zkU fun K hK=>?_)|(apply zlC ?_;try intro _)|(apply zmk ?_ ?_<;>clear hK K)|apply aF ?_)
  .exact zlU
  refine⟨eI,_,(by(try simp only[zk1,zk7,Nat.reduceBEq,tyF,zlX,zl1, *]);first|done|with_reducible rfl),?_⟩;try simp only[zkX]
  subst C;refine tJ (S:=fun k=>2<=k) (m:=1) _ _ _ _ ?_ ac;have hks:(Z.map Ex.cells).set (zla a Z.length).toNat (gh y (bE (j.tdiv 9)) (bE (a.tdiv 3))).cells=(Z.set (zla a Z.length).toNat (gh y (bE (j.tdiv 9)) (bE (a.tdiv 3)))).map Ex.cells:=qL.symm;have:=tA (S:=fun k=>2<=k) (n:=1) (z:=5) (tip:=true) (imm:=0) (r:=V) (H:=Hp.set (Hp.set (Hp.set U 0 (.cells [.int .i64 k,.int .i64 n,.str O,.int .i64 J,.sl V 0 Z.length 5] 0 true)) V (.cells ((Z.map Ex.cells).set (zla a Z.length).toNat (gh y (bE (j.tdiv 9)) (bE (a.tdiv 3))).cells).flatten 0 true)) 1 (.cells [.int .i64 k,.int .i64 n,.str O,.int .i64 J,.sl V 0 Z.length 5] 0 true)) (a:=(Z.set (zla a Z.length).toNat (gh y (bE (j.tdiv 9)) (bE (a.tdiv 3)))).map Ex.cells) lo lq Tc (dm _) (dO.exs _);rw[cp,jd]at this;exact this
 .refine⟨eI,_,(by(try simp only[zk1,zk7,Nat.reduceBEq,tyF,zlX,zl1, *]);first|done|with_reducible rfl),?_⟩;try simp only[zkX]
  rw[af ac,af ac,af ac,af ac,af ac,af ac,am ac]at C;subst C;have hk0:Z=[]:=Jg ac;subst hk0;exact tJ (S:=fun _=>True) (m:=0) _ _ _ _ (lO []) ac
 .refine⟨eI,_,(by(try simp only[zk1,zk7,Nat.reduceBEq,tyF,zlX,zl1, *]);first|done|with_reducible rfl),?_⟩;try simp only[zkX]
  rw[af ac,af ac,af ac,af ac,af ac,af ac,af ac]at C;subst C;exact tJ (S:=fun _=>True) (m:=0) _ _ _ _ (lO Z) ac)
end
section
def tyMu2.tyF:=ad @ec (ad @cJ (ad @dd (ad @gX (ad @fx (ad @em (ad @en (ad @zms (ad @eY (ad @qK (ad @Tj (ad @yf (@JN))))))))))))
open tyMu2
noncomputable def Tl:{c:SC // aC 125 (Tryz.f51.body.getD .skip)=c}:=by
 refine⟨?_,?_⟩;rotate_left
 .simp only[Tryz.f51,bI,aC,zll,zle,zlp,zln,Nat.blt,Nat.ble];rfl
theorem A4(l:List St):∀x∈l.map St.cells,x.length=17:=fun r hr=>by
 obtain⟨a,_,rfl⟩:=kV.1 hr;exact a.clen
theorem EN:∀l:List St,(l.map St.cells).flatten.all AV.one=true
 |[]=>rfl
 |a::l=>by rw[dM,mW,wn,a.one,EN l];rfl
theorem dO.sts{S:Nat->Prop}{n:Nat}{H:Hp}:∀l:List St,dO S (n+1) H 17 (l.map St.cells) (l.map St.cells)
 |[]=>trivial
 |a::l=>⟨⟨a.clen,zlJ.st a⟩,dO.sts l⟩
def EO:List (List UInt8):=[[120],[113],[97],[102],[],[116,114,97,112]]
def EP:List (List UInt8):=[[102],[103],[104],[],[97]]
def JP:List Int:=[0,1,-1,1000000,1000001]
def uU(n:Int):St:=.mk 7 [] [] n zm1 zm1 [] [] []
mutual
def jE:St->Int->Int->St
 | .mk k Y V n e v M Z j,how,a=>
   if zla how 13=0 then .mk (bE (zla (bE (how.tdiv 13)) 10-1)) Y V n e v M Z j
   else if zla how 13=1 then .mk k (ye EO a 6) V n e v M Z j
   else if zla how 13=2 then .mk k Y (ye EP a 5) n e v M Z j
   else if zla how 13=3 then .mk k Y V (JP.getD (zla a 5).toNat 0) e v M Z j
   else if zla how 13=4 then .mk k Y V n (gh e (bE (how.tdiv 13)) a) v M Z j
   else if zla how 13=5 then .mk k Y V n e (gh v (bE (how.tdiv 13)) a) M Z j
   else if zla how 13=6 then .mk k Y V n e v (M++[uR]) Z j
   else if zla how 13=7 then .mk k Y V n e v [] Z j
   else if zla how 13=8 then .mk k Y V n e v M Z (j++[uU 0])
   else if zla how 13=9 then .mk k Y V n e v M (Z++[uU (zla a 3)]) j
   else if zla how 13=10 then .mk k Y V n e v M (pz Z (zla a Z.length).toNat (bE (how.tdiv 13)) (bE (a.tdiv 3))) j
   else .mk k Y V n e v M Z j
def pz:List St->Nat->Int->Int->List St
 |[],_,_,_=>[]
 |x::l,0,how,a=>jE x how a::l
 |x::l,i+1,how,a=>x::pz l i how a
end
theorem Tm:∀(l:List St) (i:Nat) (x:St) (j a:Int),l[i]?=some x->pz l i j a=l.set i (jE x j a)
 |[],i,x,_,_,h=>by simp at h
 |y::l,0,x,j,a,h=>by
  simp only[sR,aL]at h;subst h;rw[pz];rfl
 |y::l,i+1,x,j,a,h=>by
  rw[pz,Tm l i x j a j8];rfl
structure MuB where
 x:St
 how:Int
 a:Int
def sm(y:MuB):List AV:=[.agg y.x.cells,.int .i64 y.how,.int .i64 y.a]
theorem JQ(x y:MuB)(h:sm x=sm y):x=y:=by
 obtain⟨a,b,c⟩:=x;obtain⟨Z,b',Y⟩:=y;simp only[sm,ea,AV.agg.injEq,AV.int.injEq,aR,j9]at h;obtain⟨m,rfl,rfl⟩:=h;rw[St.inj m]
noncomputable def A5:En:=⟨50,true,b7 (fun y=>y.x.sz<2^36) ry fun y=>.agg (gh y.x y.how y.a).cells⟩
theorem Tn(ρ:Nat->Int):zl0 Tryz.prog ρ A5:=zl7 fun y hy=>zxb ρ y hy
noncomputable def JR:List En:=[uF,A5]
theorem zxf(ρ:Nat->Int):fK Tryz.prog ρ JR:=⟨DV ρ,Tn ρ,trivial⟩
theorem JS(H:Hp)(a b c d e:List UInt8):zmb Tryz.prog H 59 5 [(0,.str a),(1,.str b),(2,.str c),(3,.str d),(4,.str e)]=some (.sl H.next 0 5 1,H.alloc (.cells ([a,b,c,d,e].map .str) 0 true)):=aj
theorem zjJ(H:Hp)(a b c d e:Int):zmb Tryz.prog H 23 5 [(0,.int .i64 a),(1,.int .i64 b),(2,.int .i64 c),(3,.int .i64 d),(4,.int .i64 e)]=some (.sl H.next 0 5 1,H.alloc (.cells ([a,b,c,d,e].map (.int .i64)) 0 true)):=aj
theorem zjK(r m:Nat){n:Int}(Z:0<=n)(h1:n.toNat<m):zlO Tryz.prog 23 (.sl r 0 m 1) (.int .i64 n)=some (.ptr r n.toNat):=by
 rw[GH _ _ _ _ Z,fY h1];simp
theorem To(r m:Nat){n:Int}(Z:0<=n)(h1:n.toNat<m):zlO Tryz.prog 60 (.sl r 0 m 17) (.int .i64 n)=some (.ptr r (n.toNat*17)):=by
 rw[LN _ _ _ _ Z,fY h1];simp
theorem zjL(l:List Int){n:Int}(h1:n.toNat<l.length):(l.map (AV.int .i64))[n.toNat]?=some (.int .i64 (l.getD n.toNat 0)):=by
 rw[eS,dx,aT h1];rfl
theorem Tp(H:Hp):zmb Tryz.prog H 60 0 []=some (.sl H.next 0 0 17,H.alloc (.cells [] 0 true)):=aj
theorem Tq:zma Tryz.prog 96 [(0,.int .i64 7)]=some (.agg [.int .i64 7,.str [],.str [],.int .i64 0,.int .i64 0,.int .i64 0,.str [],.int .i64 0,.nilS,.int .i64 0,.int .i64 0,.str [],.int .i64 0,.nilS,.nilS,.nilS,.nilS]):=aj
theorem Tr(n:Int):zma Tryz.prog 96 [(0,.int .i64 7),(3,.int .i64 n)]=some (.agg [.int .i64 7,.str [],.str [],.int .i64 n,.int .i64 0,.int .i64 0,.str [],.int .i64 0,.nilS,.int .i64 0,.int .i64 0,.str [],.int .i64 0,.nilS,.nilS,.nilS,.nilS]):=aj
theorem Ba(H:Hp)(c0 Z j o Y O U z V M K J I C m d5 d6:AV):zmb Tryz.prog H 60 1 [(0,.agg [c0,Z,j,o,Y,O,U,z,V,M,K,J,I,C,m,d5,d6])]=some (.sl H.next 0 1 17,H.alloc (.cells [c0,Z,j,o,Y,O,U,z,V,M,K,J,I,C,m,d5,d6] 0 true)):=aj
theorem yh(c0 Z j o Y O U z V M K J I C m d5 d6:AV):zlT 17 [c0,Z,j,o,Y,O,U,z,V,M,K,J,I,C,m,d5,d6]=some (.agg [c0,Z,j,o,Y,O,U,z,V,M,K,J,I,C,m,d5,d6]):=rfl
theorem zjM(c0 V j o Z O U z Y M K J I C m d5 d6:AV):zlT 5 (List.drop 4 [c0,V,j,o,Z,O,U,z,Y,M,K,J,I,C,m,d5,d6])=some (.agg [Z,O,U,z,Y]):=rfl
theorem zjN(c0 Z j o O M K J C Y V z U I m d5 d6:AV):zlT 5 (List.drop 9 [c0,Z,j,o,O,M,K,J,C,Y,V,z,U,I,m,d5,d6])=some (.agg [Y,V,z,U,I]):=rfl
theorem zjO(Z O U z Y V M K J I m C o:AV):zlT 5 [Z,O,U,z,Y,V,M,K,J,I,m,C,o]=some (.agg [Z,O,U,z,Y]):=rfl
theorem zjP(Y V z U I m Z o:AV):zlT 5 [Y,V,z,U,I,m,Z,o]=some (.agg [Y,V,z,U,I]):=rfl
theorem JT{S:Nat->Prop}{n:Nat}{H:Hp}(e:Ex):zlJ S (n+1) H [.int .i64 e.kind,.int .i64 e.n,.str e.name,.int .i64 e.op,.lst (e.kids.map Ex.cells)] e.cells:=by
 cases e;exact uH _ _ _ _ (lO _)
theorem pA{H:Hp}(k n:Int)(nm Y:List UInt8)(e v:Ex){J K C:AV}{M:List Ex}{Z j:List St}{S:Nat->Prop}{m:Nat}(h1:fd S (m+1) H J (.lst (M.map Ex.cells)))(h2:fd S (m+1) H K (.lst (Z.map St.cells)))(z:fd S (m+1) H C (.lst (j.map St.cells)))(U:m<=57):
 ∃V u,iceV H V (.agg [.int .i64 k,.str nm,.str Y,.int .i64 n,.int .i64 e.kind,.int .i64 e.n,.str e.name,.int .i64 e.op,.lst (e.kids.map Ex.cells),.int .i64 v.kind,.int .i64 v.n,.str v.name,.int .i64 v.op,.lst (v.kids.map Ex.cells),J,K,C])=some u/\bX 60 u=.agg (St.mk k nm Y n e v M Z j).cells:=
 (pw k nm Y n (JT e) (JT v) h1 h2 z).made ac
theorem zxg(ρ:Nat->Int):∀y:MuB,y.x.sz<2^36->bM Tryz.prog ρ 51 (sm y) (.agg (jE y.x y.how y.a).cells):=
 Th (zxf ρ) (fun y=>y.x.sz) (ok:=fun y=>y.x.sz<2^36) (enc:=sm) (out:=fun y=>.agg (jE y.x y.how y.a).cells) (fun y _=>.cons (.agg y.x.pure) (.cons (.int _ _) (.cons (.int _ _) .nil))) (fun y hx=>by
 have hw:=sW (sz:=fun y:MuB=>y.x.sz) (ok:=fun y=>y.x.sz<2^36) (out:=fun y=>.agg (jE y.x y.how y.a).cells) JQ (f:=51) (l:=JR) y;generalize hl:(⟨51,false,b7 (fun z=>z.x.sz<2^36/\z.x.sz<y.x.sz) sm fun y=>.agg (jE y.x y.how y.a).cells⟩:En)::JR=l at hw⊢;obtain⟨x,J,a⟩:=y;simp only at hx hl hw⊢;have kr:∀(y:St) (h b:Int),y.sz<x.sz->∀H,zk5 Tryz.prog (zkY pls l) 51 [.agg y.cells,.int .i64 h,.int .i64 b] H fun v H'=>v=.agg (jE y h b).cells/\H'=H:=fun y h b h2 H=>by
  subst hl;exact zlM (enc:=sm) (out:=fun y=>.agg (jE y.x y.how y.a).cells) JQ (x:=⟨y,h,b⟩) rfl ⟨show y.sz<2^36 by omega,h2⟩
 have ke:∀(y:Ex) (h b:Int),y.sz<2^36->∀H,zk5 Tryz.prog (zkY pls l) 50 [.agg [.int .i64 y.kind,.int .i64 y.n,.str y.name,.int .i64 y.op,.lst (y.kids.map Ex.cells)],.int .i64 h,.int .i64 b] H fun v H'=>v=.agg [.int .i64 (gh y h b).kind,.int .i64 (gh y h b).n,.str (gh y h b).name,.int .i64 (gh y h b).op,.lst ((gh y h b).kids.map Ex.cells)]/\H'=H:=fun y h b h2 H=>by
  rw[<-mc,<-mc];subst hl;exact zlM (enc:=ry) (out:=fun y=>.agg (gh y.x y.how y.a).cells) EL (x:=⟨y,h,b⟩) rfl h2
 have kp:∀n m:Int,m≠0->∀H,zk5 Tryz.prog (zkY pls l) 12 [.int .i64 n,.int .i64 m] H fun v H'=>v=.int .i64 (zla n m)/\H'=H:=fun n m h H=>by
  subst hl;exact zlM (enc:=po) (ok:=fun x=>x.2≠0) (out:=fun x=>.int .i64 (zla x.1 x.2)) DU (x:=(n,m)) rfl h
 have hkeep:(zkY pls l).keep 51=false:=rfl;clear hl;have hsz:=x.sz_eq;have hlen:=znJ x.args;have hlen2:=znP x.thn;have hlen3:=znP x.els;have hq:=zmO (n:=J) (m:=13) ac ac;have h6:=zmO (n:=a) (m:=6) ac ac;have h5:=zmO (n:=a) (m:=5) ac ac;have h13:(13:Int)≠0:=aE;have h3:(3:Int)≠0:=aE;generalize C:jE x J a=R;obtain⟨k,nm,to,n,e,v,Y,Z,j⟩:=x;rw[jE]at C;have e17:(St.mk k nm to n e v Y Z j).cells=[.int .i64 k,.str nm,.str to,.int .i64 n,.int .i64 e.kind,.int .i64 e.n,.str e.name,.int .i64 e.op,.lst (e.kids.map Ex.cells),.int .i64 v.kind,.int .i64 v.n,.str v.name,.int .i64 v.op,.lst (v.kids.map Ex.cells),.lst (Y.map Ex.cells),.lst (Z.map St.cells),.lst (j.map St.cells)]:=kg;change zk5 _ _ _ [.agg (St.mk k nm to n e v Y Z j).cells,.int .i64 J,.int .i64 a] _ _;change PlainA _ _ [.agg (St.mk k nm to n e v Y Z j).cells,.int .i64 J,.int .i64 a]at hw;rw[e17]at hw⊢;clear e17;simp only[St.args,St.thn,St.els]at hsz hlen hlen2 hlen3;have hse:e.sz<2^36:=by simp only[St.sz]at hx;omega
 have hsv:v.sz<2^36:=by simp only[St.sz]at hx;omega
 have hn1:=uT EO (n:=zla a 6) EE;have hn2:=uT EP (n:=zla a 5) EF;have hn3:=zjL JP (n:=zla a 5) EF;have hi6:=fun r=>uS r 6 h6.1 ac;have hi5:=fun r=>uS r 5 h5.1 ac;have hi5':=fun r=>zjK r 5 h5.1 ac;have h60:=h6.1;have h50:=h5.1;have hb6:=fun H=>EM H [120] [113] [97] [102] [] [116,114,97,112];change ∀H,zmb _ H _ _ _=some (_,H.alloc (.cells (EO.map .str) 0 true))at hb6;have hb5:=fun H=>JS H [102] [103] [104] [] [97];change ∀H,zmb _ H _ _ _=some (_,H.alloc (.cells (EP.map .str) 0 true))at hb5;have hb5':=fun H=>zjJ H 0 1 (-1) 1000000 1000001;change ∀H,zmb _ H _ _ _=some (_,H.alloc (.cells (JP.map (.int .i64)) 0 true))at hb5';have kpl:∀n:Int,(0:Int)<Z.length->∀H,zk5 Tryz.prog (zkY pls l) 12 [.int .i64 n,.int .i64 (Z.length:Int)] H fun v H'=>v=.int .i64 (zla n Z.length)/\H'=H:=fun n h H=>kp n _ ac H;refine zlf (M:=125) (rs:=[.cell 6 96]) hw.call hw.ice hw.froz Tryz.func51 rfl rfl Tl.2 rfl ?_;dsimp only[Tl,zD,Nat.reduceAdd];have gh0:=@yh;have gh1:=@zjM;have gh2:=@zjN;have gh3:=@zjO;have gh4:=@zjP;have gh5:=@Tp;have gh6:=@Tq;have gh7:=@Tr;have gh8:=@Ba;repeat' (first
  |(apply ah ?_;clear hK K)|apply Ry.o ?_|apply dG ?_|(apply d7 ?_;first|refine zlc (kp _ _ aE _) ?_|refine zlc (kpl _ ac _) ?_|refine zlc (ke e _ _ hse _) ?_|refine zlc (ke v _ _ hsv _) ?_)|(apply bb (fun hb hbp=>?_) (fun hb hbp=>?_)<;>try(cases hb;done))|apply ak ?_|(apply zkU fun K hK=>?_)|apply aG ?_|apply zk3 ?_|apply aF ?_)
 .refine⟨eI,_,(by(try simp only[zk1,zk7,Nat.reduceBEq,tyF,zlX,zl1, *]);first|done|with_reducible rfl),?_⟩;try simp only[zkX]
  rw[am ac]at C;subst C;exact pA (S:=fun _=>True) (m:=0) _ _ _ _ e v (lO Y) (jq Z) (jq j) ac
 .refine⟨eI,_,(by(try simp only[zk1,zk7,Nat.reduceBEq,Nat.reduceAdd,tyF,zlX,zl1, *]);first|done|with_reducible rfl),?_⟩;try simp only[zkX]
  rw[af ac,am ac]at C;subst C;exact pA (S:=fun _=>True) (m:=0) _ _ _ _ e v (lO Y) (jq Z) (jq j) ac
 .refine⟨eI,_,(by(try simp only[zk1,zk7,Nat.reduceBEq,Nat.reduceAdd,tyF,zlX,zl1, *]);first|done|with_reducible rfl),?_⟩;try simp only[zkX]
  rw[af ac,af ac,am ac]at C;subst C;exact pA (S:=fun _=>True) (m:=0) _ _ _ _ e v (lO Y) (jq Z) (jq j) ac
 .refine⟨eI,_,(by(try simp only[zk1,zk7,Nat.reduceBEq,Nat.reduceAdd,tyF,zlX,zl1, *]);first|done|with_reducible rfl),?_⟩;try simp only[zkX]
  rw[af ac,af ac,af ac,am ac]at C;subst C;exact pA (S:=fun _=>True) (m:=0) _ _ _ _ e v (lO Y) (jq Z) (jq j) ac
 .refine⟨eI,_,(by(try simp only[zk1,zk7,Nat.reduceBEq,tyF,zlX,zl1, *]);first|done|with_reducible rfl),?_⟩;try simp only[zkX]
  rw[af ac,af ac,af ac,af ac,am ac]at C;subst C;exact pA (S:=fun _=>True) (m:=0) _ _ _ _ (gh e (bE (J.tdiv 13)) a) v (lO Y) (jq Z) (jq j) ac
 .refine⟨eI,_,(by(try simp only[zk1,zk7,Nat.reduceBEq,tyF,zlX,zl1, *]);first|done|with_reducible rfl),?_⟩;try simp only[zkX]
  rw[af ac,af ac,af ac,af ac,af ac,am ac]at C;subst C;exact pA (S:=fun _=>True) (m:=0) _ _ _ _ e (gh v (bE (J.tdiv 13)) a) (lO Y) (jq Z) (jq j) ac
 .rw[af ac,af ac,af ac,af ac,af ac,af ac,am ac]at C;generalize V:Hp.alloc (Hp.alloc (Hp.alloc zlv _) _) _=I;have nb:I.next=3:=wq
  have g0:I.get 0=some (.cells [.int .i64 k,.str nm,.str to,.int .i64 n,.int .i64 e.kind,.int .i64 e.n,.str e.name,.int .i64 e.op,.lst (e.kids.map Ex.cells),.int .i64 v.kind,.int .i64 v.n,.str v.name,.int .i64 v.op,.lst (v.kids.map Ex.cells),.lst (Y.map Ex.cells),.lst (Z.map St.cells),.lst (j.map St.cells)] 0 true):=qu;have g1:I.get 1=some (.cells [.int .i64 0,.str [],.str [],.int .i64 0,.int .i64 0,.int .i64 0,.str [],.int .i64 0,.nilS,.int .i64 0,.int .i64 0,.str [],.int .i64 0,.nilS,.nilS,.nilS,.nilS] 0 true):=qu;have g2:I.get 2=some (.cells [] 0 true):=qu;clear V;obtain⟨U,O,a4,gq,hq',lq,n4,n4',o4⟩:=yd (P:=Tryz.prog) (t:=61) Tryz.underlying61 sP vD vE rfl aj g2 ac (rows:=Y.map Ex.cells) (A3 Y) (EJ Y) kO kO;simp only[cp]at a4;have h0:O.get 0=some (.cells [.int .i64 k,.str nm,.str to,.int .i64 n,.int .i64 e.kind,.int .i64 e.n,.str e.name,.int .i64 e.op,.lst (e.kids.map Ex.cells),.int .i64 v.kind,.int .i64 v.n,.str v.name,.int .i64 v.op,.lst (v.kids.map Ex.cells),.lst (Y.map Ex.cells),.lst (Z.map St.cells),.lst (j.map St.cells)] 0 true):=yb;have h1:O.get 1=some (.cells [.int .i64 0,.str [],.str [],.int .i64 0,.int .i64 0,.int .i64 0,.str [],.int .i64 0,.nilS,.int .i64 0,.int .i64 0,.str [],.int .i64 0,.nilS,.nilS,.nilS,.nilS] 0 true):=yc;have lo:2<=U:=ac;have n40:3<=O.next:=ac
  clear nb g0 g1 g2 o4 n4 n4' hq';have e2:(U == 0)=false:=zkV ac;have e3:(0 == U)=false:=zkV ac;have e4:(1 == U)=false:=zkV ac;have e0:(0 == O.next)=false:=zkV ac;have e1:(1 == O.next)=false:=zkV ac;repeat' (first
   |apply Rx.o ?_|fail)
  obtain⟨v5,H5,a5,s5,n5,f5,q5⟩:=xP (P:=Tryz.prog) (t:=61) Tryz.underlying61 sP vD vE rfl aj (lo:=2) (n:=1) (H:=O.alloc (.cells [.int .i64 1,.int .i64 0,.str [],.int .i64 0,.nilS] 0 true)) (v:=.sl U 0 Y.length 5) (ws:=Y.map Ex.cells) (.inr ⟨U,0,Y.map Ex.cells,An,lo,cL,EG,dm _,dO.exs Y⟩) cL (r:=O.next) (imm:=0) (row:=[.int .i64 1,.int .i64 0,.str [],.int .i64 0,.nilS]) (w:=uR.cells) gH rfl rfl (oo 1 0 0 []) kO kO;have h05:H5.get 0=some (.cells [.int .i64 k,.str nm,.str to,.int .i64 n,.int .i64 e.kind,.int .i64 e.n,.str e.name,.int .i64 e.op,.lst (e.kids.map Ex.cells),.int .i64 v.kind,.int .i64 v.n,.str v.name,.int .i64 v.op,.lst (v.kids.map Ex.cells),.lst (Y.map Ex.cells),.lst (Z.map St.cells),.lst (j.map St.cells)] 0 true):=EH;have h15:H5.get 1=some (.cells [.int .i64 0,.str [],.str [],.int .i64 0,.int .i64 0,.int .i64 0,.str [],.int .i64 0,.nilS,.int .i64 0,.int .i64 0,.str [],.int .i64 0,.nilS,.nilS,.nilS,.nilS] 0 true):=EI;obtain⟨t1,t2⟩:=s5.one;clear f5 q5 n5 h0 h1;have gh0:=@yh;repeat' (first
   |(apply ah ?_;clear hK K)|apply Rx.o ?_|apply bS ?_|apply ak ?_|(apply zkU fun K hK=>?_)|apply aF ?_)
  refine⟨eI,_,(by(try simp only[zk1,zk7,Nat.reduceBEq,tyF,zlX,zl1, *]);first|done|with_reducible rfl),?_⟩;try simp only[zkX]
  subst C;refine pA (S:=fun k=>2<=k) (m:=1) _ _ _ _ e v ?_ (jq Z) (jq j) ac;rw[l0];exact s5.rd.keep2 (fun _ _ h=>h) (aB _) fun k h1 h2=>uN
 .refine⟨eI,_,(by(try simp only[zk1,zk7,Nat.reduceBEq,tyF,zlX,zl1, *]);first|done|with_reducible rfl),?_⟩;try simp only[zkX]
  rw[af ac,af ac,af ac,af ac,af ac,af ac,af ac,am ac]at C;subst C;exact pA (S:=fun _=>True) (m:=0) _ _ _ _ e v .nilS (jq Z) (jq j) ac
 .rw[af ac,af ac,af ac,af ac,af ac,af ac,af ac,af ac,am ac]at C;generalize V:Hp.alloc (Hp.alloc (Hp.alloc zlv _) _) _=I;have nb:I.next=3:=wq
  have g0:I.get 0=some (.cells [.int .i64 k,.str nm,.str to,.int .i64 n,.int .i64 e.kind,.int .i64 e.n,.str e.name,.int .i64 e.op,.lst (e.kids.map Ex.cells),.int .i64 v.kind,.int .i64 v.n,.str v.name,.int .i64 v.op,.lst (v.kids.map Ex.cells),.lst (Y.map Ex.cells),.lst (Z.map St.cells),.lst (j.map St.cells)] 0 true):=qu;have g1:I.get 1=some (.cells [.int .i64 0,.str [],.str [],.int .i64 0,.int .i64 0,.int .i64 0,.str [],.int .i64 0,.nilS,.int .i64 0,.int .i64 0,.str [],.int .i64 0,.nilS,.nilS,.nilS,.nilS] 0 true):=qu;have g2:I.get 2=some (.cells [] 0 true):=qu;clear V;obtain⟨U,O,a4,gq,hq',lq,n4,n4',o4⟩:=yd (P:=Tryz.prog) (t:=60) Tryz.underlying60 qN sQ vF rfl aj g2 ac (rows:=j.map St.cells) (A4 j) (EN j) kO kO;simp only[cp]at a4;have h0:O.get 0=some (.cells [.int .i64 k,.str nm,.str to,.int .i64 n,.int .i64 e.kind,.int .i64 e.n,.str e.name,.int .i64 e.op,.lst (e.kids.map Ex.cells),.int .i64 v.kind,.int .i64 v.n,.str v.name,.int .i64 v.op,.lst (v.kids.map Ex.cells),.lst (Y.map Ex.cells),.lst (Z.map St.cells),.lst (j.map St.cells)] 0 true):=yb;have h1:O.get 1=some (.cells [.int .i64 0,.str [],.str [],.int .i64 0,.int .i64 0,.int .i64 0,.str [],.int .i64 0,.nilS,.int .i64 0,.int .i64 0,.str [],.int .i64 0,.nilS,.nilS,.nilS,.nilS] 0 true):=yc;have lo:2<=U:=ac;have n40:3<=O.next:=ac
  clear nb g0 g1 g2 o4 n4 n4' hq';have e2:(U == 0)=false:=zkV ac;have e3:(0 == U)=false:=zkV ac;have e4:(1 == U)=false:=zkV ac;have e0:(0 == O.next)=false:=zkV ac;have e1:(1 == O.next)=false:=zkV ac;have gh0:=@Tq;have gh1:=@Ba;repeat' (first
   |apply Rx.o ?_|fail)
  obtain⟨v5,H5,a5,s5,n5,f5,q5⟩:=xP (P:=Tryz.prog) (t:=60) Tryz.underlying60 qN sQ vF rfl aj (lo:=2) (n:=1) (H:=O.alloc (.cells [.int .i64 7,.str [],.str [],.int .i64 0,.int .i64 0,.int .i64 0,.str [],.int .i64 0,.nilS,.int .i64 0,.int .i64 0,.str [],.int .i64 0,.nilS,.nilS,.nilS,.nilS] 0 true)) (v:=.sl U 0 j.length 17) (ws:=j.map St.cells) (.inr ⟨U,0,j.map St.cells,An,lo,cL,EG,dm _,dO.sts j⟩) cL (r:=O.next) (imm:=0) (row:=[.int .i64 7,.str [],.str [],.int .i64 0,.int .i64 0,.int .i64 0,.str [],.int .i64 0,.nilS,.int .i64 0,.int .i64 0,.str [],.int .i64 0,.nilS,.nilS,.nilS,.nilS]) (w:=(uU 0).cells) gH rfl rfl (pw 7 [] [] 0 nD nD .nilS .nilS .nilS) kO kO;have h05:H5.get 0=some (.cells [.int .i64 k,.str nm,.str to,.int .i64 n,.int .i64 e.kind,.int .i64 e.n,.str e.name,.int .i64 e.op,.lst (e.kids.map Ex.cells),.int .i64 v.kind,.int .i64 v.n,.str v.name,.int .i64 v.op,.lst (v.kids.map Ex.cells),.lst (Y.map Ex.cells),.lst (Z.map St.cells),.lst (j.map St.cells)] 0 true):=EH;have h15:H5.get 1=some (.cells [.int .i64 0,.str [],.str [],.int .i64 0,.int .i64 0,.int .i64 0,.str [],.int .i64 0,.nilS,.int .i64 0,.int .i64 0,.str [],.int .i64 0,.nilS,.nilS,.nilS,.nilS] 0 true):=EI;obtain⟨t1,t2⟩:=s5.one;clear f5 q5 n5 h0 h1;have gh0:=@yh;repeat' (first
   |(apply ah ?_;clear hK K)|apply Rx.o ?_|apply bS ?_|apply ak ?_|(apply zkU fun K hK=>?_)|apply aF ?_)
  refine⟨eI,_,(by(try simp only[zk1,zk7,Nat.reduceBEq,tyF,zlX,zl1, *]);first|done|with_reducible rfl),?_⟩;try simp only[zkX]
  subst C;refine pA (S:=fun k=>2<=k) (m:=1) _ _ _ _ e v ((lO (n:=1) Y)) (jq Z) ?_ ac;rw[l0];exact s5.rd.keep2 (fun _ _ h=>h) (aB _) fun k h1 h2=>uN
 .rw[af ac,af ac,af ac,af ac,af ac,af ac,af ac,af ac,af ac,am ac]at C;generalize V:Hp.alloc (Hp.alloc (Hp.alloc zlv _) _) _=I;have nb:I.next=3:=wq
  have g0:I.get 0=some (.cells [.int .i64 k,.str nm,.str to,.int .i64 n,.int .i64 e.kind,.int .i64 e.n,.str e.name,.int .i64 e.op,.lst (e.kids.map Ex.cells),.int .i64 v.kind,.int .i64 v.n,.str v.name,.int .i64 v.op,.lst (v.kids.map Ex.cells),.lst (Y.map Ex.cells),.lst (Z.map St.cells),.lst (j.map St.cells)] 0 true):=qu;have g1:I.get 1=some (.cells [.int .i64 0,.str [],.str [],.int .i64 0,.int .i64 0,.int .i64 0,.str [],.int .i64 0,.nilS,.int .i64 0,.int .i64 0,.str [],.int .i64 0,.nilS,.nilS,.nilS,.nilS] 0 true):=qu;have g2:I.get 2=some (.cells [] 0 true):=qu;clear V;obtain⟨U,O,a4,gq,hq',lq,n4,n4',o4⟩:=yd (P:=Tryz.prog) (t:=60) Tryz.underlying60 qN sQ vF rfl aj g2 ac (rows:=Z.map St.cells) (A4 Z) (EN Z) kO kO;simp only[cp]at a4;have h0:O.get 0=some (.cells [.int .i64 k,.str nm,.str to,.int .i64 n,.int .i64 e.kind,.int .i64 e.n,.str e.name,.int .i64 e.op,.lst (e.kids.map Ex.cells),.int .i64 v.kind,.int .i64 v.n,.str v.name,.int .i64 v.op,.lst (v.kids.map Ex.cells),.lst (Y.map Ex.cells),.lst (Z.map St.cells),.lst (j.map St.cells)] 0 true):=yb;have h1:O.get 1=some (.cells [.int .i64 0,.str [],.str [],.int .i64 0,.int .i64 0,.int .i64 0,.str [],.int .i64 0,.nilS,.int .i64 0,.int .i64 0,.str [],.int .i64 0,.nilS,.nilS,.nilS,.nilS] 0 true):=yc;have lo:2<=U:=ac;have n40:3<=O.next:=ac
  clear nb g0 g1 g2 o4 n4 n4' hq';have e2:(U == 0)=false:=zkV ac;have e3:(0 == U)=false:=zkV ac;have e4:(1 == U)=false:=zkV ac;have e0:(0 == O.next)=false:=zkV ac;have e1:(1 == O.next)=false:=zkV ac;have gh0:=@Tr;have gh1:=@Ba;repeat' (first
   |apply Rx.o ?_|(apply eM ?_;first|refine zlc (kp _ _ aE _) ?_)|fail)
  obtain⟨v5,H5,a5,s5,n5,f5,q5⟩:=xP (P:=Tryz.prog) (t:=60) Tryz.underlying60 qN sQ vF rfl aj (lo:=2) (n:=1) (H:=O.alloc (.cells [.int .i64 7,.str [],.str [],.int .i64 (zla a 3),.int .i64 0,.int .i64 0,.str [],.int .i64 0,.nilS,.int .i64 0,.int .i64 0,.str [],.int .i64 0,.nilS,.nilS,.nilS,.nilS] 0 true)) (v:=.sl U 0 Z.length 17) (ws:=Z.map St.cells) (.inr ⟨U,0,Z.map St.cells,An,lo,cL,EG,dm _,dO.sts Z⟩) cL (r:=O.next) (imm:=0) (row:=[.int .i64 7,.str [],.str [],.int .i64 (zla a 3),.int .i64 0,.int .i64 0,.str [],.int .i64 0,.nilS,.int .i64 0,.int .i64 0,.str [],.int .i64 0,.nilS,.nilS,.nilS,.nilS]) (w:=(uU (zla a 3)).cells) gH rfl rfl (pw 7 [] [] (zla a 3) nD nD .nilS .nilS .nilS) kO kO;have h05:H5.get 0=some (.cells [.int .i64 k,.str nm,.str to,.int .i64 n,.int .i64 e.kind,.int .i64 e.n,.str e.name,.int .i64 e.op,.lst (e.kids.map Ex.cells),.int .i64 v.kind,.int .i64 v.n,.str v.name,.int .i64 v.op,.lst (v.kids.map Ex.cells),.lst (Y.map Ex.cells),.lst (Z.map St.cells),.lst (j.map St.cells)] 0 true):=EH;have h15:H5.get 1=some (.cells [.int .i64 0,.str [],.str [],.int .i64 0,.int .i64 0,.int .i64 0,.str [],.int .i64 0,.nilS,.int .i64 0,.int .i64 0,.str [],.int .i64 0,.nilS,.nilS,.nilS,.nilS] 0 true):=EI;obtain⟨t1,t2⟩:=s5.one;clear f5 q5 n5 h0 h1;have gh0:=@yh;repeat' (first
   |(apply ah ?_;clear hK K)|apply Rx.o ?_|apply bS ?_|apply ak ?_|(apply zkU fun K hK=>?_)|apply aF ?_)
  refine⟨eI,_,(by(try simp only[zk1,zk7,Nat.reduceBEq,tyF,zlX,zl1, *]);first|done|with_reducible rfl),?_⟩;try simp only[zkX]
  subst C;refine pA (S:=fun k=>2<=k) (m:=1) _ _ _ _ e v ((lO (n:=1) Y)) ?_ (jq j) ac;rw[l0];exact s5.rd.keep2 (fun _ _ h=>h) (aB _) fun k h1 h2=>uN
 .rw[af ac,af ac,af ac,af ac,af ac,af ac,af ac,af ac,af ac,af ac,am ac]at C;generalize V:Hp.alloc (Hp.alloc (Hp.alloc zlv _) _) _=I;have nb:I.next=3:=wq
  have g0:I.get 0=some (.cells [.int .i64 k,.str nm,.str to,.int .i64 n,.int .i64 e.kind,.int .i64 e.n,.str e.name,.int .i64 e.op,.lst (e.kids.map Ex.cells),.int .i64 v.kind,.int .i64 v.n,.str v.name,.int .i64 v.op,.lst (v.kids.map Ex.cells),.lst (Y.map Ex.cells),.lst (Z.map St.cells),.lst (j.map St.cells)] 0 true):=qu;have g1:I.get 1=some (.cells [.int .i64 0,.str [],.str [],.int .i64 0,.int .i64 0,.int .i64 0,.str [],.int .i64 0,.nilS,.int .i64 0,.int .i64 0,.str [],.int .i64 0,.nilS,.nilS,.nilS,.nilS] 0 true):=qu;have g2:I.get 2=some (.cells [] 0 true):=qu;clear V;obtain⟨U,O,a4,gq,hq',lq,n4,n4',o4⟩:=yd (P:=Tryz.prog) (t:=60) Tryz.underlying60 qN sQ vF rfl aj g2 ac (rows:=Z.map St.cells) (A4 Z) (EN Z) kO kO;simp only[cp]at a4;have h0:O.get 0=some (.cells [.int .i64 k,.str nm,.str to,.int .i64 n,.int .i64 e.kind,.int .i64 e.n,.str e.name,.int .i64 e.op,.lst (e.kids.map Ex.cells),.int .i64 v.kind,.int .i64 v.n,.str v.name,.int .i64 v.op,.lst (v.kids.map Ex.cells),.lst (Y.map Ex.cells),.lst (Z.map St.cells),.lst (j.map St.cells)] 0 true):=yb;have h1:O.get 1=some (.cells [.int .i64 0,.str [],.str [],.int .i64 0,.int .i64 0,.int .i64 0,.str [],.int .i64 0,.nilS,.int .i64 0,.int .i64 0,.str [],.int .i64 0,.nilS,.nilS,.nilS,.nilS] 0 true):=yc;have lo:2<=U:=ac;have n40:3<=O.next:=ac
  clear nb g0 g1 g2 o4 n4 n4' hq';have e2:(U == 0)=false:=zkV ac;have e3:(0 == U)=false:=zkV ac;have e4:(1 == U)=false:=zkV ac;have e0:(0 == O.next)=false:=zkV ac;have e1:(1 == O.next)=false:=zkV ac;have hp:=zmO (n:=a) (m:=Z.length) ac ac;have hlt:(zla a Z.length).toNat<Z.length:=ac;have hi17:zlO Tryz.prog 60 (.sl U 0 Z.length 17) (.int .i64 (zla a Z.length))=some (.ptr U ((zla a Z.length).toNat*17)):=To U _ hp.1 hlt;obtain⟨y,hy⟩:∃y,Z[(zla a Z.length).toNat]?=some y:=⟨_,aT hlt⟩;have hrow:(Z.map St.cells)[(zla a Z.length).toNat]?=some y.cells:=by rw[eS,hy];rfl
  have hagg:=JM (A4 Z) hrow;have hsm:=znL (j7 hy);have kr1:=fun H=>kr y (bE (J.tdiv 13)) (bE (a.tdiv 3)) (by simp only[St.sz];omega) H;rw[Tm _ _ _ _ _ hy]at C;have gh0:=@yh;repeat' (first
   |(apply ah ?_;clear hK K)|apply Rx.o ?_|apply bS ?_|(apply eM ?_;first|refine zlc (kr1 _) ?_)|(apply zmm 26 [(1,12),(1,14),(4,12),(7,12)] fun K hK=>?_)|(apply zlC ?_;try intro _)|apply bZ ?_|apply zmK rfl ?_|fail)
  refine oN eV eV (Tg (rows:=Z.map St.cells) qN Tb (A4 Z) Je (St.clen _) (St.one _)) ?_;have gh0:=@yh;repeat' (first
   |(apply ah ?_;clear hK K)|apply Rx.o ?_|apply bS ?_|apply ak ?_|(apply zkU fun K hK=>?_)|(apply zlC ?_;try intro _)|(apply zmk ?_ ?_<;>clear hK K)|apply aF ?_)
  .exact zlU
  refine⟨eI,_,(by(try simp only[zk1,zk7,Nat.reduceBEq,tyF,zlX,zl1, *]);first|done|with_reducible rfl),?_⟩;try simp only[zkX]
  subst C;refine pA (S:=fun k=>2<=k) (m:=1) _ _ _ _ e v (lO Y) ?_ (jq j) ac;have hks:(Z.map St.cells).set (zla a Z.length).toNat (jE y (bE (J.tdiv 13)) (bE (a.tdiv 3))).cells=(Z.set (zla a Z.length).toNat (jE y (bE (J.tdiv 13)) (bE (a.tdiv 3)))).map St.cells:=qL.symm;have:=tA (S:=fun k=>2<=k) (n:=1) (z:=17) (tip:=true) (imm:=0) (r:=U) (H:=Hp.set (Hp.set (Hp.set O 0 (.cells [.int .i64 k,.str nm,.str to,.int .i64 n,.int .i64 e.kind,.int .i64 e.n,.str e.name,.int .i64 e.op,.lst (e.kids.map Ex.cells),.int .i64 v.kind,.int .i64 v.n,.str v.name,.int .i64 v.op,.lst (v.kids.map Ex.cells),.lst (Y.map Ex.cells),.sl U 0 Z.length 17,.lst (j.map St.cells)] 0 true)) U (.cells ((Z.map St.cells).set (zla a Z.length).toNat (jE y (bE (J.tdiv 13)) (bE (a.tdiv 3))).cells).flatten 0 true)) 1 (.cells [.int .i64 k,.str nm,.str to,.int .i64 n,.int .i64 e.kind,.int .i64 e.n,.str e.name,.int .i64 e.op,.lst (e.kids.map Ex.cells),.int .i64 v.kind,.int .i64 v.n,.str v.name,.int .i64 v.op,.lst (v.kids.map Ex.cells),.lst (Y.map Ex.cells),.sl U 0 Z.length 17,.lst (j.map St.cells)] 0 true)) (a:=(Z.set (zla a Z.length).toNat (jE y (bE (J.tdiv 13)) (bE (a.tdiv 3)))).map St.cells) lo lq Tc (dm _) (dO.sts _);rw[cp,jd]at this;exact this
 .refine⟨eI,_,(by(try simp only[zk1,zk7,Nat.reduceBEq,tyF,zlX,zl1, *]);first|done|with_reducible rfl),?_⟩;try simp only[zkX]
  rw[af ac,af ac,af ac,af ac,af ac,af ac,af ac,af ac,af ac,af ac,am ac]at C;subst C;have hk0:Z=[]:=Jg ac;subst hk0;exact pA (S:=fun _=>True) (m:=0) _ _ _ _ e v (lO Y) (jq []) (jq j) ac
 .refine⟨eI,_,(by(try simp only[zk1,zk7,Nat.reduceBEq,tyF,zlX,zl1, *]);first|done|with_reducible rfl),?_⟩;try simp only[zkX]
  rw[af ac,af ac,af ac,af ac,af ac,af ac,af ac,af ac,af ac,af ac,af ac]at C;subst C;exact pA (S:=fun _=>True) (m:=0) _ _ _ _ e v (lO Y) (jq Z) (jq j) ac)
end
section
section
variable {i:Nat} {pt:Nat -> Nat} {lo b b' n:Nat} {H:Hp} {ra rf:Nat} {x y:Int} {f g:Fu} {pf lf bf:AV} {vf:List AV} {pg lg bg:AV} {vg:List AV} (h:ProgX i pt lo b b' n H ra rf x y f g pf lf bf vf pg lg bg vg)
include h
theorem ProgX.mv0{H':Hp}(J:H.next<=H'.next)(o:∀q,lo<=q->q<H.next->H'.get q=H.get q):ProgX i (fun q=>if H.next<=q then 0 else pt q) lo b b' n H' ra rf x y f g pf lf bf vf pg lg bg vg:=by
 obtain⟨K,C,I⟩:=h.hb;have V:=h.lo_of (q:=ra) (by rw[h.lra];decide);have Z:=h.lo_of (q:=rf) (by rw[h.lrf];decide);have m:=h.ltA;have j:=h.ltF;have z:=h.hlo;have M:=h.lra;have lf:=h.lrf;exact⟨h.hb,ac,fun q U=>SJ,by rw[o ra V m];exact h.ga,by rw[o rf Z j];exact h.gf,ac,ac,by show(if _ then _ else _)=1;rw[af ac];exact M,SK,
  h.F.mv (aB _) (fun q Y _ _=>af ac) J fun q Y O _=>o q (h.lo_of ac) Y,h.G.mv (aB _) (fun q Y _ _=>af ac) J fun q Y O _=>o q (h.lo_of ac) Y⟩
theorem ProgX.pushP{Hb:Hp}(m:H.next<=Hb.next)(o:∀q,lo<=q->q<H.next->Hb.get q=H.get q){r imm:Nat}{s:List UInt8}(hg:Hb.get r=some (.cells [.str s] imm true)){N:Nat}(hN:f.params.length=N)(hl:N<2^30):
 ∃H',zmc Tryz.prog false Hb 59 59 pf (.sl r 0 1 1)=some (.sl Hb.next 0 (N+1) 1,H')/\H'.next=Hb.next+1/\(∀q,q<Hb.next->(H.next<=q\/pt q≠b)->H'.get q=Hb.get q) /\
  ∀M:Hp,M.next=H'.next->(∀q,q≠rf->M.get q=H'.get q)->M.get rf=some (.cells (qt i (gM f.name (.sl Hb.next 0 (N+1) 1) lf bf vf) (gM g.name pg lg bg vg)) 0 true) ->
   ProgX i (fun q=>if H.next<=q then b else pt q) lo b b' n M ra rf x y {f with params:=f.params++[s] } g (.sl Hb.next 0 (N+1) 1) lf bf vf pg lg bg vg:=by
 have hb:=h.hb;have lr:=h.lrf;have h2:=h.ltF;have h3:=h.hlo;obtain⟨H',O,z,J,b1,b2,b3,a2,j,K⟩:=A2 (P:=Tryz.prog) (t:=59) Tryz.underlying59 sO uc ud rfl aj h.F.ps m (fun q Z Y=>o q (h.lo_of ac) Z) hg rfl rfl rW rW;rw[cp,hN]at J K b1 b2;refine⟨H',J,a2,j,fun M Z Y U=>?_⟩;refine h.setP (f.params++[s]) ac (aB _) (fun q h7 h8 U V=>?_) U ?_
 .rw[Y q U,j q ac (.inr V),o q h7 h8]
 .have:=K M rf [.str s] [.str s] ac (fun q h6 _=>Y q h6) ac h2 (by rw[Y _ ac];exact b3) rfl ((zlJ.strs (n:=0) s).up (Nat.le_of_not_lt fun hlt=>by
   have h0:n=0:=ac;subst h0;obtain⟨I,C,_⟩:=h.F.vw;have hv:=h.F.len;cases vf with
   |nil=>simp at hv
   |cons v vf=>cases I with
    |nil=>exact C.elim
    |cons u I=>exact C.1.elim))
  rw[l0,dM,mh];exact this
theorem ProgX.pushL{Hb:Hp}(m:H.next<=Hb.next)(o:∀q,lo<=q->q<H.next->Hb.get q=H.get q){r imm:Nat}{s:List UInt8}(hg:Hb.get r=some (.cells [.str s] imm true)){N:Nat}(hN:f.locals.length=N)(hl:N<2^30):
 ∃H',zmc Tryz.prog false Hb 59 59 lf (.sl r 0 1 1)=some (.sl Hb.next 0 (N+1) 1,H')/\H'.next=Hb.next+1/\(∀q,q<Hb.next->(H.next<=q\/pt q≠b+1)->H'.get q=Hb.get q) /\
  ∀M:Hp,M.next=H'.next->(∀q,q≠rf->M.get q=H'.get q)->M.get rf=some (.cells (qt i (gM f.name pf (.sl Hb.next 0 (N+1) 1) bf vf) (gM g.name pg lg bg vg)) 0 true) ->
   ProgX i (fun q=>if H.next<=q then b+1 else pt q) lo b b' n M ra rf x y {f with locals:=f.locals++[s] } g pf (.sl Hb.next 0 (N+1) 1) bf vf pg lg bg vg:=by
 have hb:=h.hb;have lr:=h.lrf;have h2:=h.ltF;have h3:=h.hlo;obtain⟨H',O,z,J,b1,b2,b3,a2,j,K⟩:=A2 (P:=Tryz.prog) (t:=59) Tryz.underlying59 sO uc ud rfl aj h.F.ls m (fun q Z Y=>o q (h.lo_of ac) Z) hg rfl rfl rW rW;rw[cp,hN]at J K b1 b2;refine⟨H',J,a2,j,fun M Z Y U=>?_⟩;refine h.setL (f.locals++[s]) ac (aB _) (fun q h7 h8 U V=>?_) U ?_
 .rw[Y q U,j q ac (.inr V),o q h7 h8]
 .have:=K M rf [.str s] [.str s] ac (fun q h6 _=>Y q h6) ac h2 (by rw[Y _ ac];exact b3) rfl ((zlJ.strs (n:=0) s).up (Nat.le_of_not_lt fun hlt=>by
   have h0:n=0:=ac;subst h0;obtain⟨I,C,_⟩:=h.F.vw;have hv:=h.F.len;cases vf with
   |nil=>simp at hv
   |cons v vf=>cases I with
    |nil=>exact C.elim
    |cons u I=>exact C.1.elim))
  rw[l0,dM,mh];exact this
theorem ProgX.pushC{Hb:Hp}(hn:H.next<=Hb.next)(m:∀q,lo<=q->q<H.next->Hb.get q=H.get q){r imm:Nat}{row:List AV}(hg:Hb.get r=some (.cells row imm true))(K:row.length=17)(Y:row.all AV.one=true){N:Nat}(hN:f.body.length=N)(hl:N<2^30):
 ∃H' U Z,zmc Tryz.prog false Hb 60 60 bf (.sl r 0 1 17)=some (.sl Hb.next 0 (N+1) 17,H')/\H'.get Hb.next=some (.cells (U++row) Z true)/\Z<=N*17/\(U++row).length=N*17+17/\(U++row).take (N*17)=U/\(U++row).drop (N*17+17)=[]/\H'.next=Hb.next+1/\(∀q,q<Hb.next->(H.next<=q\/pt q≠b+2)->H'.get q=Hb.get q) /\
  ∀(M:Hp) (z:List AV) (w:St),M.next=H'.next->(∀q,q≠rf->q<Hb.next->M.get q=H'.get q)->M.get Hb.next=some (.cells (U++z) Z true)->z.length=17->zlJ (fun q=>H.next<=q/\q<Hb.next) n Hb z w.cells->M.get rf=some (.cells (qt i (gM f.name pf lf (.sl Hb.next 0 (N+1) 17) vf) (gM g.name pg lg bg vg)) 0 true) ->
   ProgX i (fun q=>if H.next<=q then b+2 else pt q) lo b b' n M ra rf x y {f with body:=f.body++[w] } g pf lf (.sl Hb.next 0 (N+1) 17) vf pg lg bg vg:=by
 have hb:=h.hb;have lr:=h.lrf;have h2:=h.ltF;have h3:=h.hlo;obtain⟨H',U,Z,a1,C,b2,b3,a2,a3,a4⟩:=A2 (P:=Tryz.prog) (t:=60) Tryz.underlying60 qN sQ RB dT aj h.F.bo hn (fun q j V=>m q (h.lo_of ac) j) hg K Y rW rW;rw[cp,hN]at a1 a4 C b2;refine⟨H',U,Z,a1,b3,b2,by rw[fj,C,K],by rw[<-C,List.take_left],rb (by rw[fj];omega),a2,a3,fun M z w j V h6 O o J=>?_⟩;refine h.setB (f.body++[w]) ac (aB _) (fun q O o J I=>?_) J ?_
 .rw[V q J ac,a3 q ac (.inr I),m q O o]
 .have:=a4 M rf z w.cells ac V ac h2 h6 O o;rw[l0,dM,mh];exact this
theorem ProgX.fnsP:zmf (fun q=>pt q≠0/\q≠ra) (n+1) H 9 (.sl rf 0 2 9) ((il i x y f g).funcs.map Fu.cells):=by
 obtain⟨M,C,V⟩:=h.hb;have U:=h.lrf;have O:=h.lra;have J:=h.F.row (S:=fun q=>(pt q≠0/\q≠ra)/\q≠rf) fun q m j Z=>⟨⟨ac,fun e=>mr⟩,fun e=>mr⟩;have K:=h.G.row (S:=fun q=>(pt q≠0/\q≠ra)/\q≠rf) fun q m j Z=>⟨⟨ac,fun e=>mr⟩,fun e=>mr⟩;have Y:pt rf≠0/\rf≠ra:=⟨ac,fun e=>h.ne e.symm⟩;have z:=h.gf;cases i with
 |zero=>exact .inr ⟨rf,0,[gM f.name pf lf bf vf,gM g.name pg lg bg vg],rfl,Y,h.ltF,by rw[z];simp[qt],dm _,⟨h.F.clen _,J⟩,⟨h.G.clen _,K⟩,trivial⟩
 |succ i=>exact .inr ⟨rf,0,[gM g.name pg lg bg vg,gM f.name pf lf bf vf],rfl,Y,h.ltF,by rw[z];simp[qt],dm _,⟨h.G.clen _,K⟩,⟨h.F.clen _,J⟩,trivial⟩
theorem ProgX.arsP:zmf (fun q=>q=ra) (n+1) H 2 (.sl ra 0 2 2) ((il i x y f g).arrays.map Ar.cells):=by
 have e:(il i x y f g).arrays.map Ar.cells=[[.str [97],.int .i64 x],[.str [98],.int .i64 y]]:=by cases i<;>rfl
 rw[e];exact .inr ⟨ra,0,[[.str [97],.int .i64 x],[.str [98],.int .i64 y]],rfl,rfl,h.ltA,h.ga,dm _,⟨rfl,.cons (.str _) (.cons (.int _ _) .nil)⟩,⟨rfl,.cons (.str _) (.cons (.int _ _) .nil)⟩,trivial⟩
end
def pB:List UInt8:=[122,122]
def qx(f:Fu):Prop:=f.name≠pB/\dt f.body/\d9 f.value
structure MutG (p:Pr):Prop where
 sz:p.sz<2^30
 fn:∀f∈p.funcs,f.name≠pB
 ar:∀a∈p.arrays,a.name≠pB
 rg:∀f∈p.funcs,dt f.body/\d9 f.value
structure MutR (lo P n:Nat) (H:Hp) (va vb:AV) (p:Pr) (R:Nat->Prop):Prop where
 ne:¬R P
 ars:zmf (fun q=>lo<=q/\R q) n H 2 va (p.arrays.map Ar.cells)
 fns:zmf (fun q=>lo<=q/\¬R q/\q≠P) n H 9 vb (p.funcs.map Fu.cells)
 good:MutG p
def tK(lo P:Nat)(Z H':Hp):Prop:=∃J C p R,H'.get P=some (.cells [J,C] 0 true)/\P<H'.next/\MutR lo P 50 H' J C p R/\(∀q,q<lo->H'.get q=Z.get q)
theorem tK.of{i:Nat}{O:Nat->Nat}{lo b K n:Nat}{H:Hp}{C I:Nat}{x y:Int}{f g:Fu}{m j bf:AV}{vf:List AV}{pg lg bg:AV}{vg:List AV}{P:Nat}{J:Hp}(h:ProgX i O lo b K n H C I x y f g m j bf vf pg lg bg vg)(hP:O P=0)(Z:P<H.next)(gp:H.get P=some (.cells [.sl C 0 2 2,.sl I 0 2 9] 0 true))(old:∀q,q<lo->H.get q=J.get q)(hn:n<=48)
 (h1:f.sz<2^28) (h2:g.sz<2^28) (z:qx f) (Y:qx g):tK lo P J H:=by
 have M:P≠C:=fun e=>by have:=h.lra;rw[<-e]at this;omega
 refine⟨_,_,il i x y f g,fun q=>q=C,gp,Z,⟨M,?_,?_,?_,?_,?_,?_⟩,old⟩
 .exact(h.arsP.keep (fun q _ V=>⟨h.lo_of (by rw[V,h.lra];decide),V⟩) (aB _) fun _ _ _=>rfl).up ac
 .exact(h.fnsP.keep (fun q _ V=>⟨h.lo_of V.1,V.2,fun e=>V.1 (by rw[e];exact hP)⟩) (aB _) fun _ _ _=>rfl).up ac
 .cases i<;>simp only[il,sk,A1,Pr.sz,zmL,zmv,mU]<;>omega
 .intro f' o;cases i<;>simp only[il,sk,jp]at o <;>rcases o with rfl|rfl<;>first|exact z.1|exact Y.1
 .intro a U;cases i<;>simp only[il,sk,A1,jp]at U<;>rcases U with rfl|rfl<;>(intro e;cases e)
 .intro f' o;cases i<;>simp only[il,sk,jp]at o <;>rcases o with rfl|rfl<;>first|exact z.2|exact Y.2
end
end Go.Proofs.YtpbcimfiofmoeaaGreat
