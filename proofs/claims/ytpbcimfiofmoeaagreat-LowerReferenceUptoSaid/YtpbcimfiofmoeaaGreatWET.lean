/- Lemmas for the last file. -/
import Derived.Test.YtpbcimfiofmoeaaGreatWES
set_option linter.all false
set_option maxHeartbeats 32000000
namespace Go.Ab
set_option maxRecDepth 20000
open Go
variable{qe:Prop}
def FT(h:qe:=by show _ < 6;omega):=h
def y9(h:qe:=by rw[<- Y];simp[aD,aU,ce]):=h
def kI(h:qe:=by simp[ee];omega):=h
def TS(h:qe:=by simp only[AV.sl.injEq]at e;omega):=h
def FU(h:qe:=by show _ < 5;omega):=h
def ru(h:qe:=by rw[<- U];simp[aD,aU,ce]):=h
def za(h:qe:=by rw[o4 0 ac ac];exact g0):=h
def zb(h:qe:=by rw[o4 1 ac ac];exact g1):=h
def FV(h:qe:=by rw[aD,if_neg ac];exact gq):=h
def FW(h:qe:=by rw[f5 0 cB (fun o m z' e=>TS),aD,if_neg ac];exact h0):=h
def FX(h:qe:=by rw[f5 1 cB (fun o m z' e=>TS),aD,if_neg ac];exact h1):=h
def TT(h:qe:=by rw[Hp.get_set,if_neg ac];exact gq):=h
def TU(h:qe:=by rw[Hp.get_set,if_neg ac,Hp.get_set,if_pos rfl,hks]):=h
def Kv:=@List.drop_length_add_append
end Go.Ab
namespace Go.Proofs.YtpbcimfiofmoeaaGreat
set_option maxRecDepth 20000
open Go Go.Ab Proofs.Tryz
variable(ρ:Nat->Int)
variable{z i b q m r N:Nat}{rows:List qu}{P:Program}{H:Hp}{S:Nat->Prop}{n:Int}{s:qA}
section
theorem TV{z:Nat}:∀{rows:List qu}{i:Nat}{r:qu},(∀x∈rows,x.length=z)->rows[i]?=some r->rows.flatten.drop (i*z)=r++(rows.drop (i+1)).flatten
 |[],i,r,_,e=>by simp at e
 |a::rows,0,r,h,e=>by
  simp only[tY,aQ]at e;subst e;simp
 |a::rows,i+1,r,h,e=>by
  have O:=h a eg;have ih:=TV (rows:=rows) (i:=i) (r:=r) (fun x hx=>h x (en _ hx)) AE;have m:(i+1)*z=a.length+i*z:=by rw[x3,O];omega
  rw[jl,m,Kv,ih];rfl
theorem Kw{z:Nat}{w:qu}(M:w.length=z):∀{rows:List qu}{i:Nat},(∀x∈rows,x.length=z)->i<rows.length->splice rows.flatten (i*z) w=(rows.set i w).flatten
 |[],i,_,e=>by simp at e
 |a::rows,0,h,e=>by
  have O:=h a eg;simp only[splice,yO,QY,lL,bR,jl,IF];rw[CS ac,CH ac,lL]
 |a::rows,i+1,h,e=>by
  have O:=h a eg;have ih:=Kw M (rows:=rows) (i:=i) (fun x hx=>h x (en _ hx)) AE;simp only[splice,jl,IG]at ih⊢;have m:(i+1)*z=a.length+i*z:=by rw[x3,O];omega
  rw[m,List.take_length_add_append,iH,Kv,mV,mV];rw[mV]at ih;rw[ih]
def FY{r:qu}(h:∀x∈rows,x.length=z)(e:rows[i]?=some r):cq z (rows.flatten.drop (i*z))=some (.agg r):=by
 have hr:=h r (li e);rw[TV h e];unfold cq;rw[GL ac,gQ ac,ai hr]
def BT(l:qI):∀x∈l.map Ex.cells,x.length=5:=fun r hr=>by
 obtain⟨a,_,rfl⟩:=mh.1 hr;exact a.a9
theorem FZ:∀l:qI,(l.map Ex.cells).flatten.all AV.one=true
 |[]=>rfl
 |a::l=>by rw[eK,jl,xo,a.one,FZ l];rfl
theorem di.eT{S:Nat->Prop}{n:Nat}{H:Hp}:∀l:qI,di S (n+1) H 5 (l.map Ex.cells) (l.map Ex.cells)
 |[]=>trivial
 |a::l=>⟨⟨a.a9,b9.ex a⟩,di.eT l⟩
theorem zd{t e:TypeId}{J:qu}(j:P.underlying t=some (.slice e))(hs:bL P e=some z)(hb:dF P e=some b)(hz:cQ P e=some J)(Y:J.length=z)(V:gN P t=true)
  (hg:H.get q=some qf) (hq:q<H.next)  (hr:∀x∈rows,x.length=z) (U:rows.flatten.all AV.one=true) (I:rows.length*b<=ee) (C:rows.length<=ee) :
 ∃Z H',cD P false H t t (.sl q 0 0 z) (.az rows)=some (.sl Z 0 rows.length z,H')/\H'.get Z=some (.cells rows.flatten 0 true)/\(Z=q\/Z=H.next)/\Z<H'.next/\H.next<=H'.next/\H'.next<=H.next+1/\∀k,k<H.next->k≠q->H'.get k=H.get k:=by
 have hx:fk H z (.az rows)=some (rows.length,rows.flatten):=JH hr;by_cases h0:rows=[]
 .subst h0;refine⟨q,H,?_,hg,.inl rfl,hq,ay _,cG _,fun _ _ _=>rfl⟩;simp only[fq]at hx;simp only[cD,j,hs,hb,hz,V,hx,fq]
 .obtain⟨m,hm⟩:∃m,rows.length=m+1:=⟨rows.length-1,by have:=vo.2 h0;omega⟩;have M:gY false H z (.sl q 0 0 z)=H:=by
   unfold gY;simp only[hg];have:Nat.blt (0+0*z) ([]:qu).length=false:=by
    cases hb:Nat.blt (0+0*z) ([]:qu).length with
    |false=>rfl
    |true=>rw[sI]at hb;simp at hb
   simp only[this,xe,mB]
  refine⟨H.next,(H.a0 q).alloc (.cells rows.flatten 0 true),?_,?_,.inr rfl,bT _,cG _,ay _,fun k hk O=>?_⟩
  .rw[hm]at hx I C;simp only[cD,j,hs,hb,hz,V,hx,U,M,Y,nV,ft,nL,hg,bR,yO,List.drop_nil,dM,fG];rw[ai ⟨by simpa using I,by simpa using C,aw,trivial,aw⟩,hm];simp
  .show((H.a0 q).alloc _).get (H.a0 q).next=_
   rw[aD,ai rfl]
  .rw[aD,af nh,iy,af O]
def TW{t:Nat}{tip:Bool}{w:qu}(U:bL P t=some z)(hg:H.get q=some (.cells rows.flatten 0 tip))(C:∀x∈rows,x.length=z)(I:i<rows.length)(M:w.length=z)(h1:w.all AV.one=true):lW P H t (.ptr q (i*z)) (.agg w)=some (H.set q (.cells (rows.set i w).flatten 0 tip)):=by
 have O:=w5 C;have hb:i*z+z<=rows.flatten.length:=by
  rw[O];have:(i+1)*z<=rows.length*z:=zX z I;rw[x3]at this;exact this
 simp only[lW,hg,U];show(if w.length=z/\0<=i*z/\i*z+z<=rows.flatten.length/\w.all AV.one=true then some (H.set q (.cells (splice rows.flatten (i*z) w) 0 tip))else none)=_;rw[ai ⟨M,cZ _,hb,h1⟩,Kw M C I]
def b9.fS{n:Nat}{cs ws:qu}(h:b9 S n H cs ws)(J:n<=58):∃m u,iceV H m (.agg cs)=some u/\bY 60 u=.agg ws:=by
 obtain⟨Y,Z,j⟩:=h;have C:dq S 100 H (.agg cs) (.agg Y):=dq.up (n:=n+1) ⟨Y,Z,rfl⟩ ac;obtain⟨z,V⟩:=dq.iceV C;refine⟨z,.agg Y,V z (ay _),?_⟩;show AV.agg (Y.map (bY 59))=_;rw[j 59 ac]
def TX{ρ:Nat->Int}{l:qC}(O:gT prog ρ l){I:Type}(sz:I->Nat){f:FuncId}{ok:I->Prop}{enc:I->qu}{out:I->AV}(Y:∀x,ok x->gl (enc x))
 (h:∀x,ok x->aR prog (au pls (⟨f,false,co (fun y=>ok y/\sz y<sz x) enc out⟩::l)) f (enc x) bt fun v H'=>∃m u,iceV H' m v=some u/\bY 60 u=out x):∀x,ok x->bX prog ρ f (enc x) (out x):=by
 have z:∀n x,sz x<n->ok x->bX prog ρ f (enc x) (out x):=by
  intro n;induction n with
  |zero=>intro x hx;omega
  |succ n ih=>
   intro x hx Z;exact JJ (cfg:=au pls (⟨f,false,co (fun y=>ok y/\sz y<sz x) enc out⟩::l)) fit (u5 ρ) (fun g V r hg=>gT.dW (l:=⟨f,false,co (fun y=>ok y/\sz y<sz x) enc out⟩::l) ⟨dT fun y hy=>ih y ac hy.1,O⟩ g V r hg) (Y x Z) (h x Z)
 exact fun x=>z (sz x+1) x (bT _)
def tyMu1.tyF:=ad @dQ (ad @cr (ad @cK (ad @et (ad @dR (ad @dD (@u7))))))
open tyMu1
noncomputable def TY:{c:SC // aE 80 (f50.body.getD .skip)=c}:=by
 refine⟨?_,?_⟩;rotate_left
 .simp only[f50,bN,aE,bH,bw,bM,bJ,Nat.blt,Nat.ble];rfl
def vW:Ex:=.mk 1 0 [] 0 []
def ze(l:qx)(n m:Int):qA:=l.getD (bc n m).toNat []
def Ga:qx:=[[120],[113],[97],[102],[],[105,102]]
mutual
def ge:Ex->Int->Int->Ex
 | .mk k n M O C,how,a=>
   if bc how 9=0 then .mk (bB (bc (bB (how.tdiv 9)) 8-1)) n M O C
   else if bc how 9=1 then .mk k (bc a 3) M O C
   else if bc how 9=2 then .mk k n (ze Ga a 6) O C
   else if bc how 9=3 then .mk k n M (bc (bB (how.tdiv 9)) 40) C
   else if bc how 9=4 then .mk k n M O (C++[vW])
   else if bc how 9=5 then .mk k n M O []
   else if bc how 9=6 then .mk k n M O (py C (bc a C.length).toNat (bB (how.tdiv 9)) (bB (a.tdiv 3)))
   else .mk k n M O C
def py:qI->Nat->Int->Int->qI
 |[],_,_,_=>[]
 |x::l,0,how,a=>ge x how a::l
 |x::l,i+1,how,a=>x::py l i how a
end
theorem TZ:∀(l:qI) (i:Nat) (x:Ex) (z a:Int),l[i]?=some x->py l i z a=l.set i (ge x z a)
 |[],i,x,_,_,h=>by simp at h
 |y::l,0,x,z,a,h=>by
  simp only[tY,aQ]at h;subst h;rw[py];rfl
 |y::l,i+1,x,z,a,h=>by
  rw[py,TZ l i x z a mR];rfl
structure MuA where
 x:Ex
 how:Int
 a:Int
def sq(y:MuA):qu:=[.agg y.x.cells,.int .i64 y.how,.int .i64 y.a]
def Gb(x y:MuA)(h:sq x=sq y):x=y:=by
 obtain⟨a,b,c⟩:=x;obtain⟨Z,b',M⟩:=y;simp only[sq,eJ,AV.agg.injEq,AV.int.injEq,aW,kN]at h;obtain⟨m,rfl,rfl⟩:=h;rw[Ex.inj m]
def T0(H:Hp):de prog H 61 0 []=some (.sl H.next 0 0 5,H.alloc qf):=ax
def Gc(H:Hp)(a b c d e f:qA):de prog H 59 6 [(0,.aj a),(1,.aj b),(2,.aj c),(3,.aj d),(4,.aj e),(5,.aj f)]=some (.sl H.next 0 6 1,H.alloc (.cells ([a,b,c,d,e,f].map .aj) 0 true)):=ax
def zf:dd prog 63 [(0,.int .i64 1)]=some (.agg [.int .i64 1,.int .i64 0,.aj [],.int .i64 0,.ag]):=ax
def Kx(H:Hp)(a b c d e:AV):de prog H 61 1 [(0,.agg [a,b,c,d,e])]=some (.sl H.next 0 1 5,H.alloc (.cells [a,b,c,d,e] 0 true)):=ax
def vX(r m:Nat)(Z:0<=n)(h1:n.toNat<m):el prog 59 (.sl r 0 m 1) (.int .i64 n)=some (.ptr r n.toNat):=by
 rw[Ic _ _ _ _ Z,kS h1];simp
def zgf(r m:Nat)(Z:0<=n)(h1:n.toNat<m):el prog 61 (.sl r 0 m 5) (.int .i64 n)=some (.ptr r (n.toNat*5)):=by
 rw[MR _ _ _ _ Z,kS h1];simp
theorem vY(l:qx)(h1:n.toNat<l.length):(l.map AV.aj)[n.toNat]?=some (.aj (l.getD n.toNat [])):=by
 rw[eI,gU,bj h1];rfl
theorem nI(a b c d e:AV):cq 5 [a,b,c,d,e]=some (.agg [a,b,c,d,e]):=rfl
def uG(k n op:Int)(nm:qA){kv:AV}{I:qI}(h:fb S (m+1) H kv (.az (I.map Ex.cells)))(Y:m<=57):∃z u,iceV H z (.agg [.int .i64 k,.int .i64 n,.aj nm,.int .i64 op,kv])=some u/\bY 60 u=.agg (Ex.mk k n nm op I).cells:=(vJ k n op nm h).fS ac
noncomputable def Ky:qC:=[vH]
def zgg:gT prog ρ Ky:=⟨EP ρ,trivial⟩
abbrev qt:HB:=.cells [.int .i64 1,.int .i64 0,.aj [],.int .i64 0,.ag] 0 true
theorem zgh:∀y:MuA,y.x.sz<2^36->bX prog ρ 50 (sq y) (.agg (ge y.x y.how y.a).cells):=
 TX (zgg ρ) (fun y=>y.x.sz) (ok:=fun y=>y.x.sz<2^36) (enc:=sq) (out:=fun y=>.agg (ge y.x y.how y.a).cells) (fun y _=>.cons (.agg y.x.pure) (.cons (.int _ _) (.cons (.int _ _) .nil))) (fun y hx=>by
 have hw:=uc (sz:=fun y:MuA=>y.x.sz) (ok:=fun y=>y.x.sz<2^36) (out:=fun y=>.agg (ge y.x y.how y.a).cells) Gb (f:=50) (l:=Ky) y;generalize hl:(⟨50,false,co (fun z=>z.x.sz<2^36/\z.x.sz<y.x.sz) sq fun y=>.agg (ge y.x y.how y.a).cells⟩:En)::Ky=l at hw⊢;obtain⟨x,Z,a⟩:=y;simp only at hx hl hw⊢;have kr:∀(y:Ex) (h b:Int),y.sz<x.sz->∀H,aR prog (au pls l) 50 [.agg y.cells,.int .i64 h,.int .i64 b] H fun v H'=>v=.agg (ge y h b).cells/\H'=H:=fun y h b h2 H=>by
  subst hl;exact cV (enc:=sq) (out:=fun y=>.agg (ge y.x y.how y.a).cells) Gb (x:=⟨y,h,b⟩) rfl ⟨show y.sz<2^36 by omega,h2⟩
 have kp:∀n m:Int,m≠0->∀H,aR prog (au pls l) 12 [.int .i64 n,.int .i64 m] H fun v H'=>v=.int .i64 (bc n m)/\H'=H:=fun n m h H=>by
  subst hl;exact cV (enc:=po) (ok:=fun x=>x.2≠0) (out:=fun x=>.int .i64 (bc x.1 x.2)) EO (x:=(n,m)) rfl h
 have hkeep:(au pls l).keep 50=false:=rfl;clear hl;have hsz:=x.aV;have hlen:=mY x.ao;have hq:=fE (n:=Z) (m:=9) ac ac;have h6:=fE (n:=a) (m:=6) ac ac;have h9:(9:Int)≠0:=aH;have h3:(3:Int)≠0:=aH;generalize I:ge x Z a=R;obtain⟨k,n,O,J,C⟩:=x;rw[ge]at I;have e5:(Ex.mk k n O J C).cells=[.int .i64 k,.int .i64 n,.aj O,.int .i64 J,.az (C.map Ex.cells)]:=tS;change aR _ _ _ [.agg (Ex.mk k n O J C).cells,.int .i64 Z,.int .i64 a] _ _;change zii _ _ [.agg (Ex.mk k n O J C).cells,.int .i64 Z,.int .i64 a]at hw;rw[e5]at hw⊢;clear e5;simp only[Ex.ao]at hsz hlen;have hn6:=vY Ga (n:=bc a 6) FT;have hi6:=fun r=>vX r 6 h6.1 ac;have h60:=h6.1;have hb6:=fun H=>Gc H [120] [113] [97] [102] [] [105,102];change ∀H,de _ H _ _ _=some (_,H.alloc (.cells (Ga.map .aj) 0 true))at hb6;refine bp (M:=80) (rs:=[.cell 6 63]) hw.call hw.aG hw.aB func50 rfl rfl TY.2 rfl ?_;dsimp only[TY,bm,Nat.reduceAdd];have kpl:∀n:Int,(0:Int)<C.length->∀H,aR prog (au pls l) 12 [.int .i64 n,.int .i64 (C.length:Int)] H fun v H'=>v=.int .i64 (bc n C.length)/\H'=H:=fun n h H=>kp n _ ac H;have j:=@nI;have gh1:=@T0;have gh2:=@zf;have gh3:=@Kx;repeat' (first
  |(apply aj ?_;clear hK K)|apply Ry.o ?_|apply iS ?_|(apply iz ?_;first|refine bK (kp _ _ aH _) ?_|refine bK (kpl _ ac _) ?_)|(apply bu (fun hb hbp=>?_) (fun hb hbp=>?_)<;>try(cases hb;done))|apply cW ?_|(apply am fun K hK=>?_)|(apply ci 18 [(1,12),(1,14),(4,12),(7,12)] fun K hK=>?_)|(apply bD ?_;try intro _)|(apply ch ?_ ?_<;>clear hK K)|apply eP ?_|apply jL rfl ?_|apply dX ?_|apply fA ?_|apply gJ ?_)
 .refine⟨aB,_,(by(try simp only[aG,aY,Nat.reduceBEq,Nat.reduceAdd,Nat.reduceLeDiff,tyF,cF,cR,nI, *]);first|done|with_reducible rfl),?_⟩;try simp only[aA]
  rw[ai lZ]at I;subst I;exact uG (S:=fun _=>True) (m:=0) _ _ _ _ (lD C) ac
 .refine⟨aB,_,(by(try simp only[aG,aY,Nat.reduceBEq,Nat.reduceAdd,Nat.reduceLeDiff,tyF,cF,cR,nI, *]);first|done|with_reducible rfl),?_⟩;try simp only[aA]
  rw[af ac,ai ac]at I;subst I;exact uG (S:=fun _=>True) (m:=0) _ _ _ _ (lD C) ac
 .refine⟨aB,_,(by(try simp only[aG,aY,Nat.reduceBEq,Nat.reduceAdd,Nat.reduceLeDiff,tyF,cF,cR,nI, *]);first|done|with_reducible rfl),?_⟩;try simp only[aA]
  rw[af ac,af ac,ai ac]at I;subst I;exact uG (S:=fun _=>True) (m:=0) _ _ _ _ (lD C) ac
 .refine⟨aB,_,(by(try simp only[aG,aY,Nat.reduceBEq,Nat.reduceAdd,Nat.reduceLeDiff,tyF,cF,cR,nI, *]);first|done|with_reducible rfl),?_⟩;try simp only[aA]
  rw[af ac,af ac,af ac,ai ac]at I;subst I;exact uG (S:=fun _=>True) (m:=0) _ _ _ _ (lD C) ac
 .rw[af ac,af ac,af ac,af ac,ai ac]at I;generalize Y:Hp.alloc (Hp.alloc (Hp.alloc bt _) _) _=Hb;have nb:Hb.next=3:=vC
  have g0:Hb.get 0=some (.cells [.int .i64 k,.int .i64 n,.aj O,.int .i64 J,.az (C.map Ex.cells)] 0 true):=y9;have g1:Hb.get 1=some qj:=y9;have g2:Hb.get 2=some qf:=y9;clear Y;obtain⟨V,U,a4,gq,hq',lq,n4,n4',o4⟩:=zd (P:=prog) (t:=61) underlying61 tV wP wQ rfl ax g2 ac (rows:=C.map Ex.cells) (BT C) (FZ C) kI kI;simp only[dx]at a4;have h0:U.get 0=some (.cells [.int .i64 k,.int .i64 n,.aj O,.int .i64 J,.az (C.map Ex.cells)] 0 true):=za;have h1:U.get 1=some qj:=zb;have lo:2<=V:=ac;have n40:3<=U.next:=ac
  clear nb g0 g1 g2 o4 n4 n4' hq';have e2:(V == 0)=false:=ak ac;have e3:(0 == V)=false:=ak ac;have e4:(1 == V)=false:=ak ac;have e0:(0 == U.next)=false:=ak ac;have e1:(1 == U.next)=false:=ak ac;have j:=@zf;have gh1:=@Kx;repeat' (first
   |(apply aj ?_;clear hK K)|apply Rx.o ?_|apply jc ?_|apply cW ?_|(apply am fun K hK=>?_)|(apply ci 18 [(1,12),(1,14),(4,12),(7,12)] fun K hK=>?_)|(apply bD ?_;try intro _)|(apply ch ?_ ?_<;>clear hK K)|apply eP ?_|apply jL rfl ?_|apply dX ?_|apply fA ?_|apply gJ ?_)
  obtain⟨v5,H5,a5,s5,n5,f5,q5⟩:=yG (P:=prog) (t:=61) underlying61 tV wP wQ rfl ax (lo:=2) (n:=1) (H:=U.alloc qt) (v:=.sl V 0 C.length 5) (ws:=C.map Ex.cells) (.inr ⟨V,0,C.map Ex.cells,Bi,lo,cB,FV,cZ _,di.eT C⟩) cB (r:=U.next) (imm:=0) (row:=[.int .i64 1,.int .i64 0,.aj [],.int .i64 0,.ag]) (w:=vW.cells) fc rfl rfl (pp 1 0 0 []) kI kI;have h05:H5.get 0=some (.cells [.int .i64 k,.int .i64 n,.aj O,.int .i64 J,.az (C.map Ex.cells)] 0 true):=FW;have h15:H5.get 1=some qj:=FX;obtain⟨t1,t2⟩:=s5.one;clear f5 q5 n5 h0 h1;have j:=@nI;repeat' (first
   |(apply aj ?_;clear hK K)|apply Rx.o ?_|apply jc ?_|apply cW ?_|(apply am fun K hK=>?_)|(apply ci 18 [(1,12),(1,14),(4,12),(7,12)] fun K hK=>?_)|(apply bD ?_;try intro _)|(apply ch ?_ ?_<;>clear hK K)|apply eP ?_|apply jL rfl ?_|apply dX ?_|apply fA ?_|apply gJ ?_)
  refine⟨aB,_,(by(try simp only[aG,aY,Nat.reduceBEq,Nat.reduceAdd,Nat.reduceLeDiff,tyF,cF,cR,nI, *]);first|done|with_reducible rfl),?_⟩;try simp only[aA]
  subst I;refine uG (S:=fun k=>2<=k) (m:=1) _ _ _ _ ?_ ac;rw[oP];exact s5.rd.aO (fun _ _ h=>h) (ay _) fun k h1 h2=>vT
 .refine⟨aB,_,(by(try simp only[aG,aY,Nat.reduceBEq,Nat.reduceAdd,Nat.reduceLeDiff,tyF,cF,cR,nI, *]);first|done|with_reducible rfl),?_⟩;try simp only[aA]
  rw[af ac,af ac,af ac,af ac,af ac,ai ac]at I;subst I;exact uG (S:=fun _=>True) (m:=0) _ _ _ _ .ag ac
 .rw[af ac,af ac,af ac,af ac,af ac,af ac,ai ac]at I;generalize Y:Hp.alloc (Hp.alloc (Hp.alloc bt _) _) _=Hb;have nb:Hb.next=3:=vC
  have g0:Hb.get 0=some (.cells [.int .i64 k,.int .i64 n,.aj O,.int .i64 J,.az (C.map Ex.cells)] 0 true):=y9;have g1:Hb.get 1=some qj:=y9;have g2:Hb.get 2=some qf:=y9;clear Y;obtain⟨V,U,a4,gq,hq',lq,n4,n4',o4⟩:=zd (P:=prog) (t:=61) underlying61 tV wP wQ rfl ax g2 ac (rows:=C.map Ex.cells) (BT C) (FZ C) kI kI;simp only[dx]at a4;have h0:U.get 0=some (.cells [.int .i64 k,.int .i64 n,.aj O,.int .i64 J,.az (C.map Ex.cells)] 0 true):=za;have h1:U.get 1=some qj:=zb;have lo:2<=V:=ac;have n40:3<=U.next:=ac
  clear nb g0 g1 g2 o4 n4 n4' hq';have e2:(V == 0)=false:=ak ac;have e3:(0 == V)=false:=ak ac;have e4:(1 == V)=false:=ak ac;have e0:(0 == U.next)=false:=ak ac;have e1:(1 == U.next)=false:=ak ac;have hp:=fE (n:=a) (m:=C.length) ac ac;have hlt:(bc a C.length).toNat<C.length:=ac;have hi5:el prog 61 (.sl V 0 C.length 5) (.int .i64 (bc a C.length))=some (.ptr V ((bc a C.length).toNat*5)):=zgf V _ hp.1 hlt;obtain⟨y,hy⟩:∃y,C[(bc a C.length).toNat]?=some y:=⟨_,bj hlt⟩;have hrow:(C.map Ex.cells)[(bc a C.length).toNat]?=some y.cells:=by rw[eI,hy];rfl
  have hagg:=FY (BT C) hrow;have hsm:=n1 (li hy);have kr1:=fun H=>kr y (bB (Z.tdiv 9)) (bB (a.tdiv 3)) (by show y.sz<1+O.length+cy C;omega) H;rw[TZ _ _ _ _ _ hy]at I;have j:=@nI;repeat' (first
   |(apply aj ?_;clear hK K)|apply Rx.o ?_|apply jc ?_|(apply eu ?_;first|refine bK (kr1 _) ?_)|apply cW ?_|(apply am fun K hK=>?_)|(apply ci 18 [(1,12),(1,14),(4,12),(7,12)] fun K hK=>?_)|(apply bD ?_;try intro _)|(apply ch ?_ ?_<;>clear hK K)|apply eP ?_|apply jL rfl ?_|apply dX ?_|apply fA ?_|apply gJ ?_)
  refine x9 dY dY (TW (rows:=C.map Ex.cells) tV TT (BT C) (by rw[dx];exact hlt) (Ex.a9 _) (Ex.one _)) ?_;have j:=@nI;repeat' (first
   |(apply aj ?_;clear hK K)|apply Rx.o ?_|apply jc ?_|apply cW ?_|(apply am fun K hK=>?_)|(apply ci 18 [(1,12),(1,14),(4,12),(7,12)] fun K hK=>?_)|(apply bD ?_;try intro _)|(apply ch ?_ ?_<;>clear hK K)|apply eP ?_|apply jL rfl ?_|apply dX ?_|apply fA ?_|apply gJ ?_)
  .exact cn
  refine⟨aB,_,(by(try simp only[aG,aY,Nat.reduceBEq,Nat.reduceAdd,Nat.reduceLeDiff,tyF,cF,cR,nI, *]);first|done|with_reducible rfl),?_⟩;try simp only[aA]
  subst I;refine uG (S:=fun k=>2<=k) (m:=1) _ _ _ _ ?_ ac;have hks:(C.map Ex.cells).set (bc a C.length).toNat (ge y (bB (Z.tdiv 9)) (bB (a.tdiv 3))).cells=(C.set (bc a C.length).toNat (ge y (bB (Z.tdiv 9)) (bB (a.tdiv 3)))).map Ex.cells:=wN.symm;have:=se (S:=fun k=>2<=k) (n:=1) (z:=5) (tip:=true) (imm:=0) (r:=V) (H:=Hp.set (Hp.set (Hp.set U 0 (.cells [.int .i64 k,.int .i64 n,.aj O,.int .i64 J,.sl V 0 C.length 5] 0 true)) V (.cells ((C.map Ex.cells).set (bc a C.length).toNat (ge y (bB (Z.tdiv 9)) (bB (a.tdiv 3))).cells).flatten 0 true)) 1 (.cells [.int .i64 k,.int .i64 n,.aj O,.int .i64 J,.sl V 0 C.length 5] 0 true)) (a:=(C.set (bc a C.length).toNat (ge y (bB (Z.tdiv 9)) (bB (a.tdiv 3)))).map Ex.cells) lo lq TU (cZ _) (di.eT _);rw[dx,jQ]at this;exact this
 .refine⟨aB,_,(by(try simp only[aG,aY,Nat.reduceBEq,Nat.reduceAdd,Nat.reduceLeDiff,tyF,cF,cR,nI, *]);first|done|with_reducible rfl),?_⟩;try simp only[aA]
  rw[af ac,af ac,af ac,af ac,af ac,af ac,ai ac]at I;subst I;have hk0:C=[]:=JY ac;subst hk0;exact uG (S:=fun _=>True) (m:=0) _ _ _ _ (lD []) ac
 .refine⟨aB,_,(by(try simp only[aG,aY,Nat.reduceBEq,Nat.reduceAdd,Nat.reduceLeDiff,tyF,cF,cR,nI, *]);first|done|with_reducible rfl),?_⟩;try simp only[aA]
  rw[af ac,af ac,af ac,af ac,af ac,af ac,af ac]at I;subst I;exact uG (S:=fun _=>True) (m:=0) _ _ _ _ (lD C) ac)
end
section
def tyMu2.tyF:=ad @dQ (ad @cr (ad @cK (ad @fP (ad @et (ad @dV (ad @dR (ad @dD (ad @eh (ad @u7 (ad @T0 (ad @zf (@Kx))))))))))))
open tyMu2
noncomputable def T1:{c:SC // aE 125 (f51.body.getD .skip)=c}:=by
 refine⟨?_,?_⟩;rotate_left
 .simp only[f51,bN,aE,bH,bw,bM,bJ,Nat.blt,Nat.ble];rfl
def BU(l:qD):∀x∈l.map St.cells,x.length=17:=fun r hr=>by
 obtain⟨a,_,rfl⟩:=mh.1 hr;exact a.a9
theorem Gd:∀l:qD,(l.map St.cells).flatten.all AV.one=true
 |[]=>rfl
 |a::l=>by rw[eK,jl,xo,a.one,Gd l];rfl
theorem di.eV{S:Nat->Prop}{n:Nat}{H:Hp}:∀l:qD,di S (n+1) H 17 (l.map St.cells) (l.map St.cells)
 |[]=>trivial
 |a::l=>⟨⟨a.a9,b9.st a⟩,di.eV l⟩
def Ge:qx:=[[120],[113],[97],[102],[],[116,114,97,112]]
def Gf:qx:=[[102],[103],[104],[],[97]]
def Kz:qy:=[0,1,-1,1000000,1000001]
def vZ(n:Int):St:=.mk 7 [] [] n gD gD [] [] []
mutual
def jF:St->Int->Int->St
 | .mk k M J n e v V m z,how,a=>
   if bc how 13=0 then .mk (bB (bc (bB (how.tdiv 13)) 10-1)) M J n e v V m z
   else if bc how 13=1 then .mk k (ze Ge a 6) J n e v V m z
   else if bc how 13=2 then .mk k M (ze Gf a 5) n e v V m z
   else if bc how 13=3 then .mk k M J (Kz.getD (bc a 5).toNat 0) e v V m z
   else if bc how 13=4 then .mk k M J n (ge e (bB (how.tdiv 13)) a) v V m z
   else if bc how 13=5 then .mk k M J n e (ge v (bB (how.tdiv 13)) a) V m z
   else if bc how 13=6 then .mk k M J n e v (V++[vW]) m z
   else if bc how 13=7 then .mk k M J n e v [] m z
   else if bc how 13=8 then .mk k M J n e v V m (z++[vZ 0])
   else if bc how 13=9 then .mk k M J n e v V (m++[vZ (bc a 3)]) z
   else if bc how 13=10 then .mk k M J n e v V (pz m (bc a m.length).toNat (bB (how.tdiv 13)) (bB (a.tdiv 3))) z
   else .mk k M J n e v V m z
def pz:qD->Nat->Int->Int->qD
 |[],_,_,_=>[]
 |x::l,0,how,a=>jF x how a::l
 |x::l,i+1,how,a=>x::pz l i how a
end
theorem T2:∀(l:qD) (i:Nat) (x:St) (z a:Int),l[i]?=some x->pz l i z a=l.set i (jF x z a)
 |[],i,x,_,_,h=>by simp at h
 |y::l,0,x,z,a,h=>by
  simp only[tY,aQ]at h;subst h;rw[pz];rfl
 |y::l,i+1,x,z,a,h=>by
  rw[pz,T2 l i x z a mR];rfl
structure MuB where
 x:St
 how:Int
 a:Int
def tq(y:MuB):qu:=[.agg y.x.cells,.int .i64 y.how,.int .i64 y.a]
def KA(x y:MuB)(h:tq x=tq y):x=y:=by
 obtain⟨a,b,c⟩:=x;obtain⟨Z,b',M⟩:=y;simp only[tq,eJ,AV.agg.injEq,AV.int.injEq,aW,kN]at h;obtain⟨m,rfl,rfl⟩:=h;rw[St.inj m]
noncomputable def BV:En:=⟨50,true,co (fun y=>y.x.sz<2^36) sq fun y=>.agg (ge y.x y.how y.a).cells⟩
def T3:dI prog ρ BV:=dT fun y hy=>zgh ρ y hy
noncomputable def KB:qC:=[vH,BV]
def zgi:gT prog ρ KB:=⟨EP ρ,T3 ρ,trivial⟩
def KC(H:Hp)(a b c d e:qA):de prog H 59 5 [(0,.aj a),(1,.aj b),(2,.aj c),(3,.aj d),(4,.aj e)]=some (.sl H.next 0 5 1,H.alloc (.cells ([a,b,c,d,e].map .aj) 0 true)):=ax
def zgj(H:Hp)(a b c d e:Int):de prog H 23 5 [(0,.int .i64 a),(1,.int .i64 b),(2,.int .i64 c),(3,.int .i64 d),(4,.int .i64 e)]=some (.sl H.next 0 5 1,H.alloc (.cells ([a,b,c,d,e].map (.int .i64)) 0 true)):=ax
def zgk(r m:Nat)(Z:0<=n)(h1:n.toNat<m):el prog 23 (.sl r 0 m 1) (.int .i64 n)=some (.ptr r n.toNat):=by
 rw[H0 _ _ _ _ Z,kS h1];simp
def T4(r m:Nat)(Z:0<=n)(h1:n.toNat<m):el prog 60 (.sl r 0 m 17) (.int .i64 n)=some (.ptr r (n.toNat*17)):=by
 rw[MQ _ _ _ _ Z,kS h1];simp
theorem zgl(l:qy)(h1:n.toNat<l.length):(l.map (AV.int .i64))[n.toNat]?=some (.int .i64 (l.getD n.toNat 0)):=by
 rw[eI,gU,bj h1];rfl
def T5(H:Hp):de prog H 60 0 []=some (.sl H.next 0 0 17,H.alloc qf):=ax
def T6:dd prog 96 [(0,.int .i64 7)]=some (.agg [.int .i64 7,.aj [],.aj [],.int .i64 0,.int .i64 0,.int .i64 0,.aj [],.int .i64 0,.ag,.int .i64 0,.int .i64 0,.aj [],.int .i64 0,.ag,.ag,.ag,.ag]):=ax
def T7(n:Int):dd prog 96 [(0,.int .i64 7),(3,.int .i64 n)]=some (.agg [.int .i64 7,.aj [],.aj [],.int .i64 n,.int .i64 0,.int .i64 0,.aj [],.int .i64 0,.ag,.int .i64 0,.int .i64 0,.aj [],.int .i64 0,.ag,.ag,.ag,.ag]):=ax
def BW(H:Hp)(c0 O Y U Z j m V C M J I z d3 d4 d5 d6:AV):de prog H 60 1 [(0,.agg [c0,O,Y,U,Z,j,m,V,C,M,J,I,z,d3,d4,d5,d6])]=some (.sl H.next 0 1 17,H.alloc (.cells [c0,O,Y,U,Z,j,m,V,C,M,J,I,z,d3,d4,d5,d6] 0 true)):=ax
theorem zg(c0 O Y U Z j m V C M J I z d3 d4 d5 d6:AV):cq 17 [c0,O,Y,U,Z,j,m,V,C,M,J,I,z,d3,d4,d5,d6]=some (.agg [c0,O,Y,U,Z,j,m,V,C,M,J,I,z,d3,d4,d5,d6]):=rfl
theorem zgm(c0 O V U Z j m Y C M J I z d3 d4 d5 d6:AV):cq 5 (List.drop 4 [c0,O,V,U,Z,j,m,Y,C,M,J,I,z,d3,d4,d5,d6])=some (.agg [Z,j,m,Y,C]):=rfl
theorem zgn(c0 O Y U Z V m J c8 M j C I z d4 d5 d6:AV):cq 5 (List.drop 9 [c0,O,Y,U,Z,V,m,J,c8,M,j,C,I,z,d4,d5,d6])=some (.agg [M,j,C,I,z]):=rfl
theorem zgo(Z j m Y C M V U I z O J d6:AV):cq 5 [Z,j,m,Y,C,M,V,U,I,z,O,J,d6]=some (.agg [Z,j,m,Y,C]):=rfl
theorem zgp(M j C I z Y Z V:AV):cq 5 [M,j,C,I,z,Y,Z,V]=some (.agg [M,j,C,I,z]):=rfl
def KD{n:Nat}(e:Ex):b9 S (n+1) H [.int .i64 e.am,.int .i64 e.n,.aj e.name,.int .i64 e.op,.az (e.ao.map Ex.cells)] e.cells:=by
 cases e;exact vJ _ _ _ _ (lD _)
def pA(k n:Int)(nm J:qA)(e v:Ex){Y M O:AV}{V:qI}{Z z:qD}(h1:fb S (m+1) H Y (.az (V.map Ex.cells)))(h2:fb S (m+1) H M (.az (Z.map St.cells)))(C:fb S (m+1) H O (.az (z.map St.cells)))(I:m<=57):
 ∃U u,iceV H U (.agg [.int .i64 k,.aj nm,.aj J,.int .i64 n,.int .i64 e.am,.int .i64 e.n,.aj e.name,.int .i64 e.op,.az (e.ao.map Ex.cells),.int .i64 v.am,.int .i64 v.n,.aj v.name,.int .i64 v.op,.az (v.ao.map Ex.cells),Y,M,O])=some u/\bY 60 u=.agg (St.mk k nm J n e v V Z z).cells:=
 (pw k nm J n (KD e) (KD v) h1 h2 C).fS ac
theorem zgq:∀y:MuB,y.x.sz<2^36->bX prog ρ 51 (tq y) (.agg (jF y.x y.how y.a).cells):=
 TX (zgi ρ) (fun y=>y.x.sz) (ok:=fun y=>y.x.sz<2^36) (enc:=tq) (out:=fun y=>.agg (jF y.x y.how y.a).cells) (fun y _=>.cons (.agg y.x.pure) (.cons (.int _ _) (.cons (.int _ _) .nil))) (fun y hx=>by
 have hw:=uc (sz:=fun y:MuB=>y.x.sz) (ok:=fun y=>y.x.sz<2^36) (out:=fun y=>.agg (jF y.x y.how y.a).cells) KA (f:=51) (l:=KB) y;generalize hl:(⟨51,false,co (fun z=>z.x.sz<2^36/\z.x.sz<y.x.sz) tq fun y=>.agg (jF y.x y.how y.a).cells⟩:En)::KB=l at hw⊢;obtain⟨x,J,a⟩:=y;simp only at hx hl hw⊢;have kr:∀(y:St) (h b:Int),y.sz<x.sz->∀H,aR prog (au pls l) 51 [.agg y.cells,.int .i64 h,.int .i64 b] H fun v H'=>v=.agg (jF y h b).cells/\H'=H:=fun y h b h2 H=>by
  subst hl;exact cV (enc:=tq) (out:=fun y=>.agg (jF y.x y.how y.a).cells) KA (x:=⟨y,h,b⟩) rfl ⟨show y.sz<2^36 by omega,h2⟩
 have ke:∀(y:Ex) (h b:Int),y.sz<2^36->∀H,aR prog (au pls l) 50 [.agg [.int .i64 y.am,.int .i64 y.n,.aj y.name,.int .i64 y.op,.az (y.ao.map Ex.cells)],.int .i64 h,.int .i64 b] H fun v H'=>v=.agg [.int .i64 (ge y h b).am,.int .i64 (ge y h b).n,.aj (ge y h b).name,.int .i64 (ge y h b).op,.az ((ge y h b).ao.map Ex.cells)]/\H'=H:=fun y h b h2 H=>by
  rw[<-j0,<-j0];subst hl;exact cV (enc:=sq) (out:=fun y=>.agg (ge y.x y.how y.a).cells) Gb (x:=⟨y,h,b⟩) rfl h2
 have kp:∀n m:Int,m≠0->∀H,aR prog (au pls l) 12 [.int .i64 n,.int .i64 m] H fun v H'=>v=.int .i64 (bc n m)/\H'=H:=fun n m h H=>by
  subst hl;exact cV (enc:=po) (ok:=fun x=>x.2≠0) (out:=fun x=>.int .i64 (bc x.1 x.2)) EO (x:=(n,m)) rfl h
 have hkeep:(au pls l).keep 51=false:=rfl;clear hl;have hsz:=x.aV;have hlen:=mY x.args;have hlen2:=mZ x.bl;have hlen3:=mZ x.bA;have hq:=fE (n:=J) (m:=13) ac ac;have h6:=fE (n:=a) (m:=6) ac ac;have h5:=fE (n:=a) (m:=5) ac ac;have h13:(13:Int)≠0:=aH;have h3:(3:Int)≠0:=aH;generalize I:jF x J a=R;obtain⟨k,nm,to,n,e,v,V,Z,Y⟩:=x;rw[jF]at I;have e17:(St.mk k nm to n e v V Z Y).cells=[.int .i64 k,.aj nm,.aj to,.int .i64 n,.int .i64 e.am,.int .i64 e.n,.aj e.name,.int .i64 e.op,.az (e.ao.map Ex.cells),.int .i64 v.am,.int .i64 v.n,.aj v.name,.int .i64 v.op,.az (v.ao.map Ex.cells),.az (V.map Ex.cells),.az (Z.map St.cells),.az (Y.map St.cells)]:=jZ;change aR _ _ _ [.agg (St.mk k nm to n e v V Z Y).cells,.int .i64 J,.int .i64 a] _ _;change zii _ _ [.agg (St.mk k nm to n e v V Z Y).cells,.int .i64 J,.int .i64 a]at hw;rw[e17]at hw⊢;clear e17;simp only[St.args,St.bl,St.bA]at hsz hlen hlen2 hlen3;have hse:e.sz<2^36:=by simp only[St.sz]at hx;omega
 have hsv:v.sz<2^36:=by simp only[St.sz]at hx;omega
 have hn1:=vY Ge (n:=bc a 6) FT;have hn2:=vY Gf (n:=bc a 5) FU;have hn3:=zgl Kz (n:=bc a 5) FU;have hi6:=fun r=>vX r 6 h6.1 ac;have hi5:=fun r=>vX r 5 h5.1 ac;have hi5':=fun r=>zgk r 5 h5.1 ac;have h60:=h6.1;have h50:=h5.1;have hb6:=fun H=>Gc H [120] [113] [97] [102] [] [116,114,97,112];change ∀H,de _ H _ _ _=some (_,H.alloc (.cells (Ge.map .aj) 0 true))at hb6;have hb5:=fun H=>KC H [102] [103] [104] [] [97];change ∀H,de _ H _ _ _=some (_,H.alloc (.cells (Gf.map .aj) 0 true))at hb5;have hb5':=fun H=>zgj H 0 1 (-1) 1000000 1000001;change ∀H,de _ H _ _ _=some (_,H.alloc (.cells (Kz.map (.int .i64)) 0 true))at hb5';have kpl:∀n:Int,(0:Int)<Z.length->∀H,aR prog (au pls l) 12 [.int .i64 n,.int .i64 (Z.length:Int)] H fun v H'=>v=.int .i64 (bc n Z.length)/\H'=H:=fun n h H=>kp n _ ac H;refine bp (M:=125) (rs:=[.cell 6 96]) hw.call hw.aG hw.aB func51 rfl rfl T1.2 rfl ?_;dsimp only[T1,bm,Nat.reduceAdd];have gh0:=@zg;have gh1:=@zgm;have gh2:=@zgn;have gh3:=@zgo;have gh4:=@zgp;have gh5:=@T5;have gh6:=@T6;have gh7:=@T7;have gh8:=@BW;repeat' (first
  |(apply aj ?_;clear hK K)|apply Ry.o ?_|apply iS ?_|(apply iz ?_;first|refine bK (kp _ _ aH _) ?_|refine bK (kpl _ ac _) ?_|refine bK (ke e _ _ hse _) ?_|refine bK (ke v _ _ hsv _) ?_)|(apply bu (fun hb hbp=>?_) (fun hb hbp=>?_)<;>try(cases hb;done))|apply cW ?_|(apply am fun K hK=>?_)|apply dX ?_|apply fA ?_|apply gJ ?_)
 .refine⟨aB,_,(by(try simp only[aG,aY,Nat.reduceBEq,tyF,cF,cR, *]);first|done|with_reducible rfl),?_⟩;try simp only[aA]
  rw[ai ac]at I;subst I;exact pA (S:=fun _=>True) (m:=0) _ _ _ _ e v (lD V) (jr Z) (jr Y) ac
 .refine⟨aB,_,(by(try simp only[aG,aY,Nat.reduceBEq,Nat.reduceAdd,tyF,cF,cR, *]);first|done|with_reducible rfl),?_⟩;try simp only[aA]
  rw[af ac,ai ac]at I;subst I;exact pA (S:=fun _=>True) (m:=0) _ _ _ _ e v (lD V) (jr Z) (jr Y) ac
 .refine⟨aB,_,(by(try simp only[aG,aY,Nat.reduceBEq,Nat.reduceAdd,tyF,cF,cR, *]);first|done|with_reducible rfl),?_⟩;try simp only[aA]
  rw[af ac,af ac,ai ac]at I;subst I;exact pA (S:=fun _=>True) (m:=0) _ _ _ _ e v (lD V) (jr Z) (jr Y) ac
 .refine⟨aB,_,(by(try simp only[aG,aY,Nat.reduceBEq,Nat.reduceAdd,tyF,cF,cR, *]);first|done|with_reducible rfl),?_⟩;try simp only[aA]
  rw[af ac,af ac,af ac,ai ac]at I;subst I;exact pA (S:=fun _=>True) (m:=0) _ _ _ _ e v (lD V) (jr Z) (jr Y) ac
 .refine⟨aB,_,(by(try simp only[aG,aY,Nat.reduceBEq,tyF,cF,cR, *]);first|done|with_reducible rfl),?_⟩;try simp only[aA]
  rw[af ac,af ac,af ac,af ac,ai ac]at I;subst I;exact pA (S:=fun _=>True) (m:=0) _ _ _ _ (ge e (bB (J.tdiv 13)) a) v (lD V) (jr Z) (jr Y) ac
 .refine⟨aB,_,(by(try simp only[aG,aY,Nat.reduceBEq,tyF,cF,cR, *]);first|done|with_reducible rfl),?_⟩;try simp only[aA]
  rw[af ac,af ac,af ac,af ac,af ac,ai ac]at I;subst I;exact pA (S:=fun _=>True) (m:=0) _ _ _ _ e (ge v (bB (J.tdiv 13)) a) (lD V) (jr Z) (jr Y) ac
 .rw[af ac,af ac,af ac,af ac,af ac,af ac,ai ac]at I;generalize U:Hp.alloc (Hp.alloc (Hp.alloc bt _) _) _=j;have nb:j.next=3:=yr
  have g0:j.get 0=some (.cells [.int .i64 k,.aj nm,.aj to,.int .i64 n,.int .i64 e.am,.int .i64 e.n,.aj e.name,.int .i64 e.op,.az (e.ao.map Ex.cells),.int .i64 v.am,.int .i64 v.n,.aj v.name,.int .i64 v.op,.az (v.ao.map Ex.cells),.az (V.map Ex.cells),.az (Z.map St.cells),.az (Y.map St.cells)] 0 true):=ru;have g1:j.get 1=some qi:=ru;have g2:j.get 2=some qf:=ru;clear U;obtain⟨C,O,a4,gq,hq',lq,n4,n4',o4⟩:=zd (P:=prog) (t:=61) underlying61 tV wP wQ rfl ax g2 ac (rows:=V.map Ex.cells) (BT V) (FZ V) kI kI;simp only[dx]at a4;have h0:O.get 0=some (.cells [.int .i64 k,.aj nm,.aj to,.int .i64 n,.int .i64 e.am,.int .i64 e.n,.aj e.name,.int .i64 e.op,.az (e.ao.map Ex.cells),.int .i64 v.am,.int .i64 v.n,.aj v.name,.int .i64 v.op,.az (v.ao.map Ex.cells),.az (V.map Ex.cells),.az (Z.map St.cells),.az (Y.map St.cells)] 0 true):=za;have h1:O.get 1=some qi:=zb;have lo:2<=C:=ac;have n40:3<=O.next:=ac
  clear nb g0 g1 g2 o4 n4 n4' hq';have e2:(C == 0)=false:=ak ac;have e3:(0 == C)=false:=ak ac;have e4:(1 == C)=false:=ak ac;have e0:(0 == O.next)=false:=ak ac;have e1:(1 == O.next)=false:=ak ac;repeat' (first
   |apply Rx.o ?_|fail)
  obtain⟨v5,H5,a5,s5,n5,f5,q5⟩:=yG (P:=prog) (t:=61) underlying61 tV wP wQ rfl ax (lo:=2) (n:=1) (H:=O.alloc qt) (v:=.sl C 0 V.length 5) (ws:=V.map Ex.cells) (.inr ⟨C,0,V.map Ex.cells,Bi,lo,cB,FV,cZ _,di.eT V⟩) cB (r:=O.next) (imm:=0) (row:=[.int .i64 1,.int .i64 0,.aj [],.int .i64 0,.ag]) (w:=vW.cells) fc rfl rfl (pp 1 0 0 []) kI kI;have h05:H5.get 0=some (.cells [.int .i64 k,.aj nm,.aj to,.int .i64 n,.int .i64 e.am,.int .i64 e.n,.aj e.name,.int .i64 e.op,.az (e.ao.map Ex.cells),.int .i64 v.am,.int .i64 v.n,.aj v.name,.int .i64 v.op,.az (v.ao.map Ex.cells),.az (V.map Ex.cells),.az (Z.map St.cells),.az (Y.map St.cells)] 0 true):=FW;have h15:H5.get 1=some qi:=FX;obtain⟨t1,t2⟩:=s5.one;clear f5 q5 n5 h0 h1;have gh0:=@zg;repeat' (first
   |(apply aj ?_;clear hK K)|apply Rx.o ?_|apply jc ?_|apply cW ?_|(apply am fun K hK=>?_)|apply gJ ?_)
  refine⟨aB,_,(by(try simp only[aG,aY,Nat.reduceBEq,tyF,cF,cR, *]);first|done|with_reducible rfl),?_⟩;try simp only[aA]
  subst I;refine pA (S:=fun k=>2<=k) (m:=1) _ _ _ _ e v ?_ (jr Z) (jr Y) ac;rw[oP];exact s5.rd.aO (fun _ _ h=>h) (ay _) fun k h1 h2=>vT
 .refine⟨aB,_,(by(try simp only[aG,aY,Nat.reduceBEq,tyF,cF,cR, *]);first|done|with_reducible rfl),?_⟩;try simp only[aA]
  rw[af ac,af ac,af ac,af ac,af ac,af ac,af ac,ai ac]at I;subst I;exact pA (S:=fun _=>True) (m:=0) _ _ _ _ e v .ag (jr Z) (jr Y) ac
 .rw[af ac,af ac,af ac,af ac,af ac,af ac,af ac,af ac,ai ac]at I;generalize U:Hp.alloc (Hp.alloc (Hp.alloc bt _) _) _=j;have nb:j.next=3:=yr
  have g0:j.get 0=some (.cells [.int .i64 k,.aj nm,.aj to,.int .i64 n,.int .i64 e.am,.int .i64 e.n,.aj e.name,.int .i64 e.op,.az (e.ao.map Ex.cells),.int .i64 v.am,.int .i64 v.n,.aj v.name,.int .i64 v.op,.az (v.ao.map Ex.cells),.az (V.map Ex.cells),.az (Z.map St.cells),.az (Y.map St.cells)] 0 true):=ru;have g1:j.get 1=some qi:=ru;have g2:j.get 2=some qf:=ru;clear U;obtain⟨C,O,a4,gq,hq',lq,n4,n4',o4⟩:=zd (P:=prog) (t:=60) underlying60 rM tW wS rfl ax g2 ac (rows:=Y.map St.cells) (BU Y) (Gd Y) kI kI;simp only[dx]at a4;have h0:O.get 0=some (.cells [.int .i64 k,.aj nm,.aj to,.int .i64 n,.int .i64 e.am,.int .i64 e.n,.aj e.name,.int .i64 e.op,.az (e.ao.map Ex.cells),.int .i64 v.am,.int .i64 v.n,.aj v.name,.int .i64 v.op,.az (v.ao.map Ex.cells),.az (V.map Ex.cells),.az (Z.map St.cells),.az (Y.map St.cells)] 0 true):=za;have h1:O.get 1=some qi:=zb;have lo:2<=C:=ac;have n40:3<=O.next:=ac
  clear nb g0 g1 g2 o4 n4 n4' hq';have e2:(C == 0)=false:=ak ac;have e3:(0 == C)=false:=ak ac;have e4:(1 == C)=false:=ak ac;have e0:(0 == O.next)=false:=ak ac;have e1:(1 == O.next)=false:=ak ac;have gh0:=@T6;have gh1:=@BW;repeat' (first
   |apply Rx.o ?_|fail)
  obtain⟨v5,H5,a5,s5,n5,f5,q5⟩:=yG (P:=prog) (t:=60) underlying60 rM tW wS rfl ax (lo:=2) (n:=1) (H:=O.alloc (.cells [.int .i64 7,.aj [],.aj [],.int .i64 0,.int .i64 0,.int .i64 0,.aj [],.int .i64 0,.ag,.int .i64 0,.int .i64 0,.aj [],.int .i64 0,.ag,.ag,.ag,.ag] 0 true)) (v:=.sl C 0 Y.length 17) (ws:=Y.map St.cells) (.inr ⟨C,0,Y.map St.cells,Bi,lo,cB,FV,cZ _,di.eV Y⟩) cB (r:=O.next) (imm:=0) (row:=[.int .i64 7,.aj [],.aj [],.int .i64 0,.int .i64 0,.int .i64 0,.aj [],.int .i64 0,.ag,.int .i64 0,.int .i64 0,.aj [],.int .i64 0,.ag,.ag,.ag,.ag]) (w:=(vZ 0).cells) fc rfl rfl (pw 7 [] [] 0 nF nF .ag .ag .ag) kI kI;have h05:H5.get 0=some (.cells [.int .i64 k,.aj nm,.aj to,.int .i64 n,.int .i64 e.am,.int .i64 e.n,.aj e.name,.int .i64 e.op,.az (e.ao.map Ex.cells),.int .i64 v.am,.int .i64 v.n,.aj v.name,.int .i64 v.op,.az (v.ao.map Ex.cells),.az (V.map Ex.cells),.az (Z.map St.cells),.az (Y.map St.cells)] 0 true):=FW;have h15:H5.get 1=some qi:=FX;obtain⟨t1,t2⟩:=s5.one;clear f5 q5 n5 h0 h1;have gh0:=@zg;repeat' (first
   |(apply aj ?_;clear hK K)|apply Rx.o ?_|apply jc ?_|apply cW ?_|(apply am fun K hK=>?_)|apply gJ ?_)
  refine⟨aB,_,(by(try simp only[aG,aY,Nat.reduceBEq,tyF,cF,cR, *]);first|done|with_reducible rfl),?_⟩;try simp only[aA]
  subst I;refine pA (S:=fun k=>2<=k) (m:=1) _ _ _ _ e v ((lD (n:=1) V)) (jr Z) ?_ ac;rw[oP];exact s5.rd.aO (fun _ _ h=>h) (ay _) fun k h1 h2=>vT
 .rw[af ac,af ac,af ac,af ac,af ac,af ac,af ac,af ac,af ac,ai ac]at I;generalize U:Hp.alloc (Hp.alloc (Hp.alloc bt _) _) _=j;have nb:j.next=3:=yr
  have g0:j.get 0=some (.cells [.int .i64 k,.aj nm,.aj to,.int .i64 n,.int .i64 e.am,.int .i64 e.n,.aj e.name,.int .i64 e.op,.az (e.ao.map Ex.cells),.int .i64 v.am,.int .i64 v.n,.aj v.name,.int .i64 v.op,.az (v.ao.map Ex.cells),.az (V.map Ex.cells),.az (Z.map St.cells),.az (Y.map St.cells)] 0 true):=ru;have g1:j.get 1=some qi:=ru;have g2:j.get 2=some qf:=ru;clear U;obtain⟨C,O,a4,gq,hq',lq,n4,n4',o4⟩:=zd (P:=prog) (t:=60) underlying60 rM tW wS rfl ax g2 ac (rows:=Z.map St.cells) (BU Z) (Gd Z) kI kI;simp only[dx]at a4;have h0:O.get 0=some (.cells [.int .i64 k,.aj nm,.aj to,.int .i64 n,.int .i64 e.am,.int .i64 e.n,.aj e.name,.int .i64 e.op,.az (e.ao.map Ex.cells),.int .i64 v.am,.int .i64 v.n,.aj v.name,.int .i64 v.op,.az (v.ao.map Ex.cells),.az (V.map Ex.cells),.az (Z.map St.cells),.az (Y.map St.cells)] 0 true):=za;have h1:O.get 1=some qi:=zb;have lo:2<=C:=ac;have n40:3<=O.next:=ac
  clear nb g0 g1 g2 o4 n4 n4' hq';have e2:(C == 0)=false:=ak ac;have e3:(0 == C)=false:=ak ac;have e4:(1 == C)=false:=ak ac;have e0:(0 == O.next)=false:=ak ac;have e1:(1 == O.next)=false:=ak ac;have gh0:=@T7;have gh1:=@BW;repeat' (first
   |apply Rx.o ?_|(apply eu ?_;first|refine bK (kp _ _ aH _) ?_)|fail)
  obtain⟨v5,H5,a5,s5,n5,f5,q5⟩:=yG (P:=prog) (t:=60) underlying60 rM tW wS rfl ax (lo:=2) (n:=1) (H:=O.alloc (.cells [.int .i64 7,.aj [],.aj [],.int .i64 (bc a 3),.int .i64 0,.int .i64 0,.aj [],.int .i64 0,.ag,.int .i64 0,.int .i64 0,.aj [],.int .i64 0,.ag,.ag,.ag,.ag] 0 true)) (v:=.sl C 0 Z.length 17) (ws:=Z.map St.cells) (.inr ⟨C,0,Z.map St.cells,Bi,lo,cB,FV,cZ _,di.eV Z⟩) cB (r:=O.next) (imm:=0) (row:=[.int .i64 7,.aj [],.aj [],.int .i64 (bc a 3),.int .i64 0,.int .i64 0,.aj [],.int .i64 0,.ag,.int .i64 0,.int .i64 0,.aj [],.int .i64 0,.ag,.ag,.ag,.ag]) (w:=(vZ (bc a 3)).cells) fc rfl rfl (pw 7 [] [] (bc a 3) nF nF .ag .ag .ag) kI kI;have h05:H5.get 0=some (.cells [.int .i64 k,.aj nm,.aj to,.int .i64 n,.int .i64 e.am,.int .i64 e.n,.aj e.name,.int .i64 e.op,.az (e.ao.map Ex.cells),.int .i64 v.am,.int .i64 v.n,.aj v.name,.int .i64 v.op,.az (v.ao.map Ex.cells),.az (V.map Ex.cells),.az (Z.map St.cells),.az (Y.map St.cells)] 0 true):=FW;have h15:H5.get 1=some qi:=FX;obtain⟨t1,t2⟩:=s5.one;clear f5 q5 n5 h0 h1;have gh0:=@zg;repeat' (first
   |(apply aj ?_;clear hK K)|apply Rx.o ?_|apply jc ?_|apply cW ?_|(apply am fun K hK=>?_)|apply gJ ?_)
  refine⟨aB,_,(by(try simp only[aG,aY,Nat.reduceBEq,tyF,cF,cR, *]);first|done|with_reducible rfl),?_⟩;try simp only[aA]
  subst I;refine pA (S:=fun k=>2<=k) (m:=1) _ _ _ _ e v ((lD (n:=1) V)) ?_ (jr Y) ac;rw[oP];exact s5.rd.aO (fun _ _ h=>h) (ay _) fun k h1 h2=>vT
 .rw[af ac,af ac,af ac,af ac,af ac,af ac,af ac,af ac,af ac,af ac,ai ac]at I;generalize U:Hp.alloc (Hp.alloc (Hp.alloc bt _) _) _=j;have nb:j.next=3:=yr
  have g0:j.get 0=some (.cells [.int .i64 k,.aj nm,.aj to,.int .i64 n,.int .i64 e.am,.int .i64 e.n,.aj e.name,.int .i64 e.op,.az (e.ao.map Ex.cells),.int .i64 v.am,.int .i64 v.n,.aj v.name,.int .i64 v.op,.az (v.ao.map Ex.cells),.az (V.map Ex.cells),.az (Z.map St.cells),.az (Y.map St.cells)] 0 true):=ru;have g1:j.get 1=some qi:=ru;have g2:j.get 2=some qf:=ru;clear U;obtain⟨C,O,a4,gq,hq',lq,n4,n4',o4⟩:=zd (P:=prog) (t:=60) underlying60 rM tW wS rfl ax g2 ac (rows:=Z.map St.cells) (BU Z) (Gd Z) kI kI;simp only[dx]at a4;have h0:O.get 0=some (.cells [.int .i64 k,.aj nm,.aj to,.int .i64 n,.int .i64 e.am,.int .i64 e.n,.aj e.name,.int .i64 e.op,.az (e.ao.map Ex.cells),.int .i64 v.am,.int .i64 v.n,.aj v.name,.int .i64 v.op,.az (v.ao.map Ex.cells),.az (V.map Ex.cells),.az (Z.map St.cells),.az (Y.map St.cells)] 0 true):=za;have h1:O.get 1=some qi:=zb;have lo:2<=C:=ac;have n40:3<=O.next:=ac
  clear nb g0 g1 g2 o4 n4 n4' hq';have e2:(C == 0)=false:=ak ac;have e3:(0 == C)=false:=ak ac;have e4:(1 == C)=false:=ak ac;have e0:(0 == O.next)=false:=ak ac;have e1:(1 == O.next)=false:=ak ac;have hp:=fE (n:=a) (m:=Z.length) ac ac;have hlt:(bc a Z.length).toNat<Z.length:=ac;have hi17:el prog 60 (.sl C 0 Z.length 17) (.int .i64 (bc a Z.length))=some (.ptr C ((bc a Z.length).toNat*17)):=T4 C _ hp.1 hlt;obtain⟨y,hy⟩:∃y,Z[(bc a Z.length).toNat]?=some y:=⟨_,bj hlt⟩;have hrow:(Z.map St.cells)[(bc a Z.length).toNat]?=some y.cells:=by rw[eI,hy];rfl
  have hagg:=FY (BU Z) hrow;have hsm:=my (li hy);have kr1:=fun H=>kr y (bB (J.tdiv 13)) (bB (a.tdiv 3)) (by simp only[St.sz];omega) H;rw[T2 _ _ _ _ _ hy]at I;have gh0:=@zg;repeat' (first
   |(apply aj ?_;clear hK K)|apply Rx.o ?_|apply jc ?_|(apply eu ?_;first|refine bK (kr1 _) ?_)|(apply ci 26 [(1,12),(1,14),(4,12),(7,12)] fun K hK=>?_)|(apply bD ?_;try intro _)|apply eP ?_|apply jL rfl ?_|fail)
  refine x9 dY dY (TW (rows:=Z.map St.cells) rM TT (BU Z) (by rw[dx];exact hlt) (St.a9 _) (St.one _)) ?_;have gh0:=@zg;repeat' (first
   |(apply aj ?_;clear hK K)|apply Rx.o ?_|apply jc ?_|apply cW ?_|(apply am fun K hK=>?_)|(apply bD ?_;try intro _)|(apply ch ?_ ?_<;>clear hK K)|apply gJ ?_)
  .exact cn
  refine⟨aB,_,(by(try simp only[aG,aY,Nat.reduceBEq,tyF,cF,cR, *]);first|done|with_reducible rfl),?_⟩;try simp only[aA]
  subst I;refine pA (S:=fun k=>2<=k) (m:=1) _ _ _ _ e v (lD V) ?_ (jr Y) ac;have hks:(Z.map St.cells).set (bc a Z.length).toNat (jF y (bB (J.tdiv 13)) (bB (a.tdiv 3))).cells=(Z.set (bc a Z.length).toNat (jF y (bB (J.tdiv 13)) (bB (a.tdiv 3)))).map St.cells:=wN.symm;have:=se (S:=fun k=>2<=k) (n:=1) (z:=17) (tip:=true) (imm:=0) (r:=C) (H:=Hp.set (Hp.set (Hp.set O 0 (.cells [.int .i64 k,.aj nm,.aj to,.int .i64 n,.int .i64 e.am,.int .i64 e.n,.aj e.name,.int .i64 e.op,.az (e.ao.map Ex.cells),.int .i64 v.am,.int .i64 v.n,.aj v.name,.int .i64 v.op,.az (v.ao.map Ex.cells),.az (V.map Ex.cells),.sl C 0 Z.length 17,.az (Y.map St.cells)] 0 true)) C (.cells ((Z.map St.cells).set (bc a Z.length).toNat (jF y (bB (J.tdiv 13)) (bB (a.tdiv 3))).cells).flatten 0 true)) 1 (.cells [.int .i64 k,.aj nm,.aj to,.int .i64 n,.int .i64 e.am,.int .i64 e.n,.aj e.name,.int .i64 e.op,.az (e.ao.map Ex.cells),.int .i64 v.am,.int .i64 v.n,.aj v.name,.int .i64 v.op,.az (v.ao.map Ex.cells),.az (V.map Ex.cells),.sl C 0 Z.length 17,.az (Y.map St.cells)] 0 true)) (a:=(Z.set (bc a Z.length).toNat (jF y (bB (J.tdiv 13)) (bB (a.tdiv 3)))).map St.cells) lo lq TU (cZ _) (di.eV _);rw[dx,jQ]at this;exact this
 .refine⟨aB,_,(by(try simp only[aG,aY,Nat.reduceBEq,tyF,cF,cR, *]);first|done|with_reducible rfl),?_⟩;try simp only[aA]
  rw[af ac,af ac,af ac,af ac,af ac,af ac,af ac,af ac,af ac,af ac,ai ac]at I;subst I;have hk0:Z=[]:=JY ac;subst hk0;exact pA (S:=fun _=>True) (m:=0) _ _ _ _ e v (lD V) (jr []) (jr Y) ac
 .refine⟨aB,_,(by(try simp only[aG,aY,Nat.reduceBEq,tyF,cF,cR, *]);first|done|with_reducible rfl),?_⟩;try simp only[aA]
  rw[af ac,af ac,af ac,af ac,af ac,af ac,af ac,af ac,af ac,af ac,af ac]at I;subst I;exact pA (S:=fun _=>True) (m:=0) _ _ _ _ e v (lD V) (jr Z) (jr Y) ac)
end
section
section
variable {i:Nat} {pt:Nat -> Nat} {lo b b' n:Nat} {H:Hp} {ra rf:Nat} {x y:Int} {f g:Fu} {pf lf bf:AV} {vf:qu} {pg lg bg:AV} {vg:qu} (h:zd3 i pt lo b b' n H ra rf x y f g pf lf bf vf pg lg bg vg)
include h
def zd3.mv0{H':Hp}(Z:H.next<=H'.next)(z:∀q,lo<=q->q<H.next->H'.get q=H.get q):zd3 i (fun q=>if H.next<=q then 0 else pt q) lo b b' n H' ra rf x y f g pf lf bf vf pg lg bg vg:=by
 obtain⟨I,C,b3⟩:=h.hb;have Y:=h.aK (q:=ra) (by rw[h.cI];decide);have J:=h.aK (q:=rf) (by rw[h.bP];decide);have m:=h.dc;have j:=h.cw;have h3:=h.dm;have M:=h.cI;have lf:=h.bP;exact⟨h.hb,ac,fun q U=>TO,by rw[z ra Y m];exact h.ga,by rw[z rf J j];exact h.gf,ac,ac,by show(if _ then _ else _)=1;rw[af ac];exact M,TP,
  h.F.mv (ay _) (fun q V _ _=>af ac) Z fun q V O _=>z q (h.aK ac) V,h.G.mv (ay _) (fun q V _ _=>af ac) Z fun q V O _=>z q (h.aK ac) V⟩
def zd3.fL{Hb:Hp}(hn:H.next<=Hb.next)(z:∀q,lo<=q->q<H.next->Hb.get q=H.get q){imm:Nat}(hg:Hb.get r=some (.cells [.aj s] imm true))(hN:f.params.length=N)(hl:N<2^30):
 ∃H',cD prog false Hb 59 59 pf (.sl r 0 1 1)=some (.sl Hb.next 0 (N+1) 1,H')/\H'.next=Hb.next+1/\(∀q,q<Hb.next->(H.next<=q\/pt q≠b)->H'.get q=Hb.get q) /\
  ∀m:Hp,m.next=H'.next->(∀q,q≠rf->m.get q=H'.get q)->m.get rf=some (.cells (rr i (gM f.name (.sl Hb.next 0 (N+1) 1) lf bf vf) (gM g.name pg lg bg vg)) 0 true) ->
   zd3 i (fun q=>if H.next<=q then b else pt q) lo b b' n m ra rf x y {f with params:=f.params++[s] } g (.sl Hb.next 0 (N+1) 1) lf bf vf pg lg bg vg:=by
 have hb:=h.hb;have lr:=h.bP;have h2:=h.cw;have h3:=h.dm;obtain⟨H',j,Y,O,b1,b2,b3,a2,J,M⟩:=BS (P:=prog) (t:=59) underlying59 tU u9 vc rfl ax h.F.ps hn (fun q V Z=>z q (h.aK ac) V) hg rfl rfl oC oC;rw[dx,hN]at O M b1 b2;refine⟨H',O,a2,J,fun m V Z I=>?_⟩;refine h.f8 (f.params++[s]) ac (ay _) (fun q h7 h8 I U=>?_) I ?_
 .rw[Z q I,J q ac (.inr U),z q h7 h8]
 .have:=M m rf [.aj s] [.aj s] ac (fun q h6 _=>Z q h6) ac h2 (by rw[Z _ ac];exact b3) rfl ((b9.d0 (n:=0) s).up (Nat.le_of_not_lt fun hlt=>by
   have h0:n=0:=ac;subst h0;obtain⟨C,hu,_⟩:=h.F.vw;have hv:=h.F.len;cases vf with
   |nil=>simp at hv
   |cons v vf=>cases C with
    |nil=>exact hu.elim
    |cons u C=>exact hu.1.elim))
  rw[oP,eK,ym];exact this
def zd3.e0{Hb:Hp}(hn:H.next<=Hb.next)(z:∀q,lo<=q->q<H.next->Hb.get q=H.get q){imm:Nat}(hg:Hb.get r=some (.cells [.aj s] imm true))(hN:f.ak.length=N)(hl:N<2^30):
 ∃H',cD prog false Hb 59 59 lf (.sl r 0 1 1)=some (.sl Hb.next 0 (N+1) 1,H')/\H'.next=Hb.next+1/\(∀q,q<Hb.next->(H.next<=q\/pt q≠b+1)->H'.get q=Hb.get q) /\
  ∀m:Hp,m.next=H'.next->(∀q,q≠rf->m.get q=H'.get q)->m.get rf=some (.cells (rr i (gM f.name pf (.sl Hb.next 0 (N+1) 1) bf vf) (gM g.name pg lg bg vg)) 0 true) ->
   zd3 i (fun q=>if H.next<=q then b+1 else pt q) lo b b' n m ra rf x y {f with ak:=f.ak++[s] } g pf (.sl Hb.next 0 (N+1) 1) bf vf pg lg bg vg:=by
 have hb:=h.hb;have lr:=h.bP;have h2:=h.cw;have h3:=h.dm;obtain⟨H',j,Y,O,b1,b2,b3,a2,J,M⟩:=BS (P:=prog) (t:=59) underlying59 tU u9 vc rfl ax h.F.ls hn (fun q V Z=>z q (h.aK ac) V) hg rfl rfl oC oC;rw[dx,hN]at O M b1 b2;refine⟨H',O,a2,J,fun m V Z I=>?_⟩;refine h.f9 (f.ak++[s]) ac (ay _) (fun q h7 h8 I U=>?_) I ?_
 .rw[Z q I,J q ac (.inr U),z q h7 h8]
 .have:=M m rf [.aj s] [.aj s] ac (fun q h6 _=>Z q h6) ac h2 (by rw[Z _ ac];exact b3) rfl ((b9.d0 (n:=0) s).up (Nat.le_of_not_lt fun hlt=>by
   have h0:n=0:=ac;subst h0;obtain⟨C,hu,_⟩:=h.F.vw;have hv:=h.F.len;cases vf with
   |nil=>simp at hv
   |cons v vf=>cases C with
    |nil=>exact hu.elim
    |cons u C=>exact hu.1.elim))
  rw[oP,eK,ym];exact this
def zd3.e4{Hb:Hp}(hn:H.next<=Hb.next)(hk:∀q,lo<=q->q<H.next->Hb.get q=H.get q){imm:Nat}{row:qu}(hg:Hb.get r=some (.cells row imm true))(Y:row.length=17)(V:row.all AV.one=true)(hN:f.body.length=N)(hl:N<2^30):
 ∃H' j Z,cD prog false Hb 60 60 bf (.sl r 0 1 17)=some (.sl Hb.next 0 (N+1) 17,H')/\H'.get Hb.next=some (.cells (j++row) Z true)/\Z<=N*17/\(j++row).length=N*17+17/\(j++row).take (N*17)=j/\(j++row).drop (N*17+17)=[]/\H'.next=Hb.next+1/\(∀q,q<Hb.next->(H.next<=q\/pt q≠b+2)->H'.get q=Hb.get q) /\
  ∀(m:Hp) (U:qu) (w:St),m.next=H'.next->(∀q,q≠rf->q<Hb.next->m.get q=H'.get q)->m.get Hb.next=some (.cells (j++U) Z true)->U.length=17->b9 (fun q=>H.next<=q/\q<Hb.next) n Hb U w.cells->m.get rf=some (.cells (rr i (gM f.name pf lf (.sl Hb.next 0 (N+1) 17) vf) (gM g.name pg lg bg vg)) 0 true) ->
   zd3 i (fun q=>if H.next<=q then b+2 else pt q) lo b b' n m ra rf x y {f with body:=f.body++[w] } g pf lf (.sl Hb.next 0 (N+1) 17) vf pg lg bg vg:=by
 have hb:=h.hb;have lr:=h.bP;have h2:=h.cw;have h3:=h.dm;obtain⟨H',j,Z,a1,z,b2,b3,a2,a3,a4⟩:=BS (P:=prog) (t:=60) underlying60 rM tW Ss cM ax h.F.bo hn (fun q h4 O=>hk q (h.aK ac) h4) hg Y V oC oC;rw[dx,hN]at a1 a4 z b2;refine⟨H',j,Z,a1,b3,b2,by rw[iR,z,Y],by rw[<-z,List.take_left],mH (by rw[iR];omega),a2,a3,fun m U w h4 O h6 J M I=>?_⟩;refine h.fq (f.body++[w]) ac (ay _) (fun q J M I C=>?_) I ?_
 .rw[O q I ac,a3 q ac (.inr C),hk q J M]
 .have:=a4 m rf U w.cells ac O ac h2 h6 J M;rw[oP,eK,ym];exact this
def zd3.eX:cU (fun q=>pt q≠0/\q≠ra) (n+1) H 9 (.sl rf 0 2 9) ((ir i x y f g).funcs.map Fu.cells):=by
 obtain⟨Y,O,M⟩:=h.hb;have I:=h.bP;have z:=h.cI;have U:=h.F.row (S:=fun q=>(pt q≠0/\q≠ra)/\q≠rf) fun q m j C=>⟨⟨ac,fun e=>nH⟩,fun e=>nH⟩;have V:=h.G.row (S:=fun q=>(pt q≠0/\q≠ra)/\q≠rf) fun q m j C=>⟨⟨ac,fun e=>nH⟩,fun e=>nH⟩;have J:pt rf≠0/\rf≠ra:=⟨ac,fun e=>h.ne e.symm⟩;have Z:=h.gf;cases i with
 |zero=>exact .inr ⟨rf,0,[gM f.name pf lf bf vf,gM g.name pg lg bg vg],rfl,J,h.cw,by rw[Z];simp[rr],cZ _,⟨h.F.a9 _,U⟩,⟨h.G.a9 _,V⟩,trivial⟩
 |succ i=>exact .inr ⟨rf,0,[gM g.name pg lg bg vg,gM f.name pf lf bf vf],rfl,J,h.cw,by rw[Z];simp[rr],cZ _,⟨h.G.a9 _,V⟩,⟨h.F.a9 _,U⟩,trivial⟩
def zd3.eP:cU (fun q=>q=ra) (n+1) H 2 (.sl ra 0 2 2) ((ir i x y f g).aa.map Ar.cells):=by
 have e:(ir i x y f g).aa.map Ar.cells=[[.aj [97],.int .i64 x],[.aj [98],.int .i64 y]]:=by cases i<;>rfl
 rw[e];exact .inr ⟨ra,0,[[.aj [97],.int .i64 x],[.aj [98],.int .i64 y]],rfl,rfl,h.dc,h.ga,cZ _,⟨rfl,.cons (.aj _) (.cons (.int _ _) .nil)⟩,⟨rfl,.cons (.aj _) (.cons (.int _ _) .nil)⟩,trivial⟩
end
def pB:qA:=[122,122]
def rv(f:Fu):Prop:=f.name≠pB/\cz f.body/\dA f.value
structure MutG (p:Pr):Prop where
 sz:p.sz<2^30
 fn:∀f∈p.funcs,f.name≠pB
 ar:∀a∈p.aa,a.name≠pB
 rg:∀f∈p.funcs,cz f.body/\dA f.value
structure ziq (lo P n:Nat) (H:Hp) (va vb:AV) (p:Pr) (R:Nat->Prop):Prop where
 ne:¬R P
 fy:cU (fun q=>lo<=q/\R q) n H 2 va (p.aa.map Ar.cells)
 gq:cU (fun q=>lo<=q/\¬R q/\q≠P) n H 9 vb (p.funcs.map Fu.cells)
 fw:MutG p
def uH(lo P:Nat)(Z H':Hp):Prop:=∃V O p R,H'.get P=some (.cells [V,O] 0 true)/\P<H'.next/\ziq lo P 50 H' V O p R/\(∀q,q<lo->H'.get q=Z.get q)
def uH.of{V:Nat->Nat}{lo j n:Nat}{Y O:Nat}{x y:Int}{f g:Fu}{pf lf bf:AV}{vf:qu}{pg lg bg:AV}{vg:qu}{P:Nat}{J:Hp}(h:zd3 i V lo b j n H Y O x y f g pf lf bf vf pg lg bg vg)(hP:V P=0)(M:P<H.next)(gp:H.get P=some (.cells [.sl Y 0 2 2,.sl O 0 2 9] 0 true))(old:∀q,q<lo->H.get q=J.get q)(hn:n<=48)
 (h1:f.sz<2^28) (h2:g.sz<2^28) (I:rv f) (z:rv g):uH lo P J H:=by
 have Z:P≠Y:=fun e=>by have:=h.cI;rw[<-e]at this;omega
 refine⟨_,_,ir i x y f g,fun q=>q=Y,gp,M,⟨Z,?_,?_,?_,?_,?_,?_⟩,old⟩
 .exact(h.eP.keep (fun q _ U=>⟨h.aK (by rw[U,h.cI];decide),U⟩) (ay _) fun _ _ _=>rfl).up ac
 .exact(h.eX.keep (fun q _ U=>⟨h.aK U.1,U.2,fun e=>U.1 (by rw[e];exact hP)⟩) (ay _) fun _ _ _=>rfl).up ac
 .cases i<;>simp only[ir,tp,BR,Pr.sz,eA,dO,l8]<;>omega
 .intro f' C;cases i<;>simp only[ir,tp,jh]at C <;>rcases C with rfl|rfl<;>first|exact I.1|exact z.1
 .intro a m;cases i<;>simp only[ir,tp,BR,jh]at m<;>rcases m with rfl|rfl<;>(intro e;cases e)
 .intro f' C;cases i<;>simp only[ir,tp,jh]at C <;>rcases C with rfl|rfl<;>first|exact I.2|exact z.2
end
end Go.Proofs.YtpbcimfiofmoeaaGreat
