/- Lemmas for the last file. -/
import Derived.Test.YtbflaciihaijgaaGEK
set_option linter.all false
set_option maxHeartbeats 32000000
namespace Go.Ab
set_option maxRecDepth 20000
open Go
variable{qd:Prop}
def I2(h:qd:=by have:=R4.o5;dsimp only[Lx.nx]at this;omega):=h
def I3(h:qd:=by have:=N7.sub k z;simp only[bj]at this;omega):=h
def wg(h:qd:=by rw[List.drop_eq_getElem_cons O,List.all_cons]):=h
def wh(h:qd:=by rw[<- J];simp only[get_set,xO,bj,bJ,EB,EC,ED,Nat.add_assoc,Nat.reduceAdd,beq_self_eq_true,cond_true,cond_false,Nat.reduceBEq]):=h
def iS(h:qd:=by first|rfl|trivial):=h
end Go.Ab
namespace Go.Proofs.Ytbflaciihaijgaa
set_option maxRecDepth 20000
open Go Go.Ab Proofs.Try
variable{X:Lx}{S:Nat->Prop}{H H':Hp}{r s:Bd}{n:Nat}{O:AV}{cfg:Cfg}{I:Hp->Prop}{g:FuncId}{q:Ex->Int->Bool}{vs:qm}{o:List (bB×Int)}
section
def tyLoI.tyF:=ad @cJ (ad @cM (ad @eg (ad @dJ (ad @eC (ad @fw (ad @ef (ad @jH (ad @lT (ad @fW (ad @kT (@mH)))))))))))
open tyLoI
noncomputable def I4:{c:SC // aG 16 (f62.body.getD .skip)=c}:=by
 refine⟨?_,?_⟩;rotate_left
 .simp only[f62,bK,aG,bF,bw,bH,bI,Nat.blt,Nat.ble];rfl
def kZ.da{C:Nat->Prop}{Z vv:AV}{bE:Hp}{v:AV}(h:kZ X S vv H r v H')(o:FrL X C Z bE S vv H):kZ X C Z bE r v H':=by
 obtain⟨U,V,I,m,Y⟩:=h;exact⟨U,V,I,m,o.trans Y⟩
section
variable {tb:qs} (hG:zaf tb) {X:Lx} {c:Cx} (hX:zak X c)
set_option maxRecDepth 100000 in
include hG hX in
def TY(IH:∀m,m<n->zo tb X c m){x:St}(h:l8 c n x s=some r)(V:Fin r)(hz:x.sz<2^36)(O:s.vars.length<2^36){lv vv:AV}(W:zab X H S s lv vv):
 aX prog (aK pls tb) 104 [.ptr X.b 0,.agg x.cells] H (kZ X S vv H r):=by
 cases n with
 |zero=>simp[l8]at h
 |succ n=>
 have U:zaa (aK pls tb) 104:=hG.plain cC;have R1:=W.alloc (.cells x.cells 0 true);have F1:=(cf X S vv H).alloc (.cells x.cells 0 true);unfold l8 at h;by_cases J:x.ah=1
 .rw[aB J]at h;simp only[bT]at h;obtain⟨v,o,h⟩:=h;split at h
  .rename_i hl;cases h;exact TJ hG hX J o hl ⟨V.r,V.l,V.n⟩ W
  .cases h
 rw[ao J]at h;by_cases z:x.ah=2
 .rw[aB z]at h;simp only[iy]at h;obtain⟨i,o,v,Y,a,ha,rfl⟩:=h;exact TK hG hX z o Y ha ⟨V.r,V.l,V.n⟩ W
 rw[ao z]at h;by_cases k3:x.ah=3
 .rw[aB k3]at h;simp only[iy]at h;obtain⟨q,o,a,Y,b,I,m,h4,rfl⟩:=h;have Z:=TO hG hX (IH n (ct n)) o Y I h4 ⟨V.r,V.l,V.n⟩ hz O R1;refine bA (M:=155) (rs:=[]) (U.call _) U.aF U.ak func104 rfl rfl jx.2 rfl ?_;dsimp only[jx,bt,Nat.reduceAdd];repeat' (first
   |(apply aj ?_;clear hK K)|apply Ry.o ?_|(apply aY (fun C L=>?_) (fun C L=>?_)<;>try(cases C;done))|apply ai ?_|(apply ah fun K hK=>?_)|apply aq ?_)
  refine qc ?_;refine aL ?_ Z;intro w H2 Y;have I:=Y.da F1;clear Y Z;dsimp only[aI];repeat' (first
   |(apply aj ?_;clear hK K)|apply ai ?_|(apply ah fun K hK=>?_)|apply aq ?_)
  all_goals refine qq ?_
  exact I
 rw[ao k3]at h;by_cases k4:x.ah=4
 .rw[aB k4]at h;cases n with
  |zero=>simp[mR]at h
  |succ n=>
  unfold mR at h;simp only[iy]at h;obtain⟨q,o,b,C,t,Y,d,I,rfl⟩:=h;have Z:=TU hG hX (IH n ac) o C Y I rfl rfl V hz O (TX (s:={ (ay ⟨3,16*(s.loops:Int),[]⟩ q.2).2 with ab:=(ay ⟨3,16*(s.loops:Int),[]⟩ q.2).1}) (v:=q.2.vars) rfl C Y I) R1;refine bA (M:=155) (rs:=[]) (U.call _) U.aF U.ak func104 rfl rfl jx.2 rfl ?_;dsimp only[jx,bt,Nat.reduceAdd];repeat' (first
   |(apply aj ?_;clear hK K)|apply Ry.o ?_|(apply aY (fun C L=>?_) (fun C L=>?_)<;>try(cases C;done))|apply ai ?_|(apply ah fun K hK=>?_)|apply aq ?_)
  refine qc ?_;refine aL ?_ Z;intro w H2 Y;have I:=Y.da F1;clear Y Z;dsimp only[aI];repeat' (first
   |(apply aj ?_;clear hK K)|apply ai ?_|(apply ah fun K hK=>?_)|apply aq ?_)
  all_goals refine qq ?_
  exact I
 rw[ao k4]at h;by_cases k5:x.ah=5
 .rw[aB k5]at h;simp only[iy]at h;obtain⟨v,o,rfl⟩:=h;exact TL hG hX k5 o ⟨V.r,V.l,V.n⟩ W
 rw[ao k5]at h;by_cases k6:x.ah=6
 .rw[aB k6]at h;simp only[bT]at h;obtain⟨av,o,h⟩:=h;split at h
  .rename_i hc;cases h;exact TN hG hX k6 o hc.1 hc.2 hz ⟨V.r,V.l,V.n⟩ W
  .cases h
 rw[ao k6]at h;by_cases k7:x.ah=7
 .rw[aB k7]at h;cases h;exact TM hG k7 V W
 rw[ao k7]at h;cases h;exact lst0 hG J z k3 k4 k5 k6 k7 W
set_option maxRecDepth 100000 in
include hG hX in
theorem I5:∀(N n:Nat),n<N->zo tb X c n
 |0,n,hn=>by omega
 |N+1,n,hn=>fun l s r h hF hz hvl H S lv vv hR=>by
  have hw:zaa (aK pls tb) 62:=hG.plain cC;have hll:=xR l;refine bA (M:=16) (rs:=[]) (hw.call _) hw.aF hw.ak func62 rfl rfl I4.2 rfl ?_;dsimp only[I4,bt,Nat.reduceAdd];repeat' (first
   |(apply aj ?_;clear hK K)|apply Rx.o ?_|apply ai ?_|(apply ah fun K hK=>?_)|apply aq ?_|apply am ?_|apply aw ?_)
  refine dz [0,6,7] [] 8 l.length (fun i E I=>∃m Y o U L,m<=n/\eD c m (l.drop i) Y=some r/\Y.vars.length=s.vars.length/\zab X I o Y U L/\FrL X S vv H o L I) eE ⟨n,s,S,lv,vv,az _,h,rfl,hR,cf _ _ _ _⟩ ?_;rintro i E I hi hcE hrH hnH hsI ⟨m,Y,o,U,L,hm,W,V,Ri,Fi⟩;(try simp only[bN,bO,bu,aM,a0,Nat.reduceBEq,Nat.reduceAdd,Nat.reduceLeDiff,tyF, *]at hcE);(try simp only[bN,bO,bu,aM,a0,Nat.reduceBEq,Nat.reduceAdd,Nat.reduceLeDiff,tyF, *]at hrH);(try simp only[bj,bJ,cL,bX,Nat.reduceAdd]at hnH);by_cases O:i<l.length
  .have z:(i:Int)<l.length:=by omega
   have hgx:l[i]?=some l[i]:=bc O;have hmem:=pG (dU O);cases m with
   |zero=>simp[eD]at W
   |succ m=>
   rw[eM O]at W;unfold eD at W;simp only[bT]at W;obtain⟨q,h1,h2⟩:=W;generalize l[i]=x at *;have hFq:Fin q:=hF.le ((md c m).2.1 _ _ _ h2).1;have hql:=((md c m).1 _ _ _ h1).2;repeat' (first
    |(apply aj ?_;clear hK K)|apply Ry.o ?_|apply bq ?_|(apply aY (fun C Z=>?_) (fun C Z=>?_)<;>try(cases C;done))|apply ai ?_|(apply ah fun K hK=>?_)|apply aq ?_|apply am ?_|apply aw ?_)
   refine qc ?_;refine aL ?_ (TY hG hX (fun k hk=>I5 N k ac) h1 hFq ac ac (Ri.bH _ _));rintro w H3 ⟨S3,lv3,vv3,R3,F3⟩;have F03:=((Fi.bH (.cells [AV.int .i64 0,.ag [],.ag [],.int .i64 0,.int .i64 0,.int .i64 0,.ag [],.int .i64 0,.aa,.int .i64 0,.int .i64 0,.ag [],.int .i64 0,.aa,.aa,.aa,.aa] 0 true) (.cells x.cells 0 true))).trans F3;have n3:I.next+1<=H3.next:=F3.next
   have J:q.vars.length=s.vars.length:=ac;clear hql V;dsimp only[aI];repeat' (first
    |(apply aj ?_;clear hK K)|apply Rx.o ?_|apply ai ?_|(apply ah fun K hK=>?_)|apply aq ?_|apply am ?_|apply aw ?_)
   refine⟨ac,bm,bm,cN,IG,?_⟩;exact⟨m,q,S3,lv3,vv3,ac,h2,J,R3,F03⟩
  .have z:¬(i:Int)<l.length:=by omega
   have hd:l.drop i=[]:=nG ac;rw[hd]at W;cases m with
   |zero=>simp[eD]at W
   |succ m=>
   have W:Y=r:=by unfold eD at W;simpa using W
   subst W;clear V;repeat' (first
    |(apply aj ?_;clear hK K)|apply Ry.o ?_|apply bq ?_|(apply aY (fun C Z=>?_) (fun C Z=>?_)<;>try(cases C;done))|apply ai ?_|(apply ah fun K hK=>?_)|apply aq ?_|apply am ?_|apply aw ?_)
   all_goals refine qq ?_
   exact⟨o,U,L,Ri,Fi⟩
end
end
section
def tyLoJ.tyF:=ad @ef (ad @cJ (ad @cM (ad @jH (ad @lT (ad @Bu (ad @vD (ad @fW (ad @eg (ad @dJ (ad @io (ad @eC (ad @kc (ad @kT (ad @mH (ad @fw (@zj))))))))))))))))
open tyLoJ
noncomputable def I6:{c:SC // aG 94 (f30.body.getD .skip)=c}:=by
 refine⟨?_,?_⟩;rotate_left
 .simp only[f30,bK,aG,bF,bw,bH,bI,Nat.blt,Nat.ble];rfl
def dp:List bB->Nat->List (bB×Int)->List (bB×Int)
 |[],_,m=>m
 |a::l,i,m=>dp l (i+1) (setV m a i)
theorem zt:∀(l:List bB) (a:bB) (i:Nat) (m:List (bB×Int)),dp (l++[a]) i m=setV (dp l i m) a ((i+l.length:Nat):Int)
 |[],a,i,m=>rfl
 |b::l,a,i,m=>by
  rw[mJ,dp,zt l a (i+1),dp,cy,show i+1+l.length=i+(l.length+1) by omega]
theorem zu:∀(n k:Nat) (s:Bd),cV s (gZ n k s)/\(gZ n k s).vars.length=s.vars.length+n
 |0,k,s=>⟨mc s,rfl⟩
 |n+1,k,s=>by
  have e:=zu n (k+1) { (ay ⟨2,k,[]⟩ s).2 with vars:=(ay ⟨2,k,[]⟩ s).2.vars++[(ay ⟨2,k,[]⟩ s).1] };refine⟨(((cR ⟨2,k,[]⟩ s).le.setV _)).trans e.1,?_⟩;show(gZ n (k+1) _).vars.length=_;rw[e.2,em];show s.vars.length+1+n=_;omega
theorem zw:∀(n:Nat) (s:Bd),cV s (jP n s)/\(jP n s).vars.length=s.vars.length+n
 |0,s=>⟨mc s,rfl⟩
 |n+1,s=>by
  have e:=zw n { (ay ⟨1,0,[]⟩ s).2 with vars:=(ay ⟨1,0,[]⟩ s).2.vars++[(ay ⟨1,0,[]⟩ s).1] };refine⟨(((cR ⟨1,0,[]⟩ s).le.setV _)).trans e.1,?_⟩;show(jP n _).vars.length=_;rw[e.2,em];show s.vars.length+1+n=_;omega
abbrev Lx.nx(X:Lx)(ne:List (bB×Int)):Lx:={X with ne:=ne}
def zab.cb{vv:AV}(h:zab X H S s O vv)(ne:List (bB×Int)):zab (X.nx ne) (H.set X.rn (.map (cu ne))) S s O vv:=by
 have Z:=h.o1;have J:=h.o2;have I:=h.o3;have m:=h.o4;have Y:=h.o5;have L:∀k,k≠X.rn->(H.set X.rn (.map (cu ne))).get k=H.get k:=fun k z=>jV;exact⟨by rw[L _ (by show X.b≠_;omega)];exact h.m,by rw[L _ (by show X.ra≠_;omega)];exact h.a,by rw[L _ (by show X.rf≠_;omega)];exact h.f,by rw[L _ (by show X.rt≠_;omega)];exact h.t,eT,h.aP.keep (fun _ _ h=>h) (az _) fun k z _=>L k (by have:=(h.sS k z).1;omega),h.vars.keep (az _) fun k z=>L k (by have:=(h.vS k z).1;omega),Z,J,I,m,Y,h.sS,h.vS⟩
def zab.dn{vv:AV}(h:zab X H S s O vv)(x:Int)(hl:s.vars.length<2^36):
 ∃I H',cY prog false (H.alloc (.cells [.int .i64 x] 0 true)) 22 22 vv (.sl H.next 0 1 1)=some (I,H')/\AV.one I=true/\I.cells=[I]/\H'.get X.b=some (.cells (bC X s O vv) 0 true)/\H'.next=H.next+2/\(∀k,k<H.next->¬bL vv k->H'.get k=H.get k) /\
  zab X (H'.set X.b (.cells (bC X {s with vars:=s.vars++[x] } O I) 0 true)) S {s with vars:=s.vars++[x] } O I /\
  FrL X S vv H S I (H'.set X.b (.cells (bC X {s with vars:=s.vars++[x] } O I) 0 true)):=by
 have o1:=h.o1;have o2:=h.o2;have o3:=h.o3;have o4:=h.o4;have o5:=h.o5;have hv:gD (H.alloc (.cells [.int .i64 x] 0 true)) vv s.vars 0:=h.vars.keep (dB _) fun k Z=>by rw[aJ,ao (by have:=(h.vS k Z).2;omega)]
 have hx:eF (H.alloc (.cells [.int .i64 x] 0 true)) 1 (.sl H.next 0 1 1)=some ([x].length,[x].map (.int .i64)):=ub (m:=[x]) (imm:=0) fx;obtain⟨I,H',a1,M,a3,a4,a5,J⟩:=Hu hv (db _) hx aE co;simp only[bj]at a3 a5 J;have z:∀k,k<H.next->¬bL vv k->H'.get k=H.get k:=fun k o V=>by rw[a5 k ac V,aJ,ao ac]
 have Y:∀k,k<=X.b->¬bL vv k:=fun k Z e=>by have:=(h.vS k e).1;omega
 have U:=gD.one (.inr M);have L:∀k,k≠X.b->(H'.set X.b (.cells (bC X {s with vars:=s.vars++[x] } O I) 0 true)).get k=H'.get k:=fun k Z=>yD;refine⟨I,H',a1,U.1,U.2,by rw[z _ o5 (Y _ (az _))];exact h.m,ac,z,⟨eT,by rw[L _ ac,z _ ac (Y _ ac)];exact h.a,by rw[L _ ac,z _ ac (Y _ ac)];exact h.f,by rw[L _ ac,z _ ac (Y _ ac)];exact h.t,by rw[L _ ac,z _ ac (Y _ ac)];exact h.n,h.aP.keep (fun _ _ h=>h) jt fun k Z h6=>by rw[L k (by have:=(h.sS k Z).1;omega),z k h6 (h.sS k Z).2.2],?_,o1,o2,o3,o4,jt,fun k Z=>⟨(h.sS k Z).1,by have:=(h.sS k Z).2.1;simp only[bJ];omega,fun e=>?_⟩,fun k Z=>?_⟩,⟨jt,fun k o V _ _ h5=>by rw[L k V,z k o h5],fun _ h=>.inl h,fun k Z=>?_⟩⟩
 .have C:gD H' I (s.vars++[x]) 0:=.inr M;exact C.keep (az _) fun k Z=>L k fun e=>by
   rcases J k Z with q|q
   .have:=(h.vS k q).1;omega
   .omega
 .rcases J k e with q|q
  .exact(h.sS k Z).2.2 q
  .have:=(h.sS k Z).2.1;omega
 .have W:k<H'.next:=(gD.lt (.inr M) Z).2
  rcases J k Z with q|q
  .exact⟨(h.vS k q).1,W⟩
  .exact⟨ac,W⟩
 .rcases J k Z with q|q
  .exact .inl q
  .exact .inr ac
structure FrN (X:Lx) (bE:Hp) (S:Nat->Prop) (vv:AV) (H:Hp):Prop where
 next:bE.next<=H.next
 get:∀k,k<bE.next->k≠X.b->k≠X.rt->k≠X.rn->H.get k=bE.get k
 sub:∀k,S k->bE.next<=k
 own:∀k,bL vv k->bE.next<=k
def FrN.fr{ne:List (bB×Int)}{bE:Hp}{S':Nat->Prop}{vv I:AV}(h:FrN X bE S vv H)(f:FrL (X.nx ne) S vv H S' I H'):FrN X bE S' I H' where
 next:=dq h.next f.next
 get k h1 h2 h3 h4:=by
  rw[f.get k (jW h1 h.next) h2 h3 (fun e=>by have:=h.sub k e;omega) (fun e=>by have:=h.own k e;omega)];exact h.get k h1 h2 h3 h4
 sub k e:=by
  rcases f.sub k e with e|e
  .exact h.sub k e
  .exact dq h.next e
 own k e:=by
  rcases f.own k e with e|e
  .exact h.own k e
  .exact dq h.next e
def FrN.cb{bE:Hp}{vv:AV}(h:FrN X bE S vv H)(b:HB):FrN X bE S vv (H.set X.rn b):=⟨h.next,fun k o m I Z=>by rw[bi,ao Z];exact h.get k o m I Z,h.sub,h.own⟩
def I7(X:Lx)(H:Hp)(g:Gr)(v:AV)(H':Hp):Prop:=∃S lv,v=.agg [.ag g.name,.int .i64 g.params,lv,.int .i64 g.value,.int .i64 g.ab]/\b7 S 2 H' 3 lv (g.aP.map Nd.cells)/\H.next<=H'.next/\(∀k,S k->H.next<=k)/\∀k,k<H.next->k≠X.b->k≠X.rt->k≠X.rn->H'.get k=H.get k
abbrev qh:HB:=.cells [.ag [],.int .i64 0,.aa,.int .i64 0,.int .i64 0] 0 true
set_option maxRecDepth 100000 in
theorem TZ{tb:qs}(hG:zaf tb){p:Pr}{f:Fu}(hX:zak (X.nx (dp (f.params++f.ai) 0 [])) (jQ p f))(hX0:X.ne=[]){v:Int×Bd}(h1:eD (jQ p f) n f.body (ki f)=some s)(h2:dE (jQ p f) n f.value s=some v)(hF:Fin v.2)(hz:f.sz<2^34)(hR:zab X H (fun _=>False) ⟨[],[],0,0⟩ .aa .aa):
 aX prog (aK pls tb) 30 [.ptr X.b 0,.agg f.cells] H (I7 X H ⟨f.name,f.params.length,v.2.l,v.1,v.2.ab⟩):=by
 have hw:zaa (aK pls tb) 30:=hG.plain cC;have hkeep:(aK pls tb).keep 30=false:=rfl;have hsz:f.sz=1+f.name.length+eN f.params+eN f.ai+dQ f.body+f.value.sz:=rfl;have hpl:=pF f.params;have hll:=pF f.ai;have o1:=hR.o1;have o2:=hR.o2;have o3:=hR.o3;have o4:=hR.o4;have o5:=hR.o5;have hFs:Fin s:=hF.le (dm _ n _ _ _ h2).le;have J:Fin (ki f):=hFs.le ((md _ n).2.1 _ _ _ h1).1;have hsv:s.vars.length=(ki f).vars.length:=((md _ n).2.1 _ _ _ h1).2;have Y:ki f=jP f.ai.length (gZ f.params.length 0 { (ay ⟨26,0,[]⟩ ⟨[],[],0,0⟩).2 with ab:=(ay ⟨26,0,[]⟩ ⟨[],[],0,0⟩).1}):=rfl;generalize hs0:({ (ay ⟨26,0,[]⟩ ⟨[],[],0,0⟩).2 with ab:=(ay ⟨26,0,[]⟩ ⟨[],[],0,0⟩).1}:Bd)=s0 at *;have hv0:s0.vars.length=0:=by rw[<-hs0];rfl
 have hF1:Fin (gZ f.params.length 0 s0):=by rw[Y]at J;exact J.le (zw _ _).1
 have hv1:(gZ f.params.length 0 s0).vars.length=f.params.length:=by rw[(zu _ _ _).2,hv0];omega
 have hF0:Fin s0:=hF1.le (zu _ _ _).1;have hFe:Fin (ay ⟨26,0,[]⟩ ⟨[],[],0,0⟩).2:=by rw[<-hs0]at hF0;exact⟨hF0.r,hF0.l,hF0.n⟩
 have hvst:(ki f).vars.length<2^36:=by rw[Y,(zw _ _).2,hv1];omega
 have R1:=(hR.alloc (.cells f.cells 0 true)).alloc qh;have N1:FrN X ((H.alloc (.cells f.cells 0 true)).alloc qh) (fun _=>False) .aa ((H.alloc (.cells f.cells 0 true)).alloc qh):=⟨az _,fun _ _ _ _ _=>rfl,fun _ h=>h.elim,fun _ h=>(wb h).elim⟩;have eX:X.nx []=X:=by rw[<-hX0]
 have gA:∀{S:Nat->Prop}{vv:AV}{H':Hp},FrN X ((H.alloc (.cells f.cells 0 true)).alloc qh) S vv H'->H'.get H.next=some (.cells f.cells 0 true)/\H'.get (H.next+1)=some qh:=fun h=>by
  refine⟨?_,?_⟩
  .rw[h.get _ eh ac ac ac,aJ,ao eh,aJ,aB rfl]
  .rw[h.get _ eh ac ac ac,aJ,aB cC]
 refine bA (M:=94) (rs:=[.cell 4 32]) (hw.call _) hw.aF hw.ak func30 rfl rfl I6.2 rfl ?_;dsimp only[I6,bt,Nat.reduceAdd];repeat' (first
  |(apply aj ?_;clear hK K)|apply Rx.o ?_|apply aD ?_|apply ai ?_|(apply ah fun K hK=>?_)|(apply ak 6 [(4,7),(4,9),(8,9)] fun K hK=>?_)|(apply ci 11 fun K hK=>?_)|(apply ak 12 [(4,6),(4,8),(7,8)] fun K hK=>?_)|(apply ci 16 fun K hK=>?_)|(apply aV ?_;try intro _)|(apply aW ?_ ?_<;>clear hK K)|apply aU ?_|apply bD rfl ?_|apply aq ?_|apply am ?_|apply au ?_|apply aw ?_)
 refine qc ?_;refine aL ?_ (wc hG R1 (cf _ _ _ _) 26 0 hFe);rintro w H2 ⟨rfl,S2,lv2,R2,F2⟩;have m2:=R2.m;obtain⟨R3,F3⟩:=R2.setS (ay ⟨26,0,[]⟩ ⟨[],[],0,0⟩).1;have N3:=N1.fr (ne:=X.ne) (F2.trans F3);have n2:=F2.next
 simp only[bj]at n2;clear R1 R2 F2 F3 hR;have g3:=(gA N3).1;dsimp only[bC]at m2 R3 N3 g3;dsimp only[aI];repeat' (first
  |(apply aj ?_;clear hK K)|apply Rx.o ?_|apply aD ?_|apply ai ?_|(apply ah fun K hK=>?_)|(apply ak 6 [(4,7),(4,9),(8,9)] fun K hK=>?_)|(apply ci 11 fun K hK=>?_)|(apply ak 12 [(4,6),(4,8),(7,8)] fun K hK=>?_)|(apply ci 16 fun K hK=>?_)|(apply aV ?_;try intro _)|(apply aW ?_ ?_<;>clear hK K)|apply aU ?_|apply bD rfl ?_|apply aq ?_|apply am ?_|apply au ?_|apply aw ?_)
 refine dz [0,3,4,16,17] [] 18 f.params.length (fun i E Hi=>∃si Si lvi U,gZ (f.params.length-i) i si=gZ f.params.length 0 s0/\si.vars.length=i/\zab (X.nx (dp (f.params.take i) 0 [])) Hi Si si lvi U/\FrN X ((H.alloc (.cells f.cells 0 true)).alloc qh) Si U Hi) eE ⟨s0,S2,lv2,.aa,rfl,hv0,by rw[zl];show zab (X.nx []) _ _ _ _ _;rw[eX,<-hs0];exact R3,N3⟩ ?_;clear R3 N3 m2 g3;rintro i E Hi hi hcE hrH hnH hsI ⟨si,Si,lvi,U,W,hvi,Ri,Ni⟩;(try simp only[bN,bO,bu,aM,a0,Nat.reduceBEq,Nat.reduceAdd,Nat.reduceLeDiff,tyF, *]at hcE);(try simp only[bN,bO,bu,aM,a0,Nat.reduceBEq,Nat.reduceAdd,Nat.reduceLeDiff,tyF, *]at hrH);(try simp only[bj,bJ,cL,bX,Nat.reduceAdd]at hnH);have ni:H.next+2<=Hi.next:=Ni.next
 by_cases hlt:i<f.params.length
 .have o:(i:Int)<f.params.length:=by omega
  have hgx:f.params[i]?=some f.params[i]:=bc hlt;obtain⟨k,z⟩:∃k,f.params.length-i=k+1:=⟨f.params.length-i-1,ac⟩;have hk2:f.params.length-(i+1)=k:=ac;have hne:dp (f.params.take (i+1)) 0 []=setV (dp (f.params.take i) 0 []) f.params[i] (i:Int):=by
   rw[kD,hgx];show dp (f.params.take i++[f.params[i]]) 0 []=_;rw[zt,iD,th ac,bX]
  rw[z]at W;rw[hk2,hne];have W:gZ k (i+1) { (ay ⟨2,i,[]⟩ si).2 with vars:=(ay ⟨2,i,[]⟩ si).2.vars++[(ay ⟨2,i,[]⟩ si).1] }=gZ f.params.length 0 s0:=W;have hFx:Fin (ay ⟨2,i,[]⟩ si).2:=hF1.le (by rw[<-W];exact((mc _).setV _).trans (zu _ _ _).1);generalize f.params[i]=nm at *;have hup:=vW (P:=prog) (t:=83) underlying83 oT Ri.n nm (i:Int);have mi:=Ri.m;have R':=Ri.cb (setV (dp (f.params.take i) 0 []) nm (i:Int));have N':=Ni.cb (.map (cu (setV (dp (f.params.take i) 0 []) nm (i:Int))));have m':=R'.m;dsimp only[bC,Lx.nx]at mi hup m';repeat' (first
   |(apply aj ?_;clear hK K)|apply Ry.o ?_|apply bq ?_|(apply aY (fun C L=>?_) (fun C L=>?_)<;>try(cases C;done))|apply ai ?_|(apply ah fun K hK=>?_)|(apply ak 6 [(4,7),(4,9),(8,9)] fun K hK=>?_)|(apply ci 11 fun K hK=>?_)|(apply ak 12 [(4,6),(4,8),(7,8)] fun K hK=>?_)|(apply ci 16 fun K hK=>?_)|(apply aV ?_;try intro _)|(apply aW ?_ ?_<;>clear hK K)|apply aU ?_|apply bD rfl ?_|apply aq ?_|apply am ?_|apply au ?_|apply aw ?_)
  refine qc ?_;refine aL ?_ (wc (X:=X.nx (setV (dp (f.params.take i) 0 []) nm (i:Int))) hG R' (cf _ _ _ _) 2 i hFx);generalize m:ay ⟨2,i,[]⟩ si=I at *;have hpv:I.2.vars.length=i:=by rw[<-m];exact hvi
  rintro w H4 ⟨rfl,S4,O,R4,F4⟩;have m4:=R4.m;have n4:=F4.next
  obtain⟨v5,H5,a5,hv51,hv52,m5,n5,q5,R5,F5⟩:=R4.dn I.1 ac;have N5:=(N'.fr F4).fr F5;have m4a:(H4.alloc (.cells [.int .i64 I.1] 0 true)).get X.b=some (.cells (bC X I.2 O U) 0 true):=by rw[aJ,ao I2];exact m4
  have n5':Hi.next<=H5.next:=by simp only[bJ]at n4;omega
  have Z:(I.2.vars++[I.1]).length=i+1:=by rw[em,hpv];rfl
  simp only[bJ]at n4;clear hpv hvi R' N' R4 F4 m mi;dsimp only[bC,Lx.nx]at m4 m5 m4a R5 N5;dsimp only[aI];repeat' (first
   |(apply aj ?_;clear hK K)|apply Rx.o ?_|apply aD ?_|apply ai ?_|(apply ah fun K hK=>?_)|(apply ak 6 [(4,7),(4,9),(8,9)] fun K hK=>?_)|(apply ci 11 fun K hK=>?_)|(apply ak 12 [(4,6),(4,8),(7,8)] fun K hK=>?_)|(apply ci 16 fun K hK=>?_)|(apply aV ?_;try intro _)|(apply aW ?_ ?_<;>clear hK K)|apply aU ?_|apply bD rfl ?_|apply aq ?_|apply am ?_|apply au ?_|apply aw ?_)
  .exact cG
  .refine⟨ac,bm,bm,cN,(by simp only[aM,Nat.reduceBEq, *];exact gp (n:=f.params.length) ac ac),?_⟩;exact⟨_,S4,O,v5,W,Z,R5,N5⟩
 .have o:¬(i:Int)<f.params.length:=by omega
  have z:f.params.length-i=0:=ac;have hti:f.params.take i=f.params:=fk ac;rw[z]at W;rw[hti]at Ri;have W:si=gZ f.params.length 0 s0:=W;rw[W]at Ri;have hii:i=f.params.length:=ac;rw[<-W]at Y;rw[W]at Y;have gi:=(gA Ni).1;clear z hti W hvi hii;repeat' (first
   |(apply aj ?_;clear hK K)|apply Ry.o ?_|apply bq ?_|(apply aY (fun C L=>?_) (fun C L=>?_)<;>try(cases C;done))|apply ai ?_|(apply ah fun K hK=>?_)|(apply ak 6 [(4,7),(4,9),(8,9)] fun K hK=>?_)|(apply ci 11 fun K hK=>?_)|(apply ak 12 [(4,6),(4,8),(7,8)] fun K hK=>?_)|(apply ci 16 fun K hK=>?_)|(apply aV ?_;try intro _)|(apply aW ?_ ?_<;>clear hK K)|apply aU ?_|apply bD rfl ?_|apply aq ?_|apply am ?_|apply au ?_|apply aw ?_)
  generalize hs1:gZ f.params.length 0 s0=s1 at *;refine dz [0,3,4,43,44] [] 45 f.ai.length (fun j E Hj=>∃sj Sj lvj vvj,jP (f.ai.length-j) sj=jP f.ai.length s1/\sj.vars.length=f.params.length+j/\zab (X.nx (dp (f.params++f.ai.take j) 0 [])) Hj Sj sj lvj vvj/\FrN X ((H.alloc (.cells f.cells 0 true)).alloc qh) Sj vvj Hj) eE ⟨s1,Si,lvi,U,rfl,hv1,by rw[zl,ij];exact Ri,Ni⟩ ?_;clear Ri Ni gi;rintro j E3 Hj hj hcE hrH hnH hsI ⟨sj,Sj,lvj,vvj,W,hvj,Rj,Nj⟩;(try simp only[bN,bO,bu,aM,a0,Nat.reduceBEq,Nat.reduceAdd,Nat.reduceLeDiff,tyF, *]at hcE);(try simp only[bN,bO,bu,aM,a0,Nat.reduceBEq,Nat.reduceAdd,Nat.reduceLeDiff,tyF, *]at hrH);(try simp only[bj,bJ,cL,bX,Nat.reduceAdd]at hnH);have nj:H.next+2<=Hj.next:=Nj.next
  by_cases hlt:j<f.ai.length
  .have o:(j:Int)<f.ai.length:=by omega
   have hgx:f.ai[j]?=some f.ai[j]:=bc hlt;obtain⟨k,z⟩:∃k,f.ai.length-j=k+1:=⟨f.ai.length-j-1,ac⟩;have hk2:f.ai.length-(j+1)=k:=ac;have hne:dp (f.params++f.ai.take (j+1)) 0 []=setV (dp (f.params++f.ai.take j) 0 []) f.ai[j] ((f.params.length+j:Nat):Int):=by
    rw[kD,hgx];show dp (f.params++(f.ai.take j++[f.ai[j]])) 0 []=_;rw[<-lD,zt,em,iD,th ac,bX]
   rw[z]at W;rw[hk2,hne];have W:jP k { (ay ⟨1,0,[]⟩ sj).2 with vars:=(ay ⟨1,0,[]⟩ sj).2.vars++[(ay ⟨1,0,[]⟩ sj).1] }=jP f.ai.length s1:=W;have hFx:Fin (ay ⟨1,0,[]⟩ sj).2:=J.le (by rw[Y,<-W];exact((mc _).setV _).trans (zw _ _).1);generalize f.ai[j]=nm at *;have hup:=vW (P:=prog) (t:=83) underlying83 oT Rj.n nm ((f.params.length+j:Nat):Int);have hlen:=Rj.vars.n.len';rw[hvj]at hlen;have mj:=Rj.m;have R':=Rj.cb (setV (dp (f.params++f.ai.take j) 0 []) nm ((f.params.length+j:Nat):Int));have N':=Nj.cb (.map (cu (setV (dp (f.params++f.ai.take j) 0 []) nm ((f.params.length+j:Nat):Int))));have m':=R'.m;dsimp only[bC,Lx.nx]at mj hup m';repeat' (first
    |(apply aj ?_;clear hK K)|apply Ry.o ?_|apply bq ?_|(apply aY (fun C L=>?_) (fun C L=>?_)<;>try(cases C;done))|apply ai ?_|(apply ah fun K hK=>?_)|(apply ak 6 [(4,7),(4,9),(8,9)] fun K hK=>?_)|(apply ci 11 fun K hK=>?_)|(apply ak 12 [(4,6),(4,8),(7,8)] fun K hK=>?_)|(apply ci 16 fun K hK=>?_)|(apply aV ?_;try intro _)|(apply aW ?_ ?_<;>clear hK K)|apply aU ?_|apply bD rfl ?_|apply aq ?_|apply am ?_|apply au ?_|apply aw ?_)
   .refine qc ?_;refine aL ?_ (uk (X:=X.nx (setV (dp (f.params++f.ai.take j) 0 []) nm ((f.params.length+j:Nat):Int))) hG R' (cf _ _ _ _) 0 hFx);generalize m:ay ⟨1,0,[]⟩ sj=I at *;have hpv:I.2.vars.length=f.params.length+j:=by rw[<-m];exact hvj
    rintro w H4 ⟨rfl,S4,O,R4,F4⟩;have m4:=R4.m;have n4:=F4.next
    obtain⟨v5,H5,a5,hv51,hv52,m5,n5,q5,R5,F5⟩:=R4.dn I.1 ac;have N5:=(N'.fr F4).fr F5;have m4a:(H4.alloc (.cells [.int .i64 I.1] 0 true)).get X.b=some (.cells (bC X I.2 O vvj) 0 true):=by rw[aJ,ao I2];exact m4
    have n5':Hj.next<=H5.next:=by simp only[bJ]at n4;omega
    have Z:(I.2.vars++[I.1]).length=f.params.length+(j+1):=by rw[em,hpv];rfl
    simp only[bJ]at n4;clear hpv hvj R' N' R4 F4 m mj hlen;dsimp only[bC,Lx.nx]at m4 m5 m4a R5 N5;dsimp only[aI];repeat' (first
     |(apply aj ?_;clear hK K)|apply Rx.o ?_|apply aD ?_|apply ai ?_|(apply ah fun K hK=>?_)|(apply ak 6 [(4,7),(4,9),(8,9)] fun K hK=>?_)|(apply ci 11 fun K hK=>?_)|(apply ak 12 [(4,6),(4,8),(7,8)] fun K hK=>?_)|(apply ci 16 fun K hK=>?_)|(apply aV ?_;try intro _)|(apply aW ?_ ?_<;>clear hK K)|apply aU ?_|apply bD rfl ?_|apply aq ?_|apply am ?_|apply au ?_|apply aw ?_)
    .exact cG
    .refine⟨ac,bm,bm,cN,(by simp only[aM,Nat.reduceBEq, *];exact gp (n:=f.ai.length) ac ac),?_⟩;exact⟨_,S4,O,v5,W,Z,R5,N5⟩
  .have o:¬(j:Int)<f.ai.length:=by omega
   have z:f.ai.length-j=0:=ac;have htj:f.ai.take j=f.ai:=fk ac;rw[z]at W;rw[htj]at Rj;have W:sj=jP f.ai.length s1:=W;rw[W,<-Y]at Rj;have gj:=(gA Nj).1;clear z htj W hvj;repeat' (first
    |(apply aj ?_;clear hK K)|apply Ry.o ?_|apply bq ?_|(apply aY (fun C L=>?_) (fun C L=>?_)<;>try(cases C;done))|apply ai ?_|(apply ah fun K hK=>?_)|(apply ak 6 [(4,7),(4,9),(8,9)] fun K hK=>?_)|(apply ci 11 fun K hK=>?_)|(apply ak 12 [(4,6),(4,8),(7,8)] fun K hK=>?_)|(apply ci 16 fun K hK=>?_)|(apply aV ?_;try intro _)|(apply aW ?_ ?_<;>clear hK K)|apply aU ?_|apply bD rfl ?_|apply aq ?_|apply am ?_|apply au ?_|apply aw ?_)
   refine qc ?_;refine aL ?_ (I5 (X:=X.nx (dp (f.params++f.ai) 0 [])) hG hX (n+1) n (ct n) f.body (ki f) s h1 hFs ac hvst Rj);rintro w H6 ⟨S6,lv6,vv6,R6,F6⟩;have N6:=Nj.fr F6;have g6:=(gA N6).1;clear Rj Nj F6 gj;dsimp only[aI];repeat' (first
    |(apply aj ?_;clear hK K)|apply Rx.o ?_|apply aD ?_|apply ai ?_|(apply ah fun K hK=>?_)|(apply ak 6 [(4,7),(4,9),(8,9)] fun K hK=>?_)|(apply ci 11 fun K hK=>?_)|(apply ak 12 [(4,6),(4,8),(7,8)] fun K hK=>?_)|(apply ci 16 fun K hK=>?_)|(apply aV ?_;try intro _)|(apply aW ?_ ?_<;>clear hK K)|apply aU ?_|apply bD rfl ?_|apply aq ?_|apply am ?_|apply au ?_|apply aw ?_)
   refine qc ?_;refine aL ?_ (nU (X:=X.nx (dp (f.params++f.ai) 0 [])) hG hX n f.value s v h2 hF R6 (cf _ _ _ _));rintro w H7 ⟨rfl,S7,V,R7,F7⟩;have N7:=N6.fr F7;obtain⟨g7,g7r⟩:=gA N7;have m7:=R7.m;have nd7:=R7.aP;obtain⟨ho1,ho2⟩:=nd7.one;have n7:H.next+2<=H7.next:=N7.next
   have bGr:dF prog 32 [(0,.ag f.name),(1,.int .i64 f.params.length),(2,V),(3,.int .i64 v.1),(4,.int .i64 v.2.ab)]=some (.agg [.ag f.name,.int .i64 f.params.length,V,.int .i64 v.1,.int .i64 v.2.ab]):=by
    rcases nd7 with⟨rfl,_⟩|⟨q,im,rows,rfl,_⟩<;>kernel_rfl
   have key:∀k,k<H.next->k≠X.b->k≠X.rt->k≠X.rn->(H7.set (H.next+1) (.cells [.ag f.name,.int .i64 f.params.length,V,.int .i64 v.1,.int .i64 v.2.ab] 0 true)).get k=H.get k:=fun k a b c d=>by
    rw[bi,ao ac,N7.get k eh b c d,aJ,ao eh,aJ,ao ac]
   have fin:I7 X H ⟨f.name,f.params.length,v.2.l,v.1,v.2.ab⟩ (.agg [.ag f.name,.int .i64 f.params.length,V,.int .i64 v.1,.int .i64 v.2.ab]) (H7.set (H.next+1) (.cells [.ag f.name,.int .i64 f.params.length,V,.int .i64 v.1,.int .i64 v.2.ab] 0 true)):=
    ⟨S7,V,rfl,nd7.keep (fun _ _ h=>h) (az _) fun k z _=>by rw[bi,ao I3],jt,fun k z=>I3,key⟩
   dsimp only[bC,Lx.nx]at m7;clear key nd7 R6 R7 N6 N7 F7 g6;dsimp only[aI];repeat' (first
    |(apply aj ?_;clear hK K)|apply Rx.o ?_|apply aD ?_|apply ai ?_|(apply ah fun K hK=>?_)|(apply ak 6 [(4,7),(4,9),(8,9)] fun K hK=>?_)|(apply ci 11 fun K hK=>?_)|(apply ak 12 [(4,6),(4,8),(7,8)] fun K hK=>?_)|(apply ci 16 fun K hK=>?_)|(apply aV ?_;try intro _)|(apply aW ?_ ?_<;>clear hK K)|apply aU ?_|apply bD rfl ?_|apply aq ?_|apply am ?_|apply au ?_|apply aw ?_)
   have ag:cr 5 [.ag f.name,.int .i64 f.params.length,V,.int .i64 v.1,.int .i64 v.2.ab]=some (.agg [.ag f.name,.int .i64 f.params.length,V,.int .i64 v.1,.int .i64 v.2.ab]):=rfl;refine⟨aP,_,(by(try simp only[aM,a0,Nat.reduceBEq,Nat.reduceAdd,Nat.reduceLeDiff,tyF,cU,da,ag, *]);first|done|with_reducible rfl),?_⟩;try simp only[aN]
   exact fin
end
section
def tyW4a.tyF:=ad @cJ (ad @cM (ad @eg (ad @dJ (ad @eC (ad @fw (@ef))))))
open tyW4a
noncomputable def I8:{c:SC // aG 28 (f87.body.getD .skip)=c}:=by
 refine⟨?_,?_⟩;rotate_left
 .simp only[f87,bK,aG,bF,bw,bH,bI,Nat.blt,Nat.ble];rfl
noncomputable def I9:{c:SC // aG 39 (f81.body.getD .skip)=c}:=by
 refine⟨?_,?_⟩;rotate_left
 .simp only[f81,bK,aG,bF,bw,bH,bI,Nat.blt,Nat.ble];rfl
def uo(cfg:Cfg)(base:Nat)(I:Hp->Prop)(g:FuncId)(cap:ql)(q:Ex->Int->Bool):Prop:=
 ∀(x:Ex) (d:Int) (H:Hp),x.sz<2^60->base<=H.next->I H->aX prog cfg g (.agg x.cells::.int .i64 d::cap) H fun v H'=>v=.bool (q x d)/\FrB base H H'/\I H'
def rq(base:Nat)(I:Hp->Prop):Prop:=∀H H',I H->fu base H H'->I H'
theorem uq{cfg:Cfg}(hw:zaa cfg 87){base:Nat}{I:Hp->Prop}(hI:rq base I){g:FuncId}{cap:ql}{q:Ex->Int->Bool}(hq:uo cfg base I g cap q):
 ∀(n:Nat) (x:Ex),x.sz<n->∀(d:Int) (H:Hp),x.sz<2^60->base<=H.next->I H->aX prog cfg 87 [.agg x.cells,.int .i64 d,.a9 g cap] H fun v H'=>v=.bool (jF q x d)/\FrB base H H'/\I H'
 |0,x,hx,_,_,_,_,_=>by omega
 |n+1,x,hx,d,H,hz,hbase,hi=>by
  refine bA (M:=28) (rs:=[.tmp 6]) (hw.call _) hw.aF hw.ak func87 rfl rfl I8.2 rfl ?_;dsimp only[I8,bt,Nat.reduceAdd];repeat' (first
   |(apply aj ?_;clear hK K)|apply Rx.o ?_|apply aD ?_|(apply aO (fun C L=>?_) (fun C L=>?_)<;>try(cases C;done))|apply ai ?_|(apply ah fun K hK=>?_)|apply aq ?_|apply am ?_|apply au ?_|apply aw ?_)
  refine qc ?_;have z:FrB base H (H.alloc (.cells x.cells 0 true)):=(fU _ _).alloc _;refine aL ?_ (hq x d (H.alloc (.cells x.cells 0 true)) hz eh (hI _ _ hi ((mF _ _).alloc hbase _)));rintro v H1 ⟨rfl,Z,Y⟩;have hg1:H1.get H.next=some (.cells x.cells 0 true):=by
   rw[Z.get _ hbase (by simp[bj]),aJ,aB rfl]
  have hn1:H.next<H1.next:=by have:=Z.next;simp only[bj]at this;omega
  dsimp only[aI];repeat' (first
   |(apply aj ?_;clear hK K)|apply Rx.o ?_|apply aD ?_|(apply aO (fun C L=>?_) (fun C L=>?_)<;>try(cases C;done))|apply ai ?_|(apply ah fun K hK=>?_)|apply aq ?_|apply am ?_|apply au ?_|apply aw ?_)
  .all_goals refine qq ?_
   refine⟨?_,z.trans Z,Y⟩;rw[Bl];simp_all
  have hl:x.aj.length<2^60:=by have:=tC x.aj;have:=x.aV;omega
  refine kK (fun i E U=>fT q x.aj (er (d+1))=fT q (x.aj.drop i) (er (d+1))/\E.at 1=.int .i64 d/\E.at 2=.a9 g cap/\E.at 15=.aq (x.aj.map Ex.cells)/\E.at 16=.int .i64 x.aj.length/\E.at 17=.int .i64 i/\FrB base H U/\I U) x.aj.length ?_ ?_
  .rintro i E U hi2 ⟨hc,h1,h2,h15,h16,h17,J,W⟩;repeat' (first
    |(apply aj ?_;clear hK K)|apply Rx.o ?_|apply aD ?_|(apply aO (fun C L=>?_) (fun C L=>?_)<;>try(cases C;done))|apply ai ?_|(apply ah fun K hK=>?_)|apply aq ?_|apply am ?_|apply au ?_|apply aw ?_)
   .have O:i<x.aj.length:=by simpa using C
    have hgx:x.aj[i]?=some x.aj[i]:=bc O;repeat' (first
     |(apply aj ?_;clear hK K)|apply Rx.o ?_|apply aD ?_|(apply aO (fun C L=>?_) (fun C L=>?_)<;>try(cases C;done))|apply ai ?_|(apply ah fun K hK=>?_)|apply aq ?_|apply am ?_|apply au ?_|apply aw ?_)
    have hxm:x.aj[i]∈x.aj:=dU O;have hsm:=sd hxm;have hsx:=x.aV;have o:FrB base U ((U.alloc qf).set U.next (.cells x.aj[i].cells 0 true)):=((fU _ _).alloc _).set (.inl (az _)) _;have hb2:base<=U.next:=dq hbase (J.next)
    have hlow:fu base U ((U.alloc qf).set U.next (.cells x.aj[i].cells 0 true)):=((mF _ _).alloc hb2 _).set hb2 _;refine qc ?_;refine aL ?_ (uq hw hI hq n x.aj[i] ac _ _ ac jO (hI _ _ W hlow));rintro v H3 ⟨rfl,m,V⟩;dsimp only[aI];repeat' (first
     |(apply aj ?_;clear hK K)|apply Rx.o ?_|apply aD ?_|(apply aO (fun C L=>?_) (fun C L=>?_)<;>try(cases C;done))|apply ai ?_|(apply ah fun K hK=>?_)|apply aq ?_|apply am ?_|apply au ?_|apply aw ?_)
    .all_goals refine qq ?_
     refine⟨?_,(J.trans o).trans m,V⟩;rw[Bl,hc,xQ q O];simp_all
    .refine⟨O,?_,eE,eE,eE,eE,?_,(J.trans o).trans m,V⟩
     .rw[hc,xQ q O];simp_all
     .simp only[gO,Nat.reduceBEq,gy,gP (show i<2^62 by omega)]
   .have hi3:i=x.aj.length:=by simp at C;omega
    all_goals refine qq ?_
    refine⟨?_,J,W⟩;rw[Bl,hc,hi3];simp_all[fT]
  .exact⟨rfl,eE,eE,eE,eE,eE,z.trans Z,Y⟩
end
section
def tyW4b.tyF:=ad @cJ (ad @cM (ad @eg (ad @dJ (ad @eC (@fw)))))
open tyW4b
def wi{Z:Type}(cfg:Cfg)(base:Nat)(I:Z->Hp->Prop)(g:FuncId)(cap:ql)(q:St->Int->Z->Bool×Z):Prop:=
 ∀(x:St) (d:Int) (s:Z) (H:Hp),x.sz<2^60->base<=H.next->I s H->aX prog cfg g (.agg x.cells::.int .i64 d::cap) H fun v H'=>v=.bool (q x d s).1/\FrB base H H'/\I (q x d s).2 H'
theorem ur{cfg:Cfg}(hw:zaa cfg 81){σ:Type}{base:Nat}{I:σ->Hp->Prop}(hI:∀s,rq base (I s)){g:FuncId}{cap:ql}{q:St->Int->σ->Bool×σ}(hq:wi cfg base I g cap q):
 ∀(n:Nat) (l:qy),dQ l<n->∀(d:Int) (s:σ) (H:Hp),dQ l<2^60->base<=H.next->I s H->aX prog cfg 81 [.aq (l.map St.cells),.int .i64 d,.a9 g cap] H fun v H'=>v=.bool (dk q l d s).1/\FrB base H H'/\I (dk q l d s).2 H'
 |0,l,hx,_,_,_,_,_,_=>by omega
 |n+1,l,hx,d,s,H,hz,hbase,hi=>by
  refine bA (M:=39) (rs:=[.tmp 6]) (hw.call _) hw.aF hw.ak func81 rfl rfl I9.2 rfl ?_;dsimp only[I9,bt,Nat.reduceAdd];repeat' (first
   |(apply aj ?_;clear hK K)|apply Rx.o ?_|apply aD ?_|(apply bz (fun Y C=>?_) (fun Y C=>?_)<;>try(cases Y;done))|(apply aO (fun Z L=>?_) (fun Z L=>?_)<;>try(cases Z;done))|apply ai ?_|(apply ah fun K hK=>?_)|apply aq ?_|apply am ?_|apply au ?_|apply aw ?_)
  have hl:l.length<2^60:=by have:=xR l;omega
  refine kK (fun i E U=>∃s2,dk q l d s=dk q (l.drop i) d s2/\E.at 1=.int .i64 d/\E.at 2=.a9 g cap/\E.at 9=.aq (l.map St.cells)/\E.at 10=.int .i64 l.length/\E.at 11=.int .i64 i/\FrB base H U/\I s2 U) l.length ?_ ?_
  .rintro i E U hi2 ⟨s2,hc,h1,h2,h9,h10,h11,J,hI2⟩;repeat' (first
    |(apply aj ?_;clear hK K)|apply Rx.o ?_|apply aD ?_|(apply bz (fun Y C=>?_) (fun Y C=>?_)<;>try(cases Y;done))|(apply aO (fun Z L=>?_) (fun Z L=>?_)<;>try(cases Z;done))|apply ai ?_|(apply ah fun K hK=>?_)|apply aq ?_|apply am ?_|apply au ?_|apply aw ?_)
   .have O:i<l.length:=by simpa using Z
    have hgx:l[i]?=some l[i]:=bc O;repeat' (first
     |(apply aj ?_;clear hK K)|apply Rx.o ?_|apply aD ?_|(apply bz (fun Y C=>?_) (fun Y C=>?_)<;>try(cases Y;done))|(apply aO (fun Z L=>?_) (fun Z L=>?_)<;>try(cases Z;done))|apply ai ?_|(apply ah fun K hK=>?_)|apply aq ?_|apply am ?_|apply au ?_|apply aw ?_)
    have hxm:l[i]∈l:=dU O;have hsm:=pG hxm;have hsx:=l[i].aV;generalize hx0:l[i]=x at *;have W:base<=U.next:=dq hbase J.next
    generalize V:(U.alloc _).set U.next _=H3
    have z:FrB base U H3:=by rw[<-V];exact((fU _ _).alloc _).set (.inl (az _)) _
    have hlow:fu base U H3:=by rw[<-V];exact((mF _ _).alloc W _).set W _
    have hn3:U.next<H3.next:=by rw[<-V];simp only[bj,bJ];omega
    have hg3:H3.get U.next=some (.cells x.cells 0 true):=by rw[<-V,bi,aB rfl]
    have hI3:=hI _ _ _ hI2 hlow;have hwd:=Nw q O d s2;rw[hx0,Nv]at hwd;rw[hwd]at hc;refine qc ?_;refine aL ?_ (hq x d s2 H3 ac ac hI3);rintro v H4 ⟨rfl,m,hI4⟩;generalize hq1:q x d s2=r1 at *;obtain⟨ok1,s3⟩:=r1;have hg4:H4.get U.next=some (.cells x.cells 0 true):=by rw[m.get _ W hn3];exact hg3
    have hn4:U.next<H4.next:=jW hn3 m.next
    dsimp only[aI];cases ok1 with
    |false=>
     repeat' (first
      |(apply aj ?_;clear hK K)|apply Rx.o ?_|apply aD ?_|(apply bz (fun Y C=>?_) (fun Y C=>?_)<;>try(cases Y;done))|(apply aO (fun Z L=>?_) (fun Z L=>?_)<;>try(cases Z;done))|apply ai ?_|(apply ah fun K hK=>?_)|apply aq ?_|apply am ?_|apply au ?_|apply aw ?_)
     all_goals refine qq ?_
     dsimp only at hc;rw[hc];exact⟨rfl,(J.trans z).trans m,hI4⟩
    |true=>
     repeat' (first
      |(apply aj ?_;clear hK K)|apply Rx.o ?_|apply aD ?_|(apply bz (fun Y C=>?_) (fun Y C=>?_)<;>try(cases Y;done))|(apply aO (fun Z L=>?_) (fun Z L=>?_)<;>try(cases Z;done))|apply ai ?_|(apply ah fun K hK=>?_)|apply aq ?_|apply am ?_|apply au ?_|apply aw ?_)
     refine qc ?_;have hrec:=ur hw hI hq n x.a8 ac (er (d+1)) s3 H4 ac ac hI4;refine aL ?_ hrec;rintro v H5 ⟨rfl,o,hI5⟩;generalize hq2:dk q x.a8 (er (d+1)) s3=r2 at *;obtain⟨ok2,s4⟩:=r2;have hg5:H5.get U.next=some (.cells x.cells 0 true):=by rw[o.get _ W hn4];exact hg4
     have hn5:U.next<H5.next:=jW hn4 o.next
     dsimp only[aI];cases ok2 with
     |false=>
      repeat' (first
       |(apply aj ?_;clear hK K)|apply Rx.o ?_|apply aD ?_|(apply bz (fun Y C=>?_) (fun Y C=>?_)<;>try(cases Y;done))|(apply aO (fun Z L=>?_) (fun Z L=>?_)<;>try(cases Z;done))|apply ai ?_|(apply ah fun K hK=>?_)|apply aq ?_|apply am ?_|apply au ?_|apply aw ?_)
      all_goals refine qq ?_
      simp only[hq2]at hc;rw[hc];exact⟨rfl,((J.trans z).trans m).trans o,hI5⟩
     |true=>
      repeat' (first
       |(apply aj ?_;clear hK K)|apply Rx.o ?_|apply aD ?_|(apply bz (fun Y C=>?_) (fun Y C=>?_)<;>try(cases Y;done))|(apply aO (fun Z L=>?_) (fun Z L=>?_)<;>try(cases Z;done))|apply ai ?_|(apply ah fun K hK=>?_)|apply aq ?_|apply am ?_|apply au ?_|apply aw ?_)
      refine qc ?_;have hrec2:=ur hw hI hq n x.bA ac (er (d+1)) s4 H5 ac ac hI5;refine aL ?_ hrec2;rintro v H6 ⟨rfl,hf6,hI6⟩;generalize hq3:dk q x.bA (er (d+1)) s4=r3 at *;obtain⟨ok3,s5⟩:=r3;dsimp only[aI];have hf7:FrB base H H6:=(((J.trans z).trans m).trans o).trans hf6;cases ok3 with
      |false=>
       repeat' (first
        |(apply aj ?_;clear hK K)|apply Rx.o ?_|apply aD ?_|(apply bz (fun Y C=>?_) (fun Y C=>?_)<;>try(cases Y;done))|(apply aO (fun Z L=>?_) (fun Z L=>?_)<;>try(cases Z;done))|apply ai ?_|(apply ah fun K hK=>?_)|apply aq ?_|apply am ?_|apply au ?_|apply aw ?_)
       all_goals refine qq ?_
       simp only[hq2,hq3]at hc;rw[hc];exact⟨rfl,hf7,hI6⟩
      |true=>
       repeat' (first
        |(apply aj ?_;clear hK K)|apply Rx.o ?_|apply aD ?_|(apply bz (fun Y C=>?_) (fun Y C=>?_)<;>try(cases Y;done))|(apply aO (fun Z L=>?_) (fun Z L=>?_)<;>try(cases Z;done))|apply ai ?_|(apply ah fun K hK=>?_)|apply aq ?_|apply am ?_|apply au ?_|apply aw ?_)
       refine⟨O,s5,?_,eE,eE,eE,eE,?_,hf7,hI6⟩
       .simp only[hq2,hq3]at hc;exact hc
       .simp only[gO,Nat.reduceBEq,gy,gP (show i<2^62 by omega)]
   .have hi3:i=l.length:=by simp at Z;omega
    all_goals refine qq ?_
    rw[hc,hi3];simp only[oQ,dk];exact⟨trivial,J,hI2⟩
  .exact⟨s,rfl,eE,eE,eE,eE,eE,fU _ _,hi⟩
end
section
def tyW4c.tyF:=ad @cJ (ad @cM (ad @eg (ad @dJ (ad @eC (ad @fw (ad @ef (ad @io (ad @kc (@Fo)))))))))
open tyW4c
noncomputable def Ja:{c:SC // aG 24 (f82.body.getD .skip)=c}:=by
 refine⟨?_,?_⟩;rotate_left
 .simp only[f82,bK,aG,bF,bw,bH,bI,Nat.blt,Nat.ble];rfl
noncomputable def Jb:{c:SC // aG 7 (f84.body.getD .skip)=c}:=by
 refine⟨?_,?_⟩;rotate_left
 .simp only[f84,bK,aG,bF,bw,bH,bI,Nat.blt,Nat.ble];rfl
noncomputable def Jc:{c:SC // aG 32 (f121.body.getD .skip)=c}:=by
 refine⟨?_,?_⟩;rotate_left
 .simp only[f121,bK,aG,bF,bw,bH,bI,Nat.blt,Nat.ble];rfl
noncomputable def Jd:{c:SC // aG 15 (f83.body.getD .skip)=c}:=by
 refine⟨?_,?_⟩;rotate_left
 .simp only[f83,bK,aG,bF,bw,bH,bI,Nat.blt,Nat.ble];rfl
theorem T0(V:zaa cfg 82){base rn rl:Nat}(Y:rn<base)(I:rl<base)(o:rn≠rl)(Hb:Hp):
 wi cfg base (fun(s:Int×Int) H=>H.get rn=some (.cells [.int .i64 s.1] 0 true)/\H.get rl=some (.cells [.int .i64 s.2] 0 true)/\∀r,r<base->r≠rn->r≠rl->H.get r=Hb.get r) 82 [.ptr rn 0,.ptr rl 0] kM:=by
 intro x d s H hz z ⟨m,hi2,Z⟩;have e1:(rn == H.next)=false:=co;have e2:(rl == H.next)=false:=co;have e3:(rl == rn)=false:=co;have e4:(rn == rl)=false:=co;have e5:(H.next == rn)=false:=co;have e6:(H.next == rl)=false:=co;refine bA (M:=24) (rs:=[.tmp 6]) (V.call _) V.aF V.ak func82 rfl rfl Ja.2 rfl ?_;dsimp only[Ja,bt,Nat.reduceAdd];repeat' (first
  |(apply aj ?_;clear hK K)|apply Rx.o ?_|apply aD ?_|(apply bz (fun W C=>?_) (fun W C=>?_)<;>try(cases W;done))|(apply aO (fun U L=>?_) (fun U L=>?_)<;>try(cases U;done))|apply ai ?_|(apply ah fun K hK=>?_)|apply am ?_|apply au ?_)
 all_goals refine qq ?_
 all_goals (refine⟨?_,?_,?_,?_,?_⟩)
 all_goals first
  |(intro r q1 O J;simp only[bi,aJ,O,J,show ¬r=H.next by omega,cm];exact Z r q1 O J)
  |exact(((fU _ _).alloc _).set (.inr Y) _).set (.inr I) _
  |exact((fU _ _).alloc _).set (.inr Y) _
  |(simp only[get_set,xO,kM, *,gy,rV,beq_self_eq_true,HY,cg,cm];done)
  |(simp_all[kM,get_set,xO];done)
  |skip
def T1(V:zaa cfg 84){base:Nat}(Z:rq base I):uo cfg base I 84 [] oA:=by
 intro x d H Y z J;refine bA (M:=7) (rs:=[.tmp 4]) (V.call _) V.aF V.ak func84 rfl rfl Jb.2 rfl ?_;dsimp only[Jb,bt,Nat.reduceAdd];repeat' (first
  |(apply aj ?_;clear hK K)|apply Rx.o ?_|apply ai ?_|(apply ah fun K hK=>?_)|apply au ?_)
 all_goals refine qq ?_
 exact⟨rfl,(fU _ _).alloc _,Z _ _ J ((mF _ _).alloc z _)⟩
theorem T2(hw:zaa cfg 121)(hwe:zaa cfg 87){base O:Nat}(V:base<=O)(hI:rq base I){cap:ql}(hq:uo cfg base I g cap q)
 {W:Nat} (hr1:base<=W) (hr2:W<O) (H1:Hp) :
 wi cfg O (fun(_:Unit) H=>I H/\H.get W=some (.cells [.a9 g cap] 0 true)/\∀r,base<=r->r<O->H.get r=H1.get r) 121 [.ptr W 0] (lO q):=by
 intro x d s H hz hbase ⟨hi,hi3,hi1⟩;have hsz:=x.aV;have e1:(W == H.next)=false:=co;have e2:(H.next == W)=false:=co;refine bA (M:=32) (rs:=[.tmp 5]) (hw.call _) hw.aF hw.ak func121 rfl rfl Jc.2 rfl ?_;dsimp only[Jc,bt,Nat.reduceAdd];repeat' (first
  |(apply aj ?_;clear hK K)|apply Rx.o ?_|apply aD ?_|(apply bz (fun Y C=>?_) (fun Y C=>?_)<;>try(cases Y;done))|(apply aO (fun Z L=>?_) (fun Z L=>?_)<;>try(cases Z;done))|apply ai ?_|(apply ah fun K hK=>?_)|apply aq ?_|apply am ?_|apply au ?_|apply aw ?_)
 have hIa:=hI _ _ hi ((mF base H).alloc (dq V hbase) (.cells x.cells 0 true));refine qc ?_;refine aL ?_ (uq hwe hI hq (x.aW.sz+1) x.aW ac 0 _ ac eh hIa);rintro v H2 ⟨rfl,hf2,hi2⟩;have hn2:H.next<H2.next:=by have:=hf2.next;simp only[bj]at this;omega
 have hg2:H2.get H.next=some (.cells x.cells 0 true):=by rw[hf2.get _ ac (by simp[bj]),aJ,aB rfl]
 have hr3:H2.get W=some (.cells [.a9 g cap] 0 true):=by rw[hf2.get _ hr1 eh,aJ,ao ac];exact hi3
 have hF2:FrB base H H2:=((fU _ _).alloc _).trans hf2;have J:∀r,base<=r->r<O->H2.get r=H1.get r:=fun r h1 h2=>by rw[hF2.get r h1 ac];exact hi1 r h1 h2
 dsimp only[aI];repeat' (first
  |(apply aj ?_;clear hK K)|apply Rx.o ?_|apply aD ?_|(apply bz (fun Y C=>?_) (fun Y C=>?_)<;>try(cases Y;done))|(apply aO (fun Z L=>?_) (fun Z L=>?_)<;>try(cases Z;done))|apply ai ?_|(apply ah fun K hK=>?_)|apply aq ?_|apply am ?_|apply au ?_|apply aw ?_)
 .refine qc ?_;refine aL ?_ (uq hwe hI hq (x.value.sz+1) x.value ac 0 _ ac ac hi2);rintro v H3 ⟨rfl,o,hi3'⟩;have hn3:H.next<H3.next:=jW hn2 o.next
  have hg3:H3.get H.next=some (.cells x.cells 0 true):=by rw[o.get _ ac hn2];exact hg2
  have hr3b:H3.get W=some (.cells [.a9 g cap] 0 true):=by rw[o.get _ hr1 ac];exact hr3
  have hF3:FrB base H H3:=hF2.trans o;have z:∀r,base<=r->r<O->H3.get r=H1.get r:=fun r h1 h2=>by rw[o.get r h1 ac];exact J r h1 h2
  dsimp only[aI];repeat' (first
   |(apply aj ?_;clear hK K)|apply Rx.o ?_|apply aD ?_|(apply bz (fun Y C=>?_) (fun Y C=>?_)<;>try(cases Y;done))|(apply aO (fun Z L=>?_) (fun Z L=>?_)<;>try(cases Z;done))|apply ai ?_|(apply ah fun K hK=>?_)|apply aq ?_|apply am ?_|apply au ?_|apply aw ?_)
  .all_goals refine qq ?_
   exact⟨by simp_all[lO],hF3.cG V,hi3',hr3b,z⟩
  have hl:x.args.length<2^60:=by have:=tC x.args;omega
  refine kK (fun i E H2=>fT q x.args 0=fT q (x.args.drop i) 0/\E.at 2=.ptr W 0/\E.at 21=.aq (x.args.map Ex.cells)/\E.at 22=.int .i64 x.args.length/\E.at 23=.int .i64 i/\FrB base H H2/\I H2/\H2.get W=some (.cells [.a9 g cap] 0 true)/\(∀r,base<=r->r<O->H2.get r=H1.get r)) x.args.length ?_ ?_
  .rintro i E H4 hi2 ⟨hc,h2,h21,h22,h23,hf4,hI4,hr4,U⟩;have hn4:=hf4.next
   have e3:(W == H4.next)=false:=co;repeat' (first
    |(apply aj ?_;clear hK K)|apply Rx.o ?_|apply aD ?_|(apply bz (fun Y C=>?_) (fun Y C=>?_)<;>try(cases Y;done))|(apply aO (fun Z L=>?_) (fun Z L=>?_)<;>try(cases Z;done))|apply ai ?_|(apply ah fun K hK=>?_)|apply aq ?_|apply am ?_|apply au ?_|apply aw ?_)
   .have m:i<x.args.length:=by simpa using Z
    have hgx:x.args[i]?=some x.args[i]:=bc m;repeat' (first
     |(apply aj ?_;clear hK K)|apply Rx.o ?_|apply aD ?_|(apply bz (fun Y C=>?_) (fun Y C=>?_)<;>try(cases Y;done))|(apply aO (fun Z L=>?_) (fun Z L=>?_)<;>try(cases Z;done))|apply ai ?_|(apply ah fun K hK=>?_)|apply aq ?_|apply am ?_|apply au ?_|apply aw ?_)
    have hxm:x.args[i]∈x.args:=dU m;have hsm:=sd hxm;have hb4:base<=H4.next:=ac
    generalize hH5:(H4.alloc _).set H4.next _=H5
    have hf5:FrB base H4 H5:=by rw[<-hH5];exact((fU _ _).alloc _).set (.inl (az _)) _
    have hlow5:fu base H4 H5:=by rw[<-hH5];exact((mF _ _).alloc hb4 _).set hb4 _
    have hn5:H4.next<H5.next:=by rw[<-hH5];simp only[bj,bJ];omega
    refine qc ?_;refine aL ?_ (uq hwe hI hq (x.args[i].sz+1) x.args[i] ac 0 _ ac ac (hI _ _ hI4 hlow5));rintro v H6 ⟨rfl,hf6,hi6⟩;have hF6:FrB base H4 H6:=hf5.trans hf6;have hr6:H6.get W=some (.cells [.a9 g cap] 0 true):=by rw[hF6.get _ hr1 ac];exact hr4
    have hold6:∀r,base<=r->r<O->H6.get r=H1.get r:=fun r h1 h2=>by rw[hF6.get r h1 ac];exact U r h1 h2
    dsimp only[aI];repeat' (first
     |(apply aj ?_;clear hK K)|apply Rx.o ?_|apply aD ?_|(apply bz (fun Y C=>?_) (fun Y C=>?_)<;>try(cases Y;done))|(apply aO (fun Z L=>?_) (fun Z L=>?_)<;>try(cases Z;done))|apply ai ?_|(apply ah fun K hK=>?_)|apply aq ?_|apply am ?_|apply au ?_|apply aw ?_)
    .all_goals refine qq ?_
     refine⟨?_,(hf4.trans hF6).cG V,hi6,hr6,hold6⟩;have:=xQ q m 0;simp_all[lO]
    .refine⟨m,?_,eE,eE,eE,?_,hf4.trans hF6,hi6,hr6,hold6⟩
     .rw[hc,xQ q m];simp_all
     .simp only[gO,Nat.reduceBEq,gy,gP (show i<2^62 by omega)]
   .have hi3:i=x.args.length:=by simp at Z;omega
    all_goals refine qq ?_
    refine⟨?_,hf4.cG V,hI4,hr4,U⟩;rw[hi3]at hc;simp_all[lO,fT]
  .exact⟨rfl,eE,eE,eE,eE,hF3,hi3',hr3b,z⟩
 .all_goals refine qq ?_
  exact⟨by simp_all[lO],hF2.cG V,hi2,hr3,J⟩
end
section
def tyW4d.tyF:=ad @ef (ad @cJ (ad @cM (ad @eg (ad @dJ (ad @io (ad @eC (ad @kc (ad @fw (@Fo)))))))))
open tyW4d
structure zam (cfg:Cfg):Prop where
 we:zaa cfg 87
 ws:zaa cfg 81
 wx:zaa cfg 83
 wx1:zaa cfg 121
theorem Je(V:zam cfg){base:Nat}(hI:rq base I){cap:ql}(hq:uo cfg base I g cap q)(x:Fu)(H:Hp)(hz:x.sz<2^60)(z:base<=H.next)(hi:I H):
 aX prog cfg 83 [.agg x.cells,.a9 g cap] H fun v H'=>v=.bool (lP q x)/\FrB base H H'/\I H':=by
 have hw:=V.wx;have hsz:x.sz=1+x.name.length+eN x.params+eN x.ai+dQ x.body+x.value.sz:=rfl;refine bA (M:=15) (rs:=[.tmp 4]) (hw.call _) hw.aF hw.ak func83 rfl rfl Jd.2 rfl ?_;dsimp only[Jd,bt,Nat.reduceAdd];repeat' (first
  |(apply aj ?_;clear hK K)|apply Rx.o ?_|(apply bz (fun L C=>?_) (fun L C=>?_)<;>try(cases L;done))|apply ai ?_|(apply ah fun K hK=>?_)|apply au ?_)
 generalize W:(H.alloc (.cells x.cells 0 true)).alloc (.cells [.a9 g cap] 0 true)=H1;have O:FrB base H H1:=by rw[<-W];exact((fU _ _).alloc _).alloc _
 have hl1:fu base H H1:=by rw[<-W];exact((mF _ _).alloc z _).alloc eh _
 have hn1:H1.next=H.next+2:=by rw[<-W];rfl
 have hga:H1.get H.next=some (.cells x.cells 0 true):=by rw[<-W,aJ,ao (by simp[bj]),aJ,aB rfl]
 have hgb:H1.get (H.next+1)=some (.cells [.a9 g cap] 0 true):=by rw[<-W,aJ,aB (by simp[bj])]
 refine qc ?_;refine aL ?_ (uq V.we hI hq (x.value.sz+1) x.value ac 0 H1 ac ac (hI _ _ hi hl1));rintro v U ⟨rfl,J,Z⟩;have hn2:=J.next
 have hga2:U.get H.next=some (.cells x.cells 0 true):=by rw[J.get _ z ac];exact hga
 have hgb2:U.get (H.next+1)=some (.cells [.a9 g cap] 0 true):=by rw[J.get _ ac ac];exact hgb
 dsimp only[aI];repeat' (first
  |(apply aj ?_;clear hK K)|apply Rx.o ?_|(apply bz (fun L C=>?_) (fun L C=>?_)<;>try(cases L;done))|apply ai ?_|(apply ah fun K hK=>?_)|apply au ?_)
 .refine qc ?_;refine aL ?_ (ur V.ws (base:=H.next+2) (I:=fun(_:Unit) H'=>I H'/\H'.get (H.next+1)=some (.cells [.a9 g cap] 0 true)/\∀r,base<=r->r<H.next+2->H'.get r=U.get r) ?_ (T2 V.wx1 V.we ac hI hq ac ac U) (dQ x.body+1) x.body ac 0 () U ac ac ⟨Z,hgb2,fun _ _ _=>rfl⟩)
  .rintro v H3 ⟨rfl,o,hi3,hg3,Y⟩;have hF3:FrB base U H3:=⟨o.next,fun r h1 h2=>by
    by_cases hr:r<H.next+2
    .exact Y r h1 hr
    .exact o.get r ac h2⟩
   dsimp only[aI];repeat' (first
    |(apply aj ?_;clear hK K)|apply Rx.o ?_|(apply bz (fun L C=>?_) (fun L C=>?_)<;>try(cases L;done))|apply ai ?_|(apply ah fun K hK=>?_)|apply au ?_)
   all_goals refine qq ?_
   exact⟨by simp_all[lP],(O.trans J).trans hF3,hi3⟩
  .intro _ Ha Hb ⟨h1,h2,h3⟩ m;exact⟨hI _ _ h1 (m.cG ac),by rw[m _ ac];exact h2,fun r q1 q2=>by rw[m _ q2];exact h3 r q1 q2⟩
 .all_goals refine qq ?_
  exact⟨by simp_all[lP],O.trans J,Z⟩
end
section
def tyP4f.tyF:=ad @cJ (ad @cM (ad @io (ad @BA (ad @BB (ad @ef (ad @eg (ad @dJ (ad @lU (ad @eC (ad @kT (@fw)))))))))))
open tyP4f
noncomputable def Jf:{c:SC // aG 26 (f92.body.getD .skip)=c}:=by
 refine⟨?_,?_⟩;rotate_left
 .simp only[f92,bK,aG,bF,bw,bH,bI,Nat.blt,Nat.ble];rfl
noncomputable def Jg:{c:SC // aG 27 (f93.body.getD .skip)=c}:=by
 refine⟨?_,?_⟩;rotate_left
 .simp only[f93,bK,aG,bF,bw,bH,bI,Nat.blt,Nat.ble];rfl
noncomputable def Jh:{c:SC // aG 49 (f94.body.getD .skip)=c}:=by
 refine⟨?_,?_⟩;rotate_left
 .simp only[f94,bK,aG,bF,bw,bH,bI,Nat.blt,Nat.ble];rfl
def T3(l:qm)(a s:qn):bR (ri l a) s=(bR l s||bR [a] s):=by
 unfold ri;split
 .rename_i h;rw[oO];by_cases e:s=a
  .rw[e,h];rfl
  .rw[p9 e,lL]
 .rw[mQ]
def Ji(hw:zaa cfg 92){r imm:Nat}{x:List qm}(hg:H.get r=some (.cells (x.map cW) imm true))(hr:r<H.next)(hx:zd x):
 aX prog cfg 92 [.sl r 0 x.length 1] H fun v H'=>v=.map H.next/\(∃l,H'.get H.next=some (.map (ez l))/\∀s,bR l s=bR x.flatten s)/\(∀k,k<H.next->H'.get k=H.get k)/\H.next<H'.next:=by
 obtain⟨hx1,hx2⟩:=hx;have hnm:=EN;refine bA (M:=26) (rs:=[.tmp 2]) (hw.call _) hw.aF hw.ak func92 rfl rfl Jf.2 rfl ?_;dsimp only[Jf,bt,Nat.reduceAdd];repeat' (first
  |(apply aj ?_;clear hK K)|apply Rx.o ?_|apply aD ?_|(apply aO (fun C L=>?_) (fun C L=>?_)<;>try(cases C;done))|apply ai ?_|(apply ah fun K hK=>?_)|apply aq ?_|apply am ?_|apply au ?_|apply aw ?_)
 refine dz [2,3,9,10] [] 11 x.length (fun i E H2=>(∃l,H2.get H.next=some (.map (ez l))/\∀s,bR l s=bR (x.take i).flatten s)/\∀k,k<H.next->H2.get k=H.get k) eE ⟨⟨[],ud,fun s=>rfl⟩,fun k hk=>fC⟩ ?_;rintro i E H2 hi Z Y O hsI ⟨⟨l,m,W⟩,z⟩;(try simp only[bN,bO,bu,aM,a0,Nat.reduceBEq,Nat.reduceAdd,Nat.reduceLeDiff,tyF, *]at Z);(try simp only[bN,bO,bu,aM,a0,Nat.reduceBEq,Nat.reduceAdd,Nat.reduceLeDiff,tyF, *]at Y);(try simp only[bj,bJ,cL,bX,Nat.reduceAdd]at O);repeat' (first
  |(apply aj ?_;clear hK K)|apply Rx.o ?_|apply aD ?_|(apply aO (fun C L=>?_) (fun C L=>?_)<;>try(cases C;done))|apply ai ?_|(apply ah fun K hK=>?_)|apply aq ?_|apply am ?_|apply au ?_|apply aw ?_)
 .have V:i<x.length:=by simpa using C
  have hgx:x[i]?=some x[i]:=bc V;have hsm:=hx2 _ (dU V);have hg2:H2.get r=some (.cells (x.map cW) imm true):=by rw[z r hr];exact hg
  have htk:(x.take (i+1)).flatten=(x.take i).flatten++x[i]:=by rw[kD,hgx,List.flatten_append];simp
  generalize x[i]=I at *;repeat' (first
   |(apply aj ?_;clear hK K)|apply Ry.o ?_|apply ai ?_|(apply ah fun K hK=>?_)|apply aq ?_|apply am ?_|apply au ?_|apply aw ?_)
  refine dz [2,3,9,10,11,15,16] [] 17 I.length (fun j E H3=>(∃l,H3.get H.next=some (.map (ez l))/\∀s,bR l s=bR ((x.take i).flatten++I.take j) s)/\∀k,k<H.next->H3.get k=H.get k) eE ⟨⟨l,m,fun s=>by rw[W,zl,ij]⟩,z⟩ ?_;clear m W l z hg2;rintro j E3 H3 hj Z Y O hsI ⟨⟨l,m,W⟩,z⟩;(try simp only[bN,bO,bu,aM,a0,Nat.reduceBEq,Nat.reduceAdd,Nat.reduceLeDiff,tyF, *]at Z);(try simp only[bN,bO,bu,aM,a0,Nat.reduceBEq,Nat.reduceAdd,Nat.reduceLeDiff,tyF, *]at Y);(try simp only[bj,bJ,cL,bX,Nat.reduceAdd]at O);repeat' (first
   |(apply aj ?_;clear hK K)|apply Rx.o ?_|apply aD ?_|(apply aO (fun C L=>?_) (fun C L=>?_)<;>try(cases C;done))|apply ai ?_|(apply ah fun K hK=>?_)|apply aq ?_|apply am ?_|apply au ?_|apply aw ?_)
  .have U:j<I.length:=by simpa using C
   have J:I[j]?=some I[j]:=bc U;have hup:=Ib m I[j];have o:I.take (j+1)=I.take j++[I[j]]:=by rw[kD,J];rfl
   repeat' (first
    |(apply aj ?_;clear hK K)|apply Rx.o ?_|apply aD ?_|(apply aO (fun C L=>?_) (fun C L=>?_)<;>try(cases C;done))|apply ai ?_|(apply ah fun K hK=>?_)|apply aq ?_|apply am ?_|apply au ?_|apply aw ?_)
   refine⟨ac,bm,bm,cN,HS,?_⟩;refine⟨⟨ri l I[j],by rw[bi,aB cC],fun s=>?_⟩,fun k hk=>by rw[bi,ao ac];exact z k hk⟩;rw[T3,W,o,<-lD,mQ ((x.take i).flatten++I.take j)]
  .have hje:j=I.length:=by simp at C;omega
   repeat' (first
    |(apply aj ?_;clear hK K)|apply Rx.o ?_|apply aD ?_|(apply aO (fun C L=>?_) (fun C L=>?_)<;>try(cases C;done))|apply ai ?_|(apply ah fun K hK=>?_)|apply aq ?_|apply am ?_|apply au ?_|apply aw ?_)
   refine⟨ac,bm,bm,cN,HT,?_⟩;exact⟨⟨l,m,fun s=>by rw[W,htk,hje,xf]⟩,z⟩
 .repeat' (first
   |(apply aj ?_;clear hK K)|apply Rx.o ?_|apply aD ?_|(apply aO (fun C L=>?_) (fun C L=>?_)<;>try(cases C;done))|apply ai ?_|(apply ah fun K hK=>?_)|apply aq ?_|apply am ?_|apply au ?_|apply aw ?_)
  all_goals refine qq ?_
  have hie:i=x.length:=by simp at C;omega
  refine⟨trivial,⟨l,m,fun s=>by rw[W,hie,xf]⟩,z,ac⟩
structure Rs where
 cN:Nat
 mv:Nat
 r5:Nat
 ma:Nat
 r6:Nat
 mf:Nat
 r9:Nat
structure zal (X:Rs) (vs an:qm) (fm:List (bB×Int)) (H:Hp):Prop where
 b12:H.get X.cN=some (.cells [.map X.mv] 0 true)
 bv:∃l,H.get X.mv=some (.map (ez l))/\∀s,bR l s=bR vs s
 b5:H.get X.r5=some (.cells [.map X.ma] 0 true)
 ba:∃l,H.get X.ma=some (.map (ez l))/\∀s,bR l s=bR an s
 b6:H.get X.r6=some (.cells [.map X.mf] 0 true)
 bf:H.get X.mf=some (.map (cu fm))
structure RsLt (X:Rs) (n:Nat):Prop where
 dY:X.cN<n
 lv:X.mv<n
 l5:X.r5<n
 la:X.ma<n
 l6:X.r6<n
 lf:X.mf<n
structure RsNe (X:Rs):Prop where
 dY:X.cN≠X.r9
 lv:X.mv≠X.r9
 l5:X.r5≠X.r9
 la:X.ma≠X.r9
 l6:X.r6≠X.r9
 lf:X.mf≠X.r9
def zal.keep{X:Rs}{Z:qm}(h:zal X vs Z o H)(L:H'.get X.cN=H.get X.cN)(Y:H'.get X.mv=H.get X.mv)(W:H'.get X.r5=H.get X.r5)(J:H'.get X.ma=H.get X.ma)(C:H'.get X.r6=H.get X.r6)(V:H'.get X.mf=H.get X.mf):zal X vs Z o H' where
 b12:=by rw[L];exact h.b12
 bv:=by rw[Y];exact h.bv
 b5:=by rw[W];exact h.b5
 ba:=by rw[J];exact h.ba
 b6:=by rw[C];exact h.b6
 bf:=by rw[V];exact h.bf
def zal.bS{X:Rs}{L:qm}(h:zal X vs L o H)(W:RsLt X n)(k:fu n H H'):zal X vs L o H':=
 h.keep (k _ W.dY) (k _ W.lv) (k _ W.l5) (k _ W.la) (k _ W.l6) (k _ W.lf)
def T4(V:zaa cfg 93){X:Rs}{U:qm}{fm:List (bB×Int)}{base:Nat}(W:RsLt X base)(hI:rq base I)(hR:∀H,I H->zal X vs U fm H):
 uo cfg base I 93 [.ptr X.cN 0,.ptr X.r5 0] fun x _=>jK vs U x:=by
 intro x d H hz z J;obtain⟨L,⟨lv,o,m⟩,h5,⟨la,Z,Y⟩,h6,hf⟩:=hR H J;have l12:=W.dY;have llv:=W.lv;have l5:=W.l5;have lla:=W.la;have g12:(H.alloc (.cells x.cells 0 true)).get X.cN=some (.cells [.map X.mv] 0 true):=by rw[aJ,ao ac];exact L
 have g5:(H.alloc (.cells x.cells 0 true)).get X.r5=some (.cells [.map X.ma] 0 true):=by rw[aJ,ao ac];exact h5
 have gv:(H.alloc (.cells x.cells 0 true)).get X.mv=some (.map (ez lv)):=by rw[aJ,ao ac];exact o
 have ga:(H.alloc (.cells x.cells 0 true)).get X.ma=some (.map (ez la)):=by rw[aJ,ao ac];exact Z
 have kv:=uf gv x.name;have ka:=uf ga x.name;rw[m]at kv;rw[Y]at ka;clear L h5 o Z gv ga m Y hf h6;have e12:(X.cN == H.next)=false:=bQ ac;have e5:(X.r5 == H.next)=false:=bQ ac;simp only[ij,yh];refine bA (M:=27) (rs:=[.tmp 6]) (V.call _) V.aF V.ak func93 rfl rfl Jg.2 rfl ?_;dsimp only[Jg,bt,Nat.reduceAdd];repeat' (first
  |(apply aj ?_;clear hK K)|apply Rx.o ?_|apply ip ?_|(apply bz (fun O C=>?_) (fun O C=>?_)<;>try(cases O;done))|apply ai ?_|(apply ah fun K hK=>?_)|apply au ?_)
 all_goals
  all_goals refine qq ?_
  refine⟨?_,(fU _ _).alloc _,hI _ _ J ((mF _ _).alloc z _)⟩;rw[jK];(try simp only[ge]at *);simp only[ *,gg,cg,cm,Int.reduceEq]
def Jj:jS prog 9=some .string:=aF
def mT(w:Bool):Int:=if w=true then 5 else 0
abbrev qi:HB:=.cells [.int .i64 5] 0 true
theorem T5(hw:zaa cfg 94){X:Rs}{an:qm}{L:List (bB×Int)}{base:Nat}(W:RsLt X base)(h9:X.r9<base)(z:RsNe X):
 wi cfg base (fun(w:Bool) H=>zal X vs an L H/\H.get X.r9=some (.cells [.int .i64 (mT w)] 0 true)) 94 [.ptr X.cN 0,.ptr X.r5 0,.ptr X.r6 0,.ptr X.r9 0] (kh L vs an):=by
 intro x d w H hz U hi;obtain⟨J,I⟩:=hi;have O:=J;obtain⟨C,⟨lv,hv1,hv2⟩,h5,⟨la,ha1,ha2⟩,h6,hf⟩:=J;have l12:=W.dY;have llv:=W.lv;have l5:=W.l5;have lla:=W.la;have l6:=W.l6;have llf:=W.lf;have m:fu base H (H.alloc (.cells x.cells 0 true)):=(mF _ _).alloc U _;have g12:(H.alloc (.cells x.cells 0 true)).get X.cN=some (.cells [.map X.mv] 0 true):=by rw[m _ l12];exact C
 have g5:(H.alloc (.cells x.cells 0 true)).get X.r5=some (.cells [.map X.ma] 0 true):=by rw[m _ l5];exact h5
 have g6:(H.alloc (.cells x.cells 0 true)).get X.r6=some (.cells [.map X.mf] 0 true):=by rw[m _ l6];exact h6
 have g9:(H.alloc (.cells x.cells 0 true)).get X.r9=some (.cells [.int .i64 (mT w)] 0 true):=by rw[m _ h9];exact I
 have gv:(H.alloc (.cells x.cells 0 true)).get X.mv=some (.map (ez lv)):=by rw[m _ llv];exact hv1
 have ga:(H.alloc (.cells x.cells 0 true)).get X.ma=some (.map (ez la)):=by rw[m _ lla];exact ha1
 have gf:(H.alloc (.cells x.cells 0 true)).get X.mf=some (.map (cu L)):=by rw[m _ llf];exact hf
 have gb:(H.alloc (.cells x.cells 0 true)).get H.next=some (.cells x.cells 0 true):=Cy
 have kv:=uf gv x.name;have ka:=uf ga x.name;have kf:=HI (P:=prog) (t:=83) underlying83 Jj aF gf x.to;rw[hv2]at kv;rw[ha2]at ka;have hlen:=tC x.args;have hsz:=x.aV;have V:zal X vs an L (H.alloc (.cells x.cells 0 true)):=O.bS W m;have hx0:∀a b,Ab.extract (.aO [a,b]) 0=some a:=fun _ _=>rfl;have hx1:∀a b,Ab.extract (.aO [a,b]) 1=some b:=fun _ _=>rfl;have o:FrB base H (H.alloc (.cells x.cells 0 true)):=(fU _ _).alloc _;have Z:FrB base H ((H.alloc (.cells x.cells 0 true)).set X.r9 qi):=o.set (.inr h9) _;have Y:zal X vs an L ((H.alloc (.cells x.cells 0 true)).set X.r9 qi):=V.keep (by rw[bi,ao z.dY]) (by rw[bi,ao z.lv]) (by rw[bi,ao z.l5]) (by rw[bi,ao z.la]) (by rw[bi,ao z.l6]) (by rw[bi,ao z.lf]);have hw2:((H.alloc (.cells x.cells 0 true)).set X.r9 qi).get X.r9=some (.cells [.int .i64 (mT true)] 0 true):=yC;have s12:((H.alloc (.cells x.cells 0 true)).set X.r9 qi).get X.cN=some (.cells [.map X.mv] 0 true):=Y.b12;have sb:((H.alloc (.cells x.cells 0 true)).set X.r9 qi).get H.next=some (.cells x.cells 0 true):=by rw[bi,ao ac];exact gb
 have sv:gG prog ((H.alloc (.cells x.cells 0 true)).set X.r9 qi) 155 (.map X.mv) (.ag x.name) false=some (.bool (bR vs x.name)):=by
  obtain⟨l,q1,q2⟩:=Y.bv;rw[uf q1,q2]
 clear C hv1 hv2 h5 ha1 ha2 h6 hf gv ga gf O I m;have e12:(X.cN == H.next)=false:=bQ ac;have e5:(X.r5 == H.next)=false:=bQ ac;have e6:(X.r6 == H.next)=false:=bQ ac;have e9:(X.r9 == H.next)=false:=bQ ac;have d12:(X.cN == X.r9)=false:=bQ z.dY;have dn:(H.next == X.r9)=false:=bQ ac;simp only[ij,yh];refine bA (M:=49) (rs:=[.tmp 8]) (hw.call _) hw.aF hw.ak func94 rfl rfl Jh.2 rfl ?_;dsimp only[Jh,bt,Nat.reduceAdd];repeat' (first
  |(apply aj ?_;clear hK K)|apply Rx.o ?_|apply aD ?_|(apply bz (fun hg hgp=>?_) (fun hg hgp=>?_)<;>try(cases hg;done))|(apply aO (fun hb hbp=>?_) (fun hb hbp=>?_)<;>try(cases hb;done))|apply ai ?_|(apply ah fun K hK=>?_)|apply aq ?_|apply am ?_|apply au ?_)
 all_goals
  all_goals refine qq ?_
  first
  |refine⟨?_,o,V,?_⟩
  |refine⟨?_,Z,Y,?_⟩
  all_goals
   (try rw[g9]);(try rw[hw2]);clear g12 g5 g6 g9 kv ka kf hx0 hx1 gb s12 sb sv V Y o Z hw2 e12 e5 e6 e9 d12 dn W z hlen hsz;simp_all[kh,mT]
end
section
def tyP4g.tyF:=ad @cJ (ad @cM (ad @kQ (ad @kR (ad @fW (ad @lU (ad @dJ (ad @io (ad @eC (ad @kc (ad @kT (ad @fw (ad @BA (ad @BB (ad @CC (@Tq)))))))))))))))
open tyP4g
noncomputable def Jk:{c:SC // aG 67 (f46.body.getD .skip)=c}:=by
 refine⟨?_,?_⟩;rotate_left
 .simp only[f46,bK,aG,bF,bw,bH,bI,Nat.blt,Nat.ble];rfl
noncomputable def zx:qs:=[Cz]
def T6(ρ:Nat->Int):iN prog ρ zx:=⟨If ρ,trivial⟩
set_option maxRecDepth 100000 in
theorem T7(ρ:Nat->Int)(p:Pr)(hz:p.sz<2^36):cp prog ρ 46 (ey p) (.int .i64 (sM p)):=fI fit (pls:=pls) (T6 ρ) (.cons (.agg p.pure) .nil) (.int _ _) (by
 have hw:zaa (aK pls zx) 46:=dK (fun _=>rfl) rfl;have kd:∀H,aX prog (aK pls zx) 90 [.agg p.cells] H fun v H'=>v=.aO [cW (cc p),cW (dO p)]/\H'=H:=fun H=>ev (enc:=ey) (out:=fun p=>.aO [cW (cc p),cW (dO p)]) pO (x:=p) rfl hz;have hps:zam (aK pls zx):=⟨dK (fun _=>rfl) rfl,dK (fun _=>rfl) rfl,dK (fun _=>rfl) rfl,dK (fun _=>rfl) rfl⟩;have hpz:p.sz=1+j6 p.af+j5 p.funcs:=rfl;have hla:=r8 p.af;have hlf:=r0 p.funcs;have hal:(cc p).length=p.af.length:=by simp[cc]
 have hfl:(dO p).length=p.funcs.length:=by simp[dO]
 have hx0:∀a b,Ab.extract (.aO [a,b]) 0=some a:=fun _ _=>rfl;have hx1:∀a b,Ab.extract (.aO [a,b]) 1=some b:=fun _ _=>rfl;have hnm:=EN;rw[ey];refine bA (M:=67) (rs:=[.tmp 2]) (hw.call _) hw.aF hw.ak func46 rfl rfl Jk.2 rfl ?_;dsimp only[Jk,bt,Nat.reduceAdd];repeat' (first
  |(apply aj ?_;clear hK K)|apply Rx.o ?_|apply aD ?_|(apply mK ?_;first|refine Rx.k (kd _) ?_)|(apply bz (fun Y C=>?_) (fun Y C=>?_)<;>try(cases Y;done))|(apply aO (fun Z L=>?_) (fun Z L=>?_)<;>try(cases Z;done))|apply ai ?_|(apply ah fun K hK=>?_)|(apply ci 6 fun K hK=>?_)|apply aq ?_|apply am ?_|apply au ?_|apply aw ?_)
 refine qc ?_;refine aL ?_ (Ji (x:=[cc p]) (imm:=0) (dK (fun _=>rfl) rfl) ud (ct _) ⟨aE,co⟩);rintro v U ⟨rfl,⟨la,hma,hla2⟩,hold,hlt2⟩;simp only[bj,cL]at hma hold hlt2;rw[show([cc p]:List qm).flatten=cc p by simp]at hla2;have g20:U.get 0=some (.cells p.cells 0 true):=by rw[hold 0 ac,aJ,ao aE,aJ,aB cC]
 clear hold;dsimp only[aI];repeat' (first
  |(apply aj ?_;clear hK K)|apply Rx.o ?_|apply aD ?_|(apply bz (fun Y C=>?_) (fun Y C=>?_)<;>try(cases Y;done))|(apply aO (fun Z L=>?_) (fun Z L=>?_)<;>try(cases Z;done))|apply ai ?_|(apply ah fun K hK=>?_)|(apply ci 6 fun K hK=>?_)|apply aq ?_|apply am ?_|apply au ?_|apply aw ?_)
 generalize o:Hp.set (Hp.set _ _ _) _ _=Hs;have ns:U.next+3<=Hs.next:=by rw[<-o];exact az _
 have gs0:Hs.get 0=some (.cells p.cells 0 true):=by rw[<-o,bi,ao ac,bi,ao ac,aJ,ao eh,aJ,ao eh,aJ,ao ac];exact g20
 have gsa:Hs.get 2=some (.map (ez la)):=by rw[<-o,bi,ao ac,bi,ao ac,aJ,ao eh,aJ,ao eh,aJ,ao ac];exact hma
 have gs5:Hs.get (U.next+1)=some (.cells [.map 2] 0 true):=by rw[<-o,bi,ao ac,bi,aB cC]
 have gs6:Hs.get (U.next+2)=some (.cells [.map U.next] 0 true):=by rw[<-o,bi,aB cC]
 have gsf:Hs.get U.next=some (.map (cu [])):=by rw[<-o,bi,ao ac,bi,ao ac,aJ,ao eh,aJ,ao eh,aJ,aB cC];rfl
 clear o hma;have hlt2':3<=U.next:=ac
 clear hlt2;have hE0:(0 == U.next)=false:=bQ ac;have hE2:(2 == U.next)=false:=bQ ac;refine dz [1,2,5,6,23,24] [0,2,U.next+1,U.next+2] 25 p.funcs.length (fun i E H=>∃m,dS (p.funcs.drop i) m=dS p.funcs []/\H.get U.next=some (.map (cu m))) eE ⟨[],aE,gsf⟩ ?_;rintro i E W hi hcE hrH hnH hsI ⟨m,hJ,hm⟩;(try simp only[bN,bO,bu,aM,a0,Nat.reduceBEq,Nat.reduceAdd,Nat.reduceLeDiff,tyF,gs0,gsa,gs5,gs6, *]at hcE);(try simp only[bN,bO,bu,aM,a0,Nat.reduceBEq,Nat.reduceAdd,Nat.reduceLeDiff,tyF,gs0,gsa,gs5,gs6, *]at hrH);(try simp only[bj,bJ,cL,bX,Nat.reduceAdd]at hnH);have hB0:(0 == W.next)=false:=bQ ac;have hC0:(W.next == 0)=false:=bQ ac;have hB1:(2 == W.next)=false:=bQ ac;have hC1:(W.next == 2)=false:=bQ ac;have hB2:(U.next+1 == W.next)=false:=bQ ac;have hC2:(W.next == U.next+1)=false:=bQ ac;have hB3:(U.next+2 == W.next)=false:=bQ ac;have hC3:(W.next == U.next+2)=false:=bQ ac;obtain⟨h30,h3a,h35,h36⟩:=hrH;repeat' (first
  |(apply aj ?_;clear hK K)|apply Rx.o ?_|apply aD ?_|(apply bz (fun Y C=>?_) (fun Y C=>?_)<;>try(cases Y;done))|(apply aO (fun Z L=>?_) (fun Z L=>?_)<;>try(cases Z;done))|apply ai ?_|(apply ah fun K hK=>?_)|(apply ci 6 fun K hK=>?_)|apply aq ?_|apply am ?_|apply au ?_|apply aw ?_)
 .have hlt:i<p.funcs.length:=by simpa using Z
  have hgx:p.funcs[i]?=some p.funcs[i]:=bc hlt;have hgn:(dO p)[i]?=some p.funcs[i].name:=by rw[dO,ii,hgx];rfl
  have hu:=vW (P:=prog) (t:=83) underlying83 Jj hm p.funcs[i].name p.funcs[i].params.length;rw[eM hlt,dS]at hJ;repeat' (first
   |(apply aj ?_;clear hK K)|apply Rx.o ?_|apply aD ?_|(apply bz (fun Y C=>?_) (fun Y C=>?_)<;>try(cases Y;done))|(apply aO (fun Z L=>?_) (fun Z L=>?_)<;>try(cases Z;done))|apply ai ?_|(apply ah fun K hK=>?_)|(apply ci 6 fun K hK=>?_)|apply aq ?_|apply am ?_|apply au ?_|apply aw ?_)
  refine⟨ac,bm,bm,cN,sO,?_⟩;exact⟨_,hJ,eT⟩
 .have hie:i=p.funcs.length:=by simp at Z;omega
  rw[hie,oQ,dS]at hJ;subst hJ;clear hie hsI hi Z L;repeat' (first
   |(apply aj ?_;clear hK K)|apply Rx.o ?_|apply aD ?_|(apply bz (fun Y C=>?_) (fun Y C=>?_)<;>try(cases Y;done))|(apply aO (fun Z L=>?_) (fun Z L=>?_)<;>try(cases Z;done))|apply ai ?_|(apply ah fun K hK=>?_)|(apply ci 6 fun K hK=>?_)|apply aq ?_|apply am ?_|apply au ?_|apply aw ?_)
  generalize hHq:Hp.set (Hp.alloc W _) _ _=Hq;have nq:W.next+1<=Hq.next:=by rw[<-hHq];exact az _
  have z:∀k,k<W.next->Hq.get k=W.get k:=fun k hk=>by rw[<-hHq,bi,ao ac,aJ,ao ac]
  have q9:Hq.get W.next=some (.cells [.int .i64 (mT false)] 0 true):=by rw[<-hHq,bi,aB rfl];rfl
  clear hHq;refine dz [5,6,9,41,42] [] 43 p.funcs.length (fun i E H=>∃w,H.get W.next=some (.cells [.int .i64 (mT w)] 0 true)/\sM p=oP (dS p.funcs []) (cc p) (p.funcs.drop i) w/\H.get (U.next+1)=some (.cells [.map 2] 0 true)/\(∃l,H.get 2=some (.map (ez l))/\∀s,bR l s=bR (cc p) s)/\H.get (U.next+2)=some (.cells [.map U.next] 0 true)/\H.get U.next=some (.map (cu (dS p.funcs [])))) eE ⟨false,q9,rfl,by rw[z _ ac];exact h35,⟨la,by rw[z _ ac];exact h3a,hla2⟩,by rw[z _ ac];exact h36,by rw[z _ ac];exact hm⟩ ?_;clear hm hla2 la h30 h3a h35 h36 gs0 gsa gs5 gs6 gsf q9 z;rintro i E H4 hi hcE hrH hnH hsI ⟨w,g9,hJ,g5,⟨la,ga,hla⟩,g6,gf⟩;(try simp only[bN,bO,bu,aM,a0,Nat.reduceBEq,Nat.reduceAdd,Nat.reduceLeDiff,tyF, *]at hcE);(try simp only[bN,bO,bu,aM,a0,Nat.reduceBEq,Nat.reduceAdd,Nat.reduceLeDiff,tyF, *]at hrH);(try simp only[bj,bJ,cL,bX,Nat.reduceAdd]at hnH);repeat' (first
   |(apply aj ?_;clear hK K)|apply Rx.o ?_|apply aD ?_|(apply bz (fun Y C=>?_) (fun Y C=>?_)<;>try(cases Y;done))|(apply aO (fun Z L=>?_) (fun Z L=>?_)<;>try(cases Z;done))|apply ai ?_|(apply ah fun K hK=>?_)|(apply ci 6 fun K hK=>?_)|apply aq ?_|apply am ?_|apply au ?_|apply aw ?_)
  .have hlt:i<p.funcs.length:=by simpa using Z
   have hgx:p.funcs[i]?=some p.funcs[i]:=bc hlt;have hsm:=se (dU hlt);have hsz:p.funcs[i].sz=1+p.funcs[i].name.length+eN p.funcs[i].params+eN p.funcs[i].ai+dQ p.funcs[i].body+p.funcs[i].value.sz:=rfl;have hpl:=pF p.funcs[i].params;have hll:=pF p.funcs[i].ai;have hdr:oP (dS p.funcs []) (cc p) (p.funcs.drop i) w=if lP (fun x _=>jK (p.funcs[i].params++p.funcs[i].ai) (cc p) x) p.funcs[i]=true/\(dk (kh (dS p.funcs []) (p.funcs[i].params++p.funcs[i].ai) (cc p)) p.funcs[i].body 0 w).1=true then oP (dS p.funcs []) (cc p) (p.funcs.drop (i+1)) (dk (kh (dS p.funcs []) (p.funcs[i].params++p.funcs[i].ai) (cc p)) p.funcs[i].body 0 w).2 else 3:=by rw[eM hlt];rfl
   rw[hdr]at hJ;clear hdr;have hfz:p.funcs[i].sz<2^60:=ac;generalize p.funcs[i]=g at *;repeat' (first
    |(apply aj ?_;clear hK K)|apply Rx.o ?_|apply aD ?_|(apply bz (fun Y C=>?_) (fun Y C=>?_)<;>try(cases Y;done))|(apply aO (fun Z L=>?_) (fun Z L=>?_)<;>try(cases Z;done))|apply ai ?_|(apply ah fun K hK=>?_)|(apply ci 6 fun K hK=>?_)|apply aq ?_|apply am ?_|apply au ?_|apply aw ?_)
   generalize hHb:Hp.alloc (Hp.set _ _ _) _=Hb;have nb:Hb.next=H4.next+2:=by rw[<-hHb];rfl
   have oldb:∀k,k<H4.next->Hb.get k=H4.get k:=fun k hk=>by rw[<-hHb,aJ,ao uc,bi,ao ac,aJ,ao ac]
   have gbr:Hb.get (H4.next+1)=some (.cells [cW g.params,cW g.ai] 0 true):=by rw[<-hHb,aJ,aB cC]
   have gb11:Hb.get H4.next=some (.cells g.cells 0 true):=by rw[<-hHb,aJ,ao uc,bi,aB rfl]
   clear hHb;refine qc ?_;refine aL ?_ (Ji (x:=[g.params,g.ai]) (imm:=0) (dK (fun _=>rfl) rfl) gbr ac ⟨aE,co⟩);rintro v O ⟨rfl,⟨lv,hmv,hlv⟩,old5,n5⟩;rw[show([g.params,g.ai]:List qm).flatten=g.params++g.ai by simp]at hlv;have o5:∀k,k<H4.next->O.get k=H4.get k:=fun k hk=>by rw[old5 k ac,oldb k hk]
   have g511:O.get H4.next=some (.cells g.cells 0 true):=by rw[old5 _ ac];exact gb11
   have g59:O.get W.next=some (.cells [.int .i64 (mT w)] 0 true):=by rw[o5 _ ac];exact g9
   have g55:O.get (U.next+1)=some (.cells [.map 2] 0 true):=by rw[o5 _ ac];exact g5
   have g5a:O.get 2=some (.map (ez la)):=by rw[o5 _ ac];exact ga
   have g56:O.get (U.next+2)=some (.cells [.map U.next] 0 true):=by rw[o5 _ ac];exact g6
   have g5f:O.get U.next=some (.map (cu (dS p.funcs []))):=by rw[o5 _ ac];exact gf
   clear o5 old5 gbr gb11 oldb g9 g5 ga g6 gf;have e1:(H4.next == O.next)=false:=bQ ac;dsimp only[aI];repeat' (first
    |(apply aj ?_;clear hK K)|apply Rx.o ?_|apply aD ?_|(apply bz (fun Y C=>?_) (fun Y C=>?_)<;>try(cases Y;done))|(apply aO (fun Z L=>?_) (fun Z L=>?_)<;>try(cases Z;done))|apply ai ?_|(apply ah fun K hK=>?_)|(apply ci 6 fun K hK=>?_)|apply aq ?_|apply am ?_|apply au ?_|apply aw ?_)
   generalize hHd:Hp.set (Hp.alloc O _) _ _=Hd;have nd:Hd.next=O.next+1:=by rw[<-hHd];rfl
   have V:∀k,k<O.next->Hd.get k=O.get k:=fun k hk=>by rw[<-hHd,bi,ao ac,aJ,ao ac]
   have d12:Hd.get O.next=some (.cells [.map Hb.next] 0 true):=by rw[<-hHd,bi,aB rfl,nb]
   clear hHd;have hok:zal ⟨O.next,Hb.next,U.next+1,2,U.next+2,U.next,W.next⟩ (g.params++g.ai) (cc p) (dS p.funcs []) Hd:={
    b12:=d12
    bv:=⟨lv,by show Hd.get Hb.next=_;rw[V _ n5];exact hmv,hlv⟩
    b5:=by show Hd.get (U.next+1)=_;rw[V _ ac];exact g55
    ba:=⟨la,by show Hd.get 2=_;rw[V _ ac];exact g5a,hla⟩
    b6:=by show Hd.get (U.next+2)=_;rw[V _ ac];exact g56
    bf:=by show Hd.get U.next=_;rw[V _ ac];exact g5f}
   have hd9:Hd.get W.next=some (.cells [.int .i64 (mT w)] 0 true):=by rw[V _ ac];exact g59
   have hd11:Hd.get H4.next=some (.cells g.cells 0 true):=by rw[V _ ac];exact g511
   have hlX:∀n,Hd.next<=n->RsLt ⟨O.next,Hb.next,U.next+1,2,U.next+2,U.next,W.next⟩ n:=fun n hn=>⟨by show O.next<n;omega,by show Hb.next<n;omega,by show U.next+1<n;omega,by show 2<n;omega,by show U.next+2<n;omega,by show U.next<n;omega⟩
   have hnX:RsNe ⟨O.next,Hb.next,U.next+1,2,U.next+2,U.next,W.next⟩:=⟨by show O.next≠W.next;omega,by show Hb.next≠W.next;omega,by show U.next+1≠W.next;omega,by show 2≠W.next;omega,by show U.next+2≠W.next;omega,by show U.next≠W.next;omega⟩;clear g59 g55 g5a g56 g5f d12 V hmv hlv hla g511;refine qc ?_;refine aL ?_ (Je hps (I:=fun H'=>fu Hd.next Hd H') (fun a b h1 h2=>h1.trans h2) (T4 (dK (fun _=>rfl) rfl) (hlX _ (az _)) (fun a b h1 h2=>h1.trans h2) fun H' h=>hok.bS (hlX _ (az _)) h) g Hd hfz (az _) (mF _ _));rintro v H6 ⟨rfl,hf6,J⟩;have n6:=hf6.next
   have hok6:=hok.bS (hlX _ (az _)) J;have h69:H6.get W.next=some (.cells [.int .i64 (mT w)] 0 true):=by rw[J _ ac];exact hd9
   have h611:H6.get H4.next=some (.cells g.cells 0 true):=by rw[J _ ac];exact hd11
   clear J hf6 hok hd9 hd11;dsimp only[aI];cases hwf:lP (fun x _=>jK (g.params++g.ai) (cc p) x) g with
   |false=>
    repeat' (first
     |(apply aj ?_;clear hK K)|apply Rx.o ?_|apply aD ?_|(apply bz (fun Y C=>?_) (fun Y C=>?_)<;>try(cases Y;done))|(apply aO (fun Z L=>?_) (fun Z L=>?_)<;>try(cases Z;done))|apply ai ?_|(apply ah fun K hK=>?_)|(apply ci 6 fun K hK=>?_)|apply aq ?_|apply am ?_|apply au ?_|apply aw ?_)
    all_goals refine qq ?_
    rw[hJ,hwf];simp
   |true=>
    rw[hwf]at hJ;repeat' (first
     |(apply aj ?_;clear hK K)|apply Rx.o ?_|apply aD ?_|(apply bz (fun Y C=>?_) (fun Y C=>?_)<;>try(cases Y;done))|(apply aO (fun Z L=>?_) (fun Z L=>?_)<;>try(cases Z;done))|apply ai ?_|(apply ah fun K hK=>?_)|(apply ci 6 fun K hK=>?_)|apply aq ?_|apply am ?_|apply au ?_|apply aw ?_)
    refine qc ?_;refine aL ?_ (ur (dK (fun _=>rfl) rfl) (base:=H6.next) (I:=fun(w:Bool) H=>zal ⟨O.next,Hb.next,U.next+1,2,U.next+2,U.next,W.next⟩ (g.params++g.ai) (cc p) (dS p.funcs []) H/\H.get W.next=some (.cells [.int .i64 (mT w)] 0 true)) (fun s a b h1 h2=>⟨h1.1.bS (hlX _ n6) h2,by rw[h2 _ ac];exact h1.2⟩) (T5 (dK (fun _=>rfl) rfl) (hlX _ n6) (by show W.next<_;omega) hnX) (dQ g.body+1) g.body ac 0 w H6 ac (az _) ⟨hok6,h69⟩);rintro v H7 ⟨rfl,hf7,hok7,h79⟩;have n7:=hf7.next
    dsimp only[aI];repeat' (first
     |(apply aj ?_;clear hK K)|apply Rx.o ?_|apply aD ?_|(apply bz (fun Y C=>?_) (fun Y C=>?_)<;>try(cases Y;done))|(apply aO (fun Z L=>?_) (fun Z L=>?_)<;>try(cases Z;done))|apply ai ?_|(apply ah fun K hK=>?_)|(apply ci 6 fun K hK=>?_)|apply aq ?_|apply am ?_|apply au ?_|apply aw ?_)
    .all_goals refine qq ?_
     rw[hJ];simp_all
    .refine⟨ac,bm,bm,cN,sO,?_⟩;refine⟨_,h79,?_,hok7.b5,hok7.ba,hok7.b6,hok7.bf⟩;rw[hJ,aB ⟨rfl,by simp_all⟩]
  .repeat' (first
    |(apply aj ?_;clear hK K)|apply Rx.o ?_|apply aD ?_|(apply bz (fun Y C=>?_) (fun Y C=>?_)<;>try(cases Y;done))|(apply aO (fun Z L=>?_) (fun Z L=>?_)<;>try(cases Z;done))|apply ai ?_|(apply ah fun K hK=>?_)|(apply ci 6 fun K hK=>?_)|apply aq ?_|apply am ?_|apply au ?_|apply aw ?_)
   all_goals refine qq ?_
   have hie:i=p.funcs.length:=zb;rw[hJ,hie,oQ,oP,mT])
end
section
def tyW4e.tyF:=ad @cJ (ad @cM (ad @kQ (ad @kR (ad @fW (ad @dJ (ad @io (ad @eC (ad @kc (ad @pJ (@fw))))))))))
open tyW4e
noncomputable def Jl:{c:SC // aG 68 (f43.body.getD .skip)=c}:=by
 refine⟨?_,?_⟩;rotate_left
 .simp only[f43,bK,aG,bF,bw,bH,bI,Nat.blt,Nat.ble];rfl
theorem T8(hp:zam cfg)(hw:zaa cfg 43)(h1w:zaa cfg 82)(h2w:zaa cfg 84)(p:Pr)(hz:p.sz<2^60):
 aX prog cfg 43 [.agg p.cells] bE fun v _=>v=.bool (iZ p):=by
 have hpz:p.sz=1+j6 p.af+j5 p.funcs:=rfl;have hla:=r8 p.af;have hlf:=r0 p.funcs;have hla2:p.af.length<2^60:=ac;have hlf2:p.funcs.length<2^60:=ac;refine bA (M:=68) (rs:=[.tmp 2]) (hw.call _) hw.aF hw.ak func43 rfl rfl Jl.2 rfl ?_;dsimp only[Jl,bt,Nat.reduceAdd];repeat' (first
  |(apply aj ?_;clear hK K)|apply Rx.o ?_|apply aD ?_|(apply bz (fun Y C=>?_) (fun Y C=>?_)<;>try(cases Y;done))|(apply aO (fun Z L=>?_) (fun Z L=>?_)<;>try(cases Z;done))|apply ai ?_|(apply ah fun K hK=>?_)|apply aq ?_|apply am ?_|apply au ?_|apply aw ?_)
 .all_goals refine qq ?_
  simp_all[iZ];try(intros;omega)
 .refine kK (fun i E H=>p.af.all (fun a=>!decide (a.len<1) && !decide (16<a.len))=(p.af.drop i).all (fun a=>!decide (a.len<1) && !decide (16<a.len))/\E.at 1=.ptr 0 0/\E.at 21=.aq (p.af.map Ar.cells)/\E.at 22=.int .i64 p.af.length/\E.at 23=.int .i64 i/\0<H.next/\H.get 0=some (.cells p.cells 0 true)) p.af.length ?_ ?_
  .rintro i E H hi ⟨hc,h1,h21,h22,h23,hn,hg0⟩;have e0:(0 == H.next)=false:=co;repeat' (first
    |(apply aj ?_;clear hK K)|apply Rx.o ?_|apply aD ?_|(apply bz (fun Y C=>?_) (fun Y C=>?_)<;>try(cases Y;done))|(apply aO (fun Z L=>?_) (fun Z L=>?_)<;>try(cases Z;done))|apply ai ?_|(apply ah fun K hK=>?_)|apply aq ?_|apply am ?_|apply au ?_|apply aw ?_)
   .have O:i<p.af.length:=by simpa using Z
    have hgx:p.af[i]?=some p.af[i]:=bc O;have hd:(p.af.drop i).all (fun a=>!decide (a.len<1) && !decide (16<a.len))=((!decide (p.af[i].len<1) && !decide (16<p.af[i].len))&&(p.af.drop (i+1)).all (fun a=>!decide (a.len<1) && !decide (16<a.len))):=wg;repeat' (first
     |(apply aj ?_;clear hK K)|apply Rx.o ?_|apply aD ?_|(apply bz (fun Y C=>?_) (fun Y C=>?_)<;>try(cases Y;done))|(apply aO (fun Z L=>?_) (fun Z L=>?_)<;>try(cases Z;done))|apply ai ?_|(apply ah fun K hK=>?_)|apply aq ?_|apply am ?_|apply au ?_|apply aw ?_)
    .all_goals refine qq ?_
     have V:p.af.all (fun a=>!decide (a.len<1) && !decide (16<a.len))=false:=by rw[hc,hd];simp_all
     simp only[iZ,V];simp
    .refine⟨O,?_,eE,eE,eE,?_,uc,BG⟩
     .rw[hc,hd];simp_all
     .simp only[gO,Nat.reduceBEq,gy,gP (show i<2^62 by omega)]
    .all_goals refine qq ?_
     have V:p.af.all (fun a=>!decide (a.len<1) && !decide (16<a.len))=false:=by rw[hc,hd];simp_all
     simp only[iZ,V];simp
   .have hia:i=p.af.length:=by simp at Z;omega
    have hca:p.af.all (fun a=>!decide (a.len<1) && !decide (16<a.len))=true:=by rw[hc,hia];simp
    clear hc;repeat' (first
     |(apply aj ?_;clear hK K)|apply Rx.o ?_|apply aD ?_|(apply bz (fun Y C=>?_) (fun Y C=>?_)<;>try(cases Y;done))|(apply aO (fun Z L=>?_) (fun Z L=>?_)<;>try(cases Z;done))|apply ai ?_|(apply ah fun K hK=>?_)|apply aq ?_|apply am ?_|apply au ?_|apply aw ?_)
    refine kK (fun i E H=>p.funcs.all gQ=(p.funcs.drop i).all gQ/\E.at 37=.aq (p.funcs.map Fu.cells)/\E.at 38=.int .i64 p.funcs.length/\E.at 39=.int .i64 i/\0<H.next) p.funcs.length ?_ ?_
    .rintro i E H hi ⟨hc,h37,h38,h39,hn⟩;repeat' (first
      |(apply aj ?_;clear hK K)|apply Rx.o ?_|apply aD ?_|(apply bz (fun Y C=>?_) (fun Y C=>?_)<;>try(cases Y;done))|(apply aO (fun Z L=>?_) (fun Z L=>?_)<;>try(cases Z;done))|apply ai ?_|(apply ah fun K hK=>?_)|apply aq ?_|apply am ?_|apply au ?_|apply aw ?_)
     .have O:i<p.funcs.length:=by simpa using Z
      have hgx:p.funcs[i]?=some p.funcs[i]:=bc O;have hd:(p.funcs.drop i).all gQ=(gQ p.funcs[i]&&(p.funcs.drop (i+1)).all gQ):=wg;have hxm:=se (dU O);generalize hx0:p.funcs[i]=x at *;have hsx:x.sz=1+x.name.length+eN x.params+eN x.ai+dQ x.body+x.value.sz:=rfl;repeat' (first
       |(apply aj ?_;clear hK K)|apply Rx.o ?_|apply aD ?_|(apply bz (fun Y C=>?_) (fun Y C=>?_)<;>try(cases Y;done))|(apply aO (fun Z L=>?_) (fun Z L=>?_)<;>try(cases Z;done))|apply ai ?_|(apply ah fun K hK=>?_)|apply aq ?_|apply am ?_|apply au ?_|apply aw ?_)
      .generalize J:Hp.set _ (H.next+2) _=z;have hn5:z.next=H.next+3:=by rw[<-J];rfl
       have o:z.get H.next=some (.cells x.cells 0 true):=wh
       have hg5b:z.get (H.next+1)=some (.cells [.int .i64 0] 0 true):=wh;have hg5c:z.get (H.next+2)=some (.cells [.int .i64 0] 0 true):=wh;refine qc ?_;refine aL ?_ (ur hp.ws (base:=H.next+3) (fun s Ha Hb h m=>⟨by rw[m _ ac];exact h.1,by rw[m _ ac];exact h.2.1,fun r q1 q2 q3=>by rw[m r q1];exact h.2.2 r q1 q2 q3⟩) (T0 h1w (base:=H.next+3) (rn:=H.next+1) (rl:=H.next+2) ac ac ac z) (dQ x.body+1) x.body ac 0 (0,0) z ac ac ⟨hg5b,hg5c,fun _ _ _ _=>rfl⟩);rintro v H6 ⟨rfl,hf6,hi6⟩;have hn6:=hf6.next
       have hg6:H6.get H.next=some (.cells x.cells 0 true):=by rw[hi6.2.2 _ ac ac ac];exact o
       dsimp only[aI];repeat' (first
        |(apply aj ?_;clear hK K)|apply Rx.o ?_|apply aD ?_|(apply bz (fun Y C=>?_) (fun Y C=>?_)<;>try(cases Y;done))|(apply aO (fun Z L=>?_) (fun Z L=>?_)<;>try(cases Z;done))|apply ai ?_|(apply ah fun K hK=>?_)|apply aq ?_|apply am ?_|apply au ?_|apply aw ?_)
       .refine qc ?_;refine aL ?_ (Je hp (base:=0) (I:=fun _=>True) (fun _ _ _ _=>trivial) (T1 h2w (fun _ _ _ _=>trivial)) x H6 ac ac trivial);rintro v H7 ⟨rfl,hf7,_⟩;have hn7:=hf7.next
        dsimp only[aI];repeat' (first
         |(apply aj ?_;clear hK K)|apply Rx.o ?_|apply aD ?_|(apply bz (fun Y C=>?_) (fun Y C=>?_)<;>try(cases Y;done))|(apply aO (fun Z L=>?_) (fun Z L=>?_)<;>try(cases Z;done))|apply ai ?_|(apply ah fun K hK=>?_)|apply aq ?_|apply am ?_|apply au ?_|apply aw ?_)
        .all_goals refine qq ?_
         have W:p.funcs.all gQ=false:=by rw[hc,hd];simp_all[gQ]
         simp only[iZ,W];simp
        .refine⟨O,?_,eE,eE,?_,ac⟩
         .rw[hc,hd];simp_all[gQ]
         .simp only[gO,Nat.reduceBEq,gy,gP (show i<2^62 by omega)]
       .all_goals refine qq ?_
        have W:p.funcs.all gQ=false:=by rw[hc,hd];simp_all[gQ]
        simp only[iZ,W];simp
      .all_goals refine qq ?_
       have U:gQ x=false:=by
        simp only[gQ,sr,iL];first|exact .inl (.inl (.inl og))|exact .inl (.inl (.inr og))
       have W:p.funcs.all gQ=false:=by rw[hc,hd,U,jI]
       simp only[iZ,W];simp
      .all_goals refine qq ?_
       have U:gQ x=false:=by
        simp only[gQ,sr,iL];first|exact .inl (.inl (.inl og))|exact .inl (.inl (.inr og))
       have W:p.funcs.all gQ=false:=by rw[hc,hd,U,jI]
       simp only[iZ,W];simp
     .all_goals refine qq ?_
      have:i=p.funcs.length:=zb;simp_all[iZ];try(intros;omega)
    .exact⟨rfl,eE,eE,eE,ac⟩
  .exact⟨rfl,eE,eE,eE,eE,by simp[bj,cL],BG⟩
 .all_goals refine qq ?_
  simp_all[iZ];try(intros;omega)
end
section
def tyW4f.tyF:=ad @cJ (ad @oG (@cM))
open tyW4f
noncomputable def Jm:{c:SC // aG 21 (f158.body.getD .skip)=c}:=by
 refine⟨?_,?_⟩;rotate_left
 .simp only[f158,bK,aG,bF,bw,bH,bI,Nat.blt,Nat.ble];rfl
noncomputable def Jn:{c:SC // aG 9 (f155.body.getD .skip)=c}:=by
 refine⟨?_,?_⟩;rotate_left
 .simp only[f155,bK,aG,bF,bw,bH,bI,Nat.blt,Nat.ble];rfl
noncomputable def Jo:{c:SC // aG 23 (f153.body.getD .skip)=c}:=by
 refine⟨?_,?_⟩;rotate_left
 .simp only[f153,bK,aG,bF,bw,bH,bI,Nat.blt,Nat.ble];rfl
noncomputable def Jp:{c:SC // aG 34 (f141.body.getD .skip)=c}:=by
 refine⟨?_,?_⟩;rotate_left
 .simp only[f141,bK,aG,bF,bw,bH,bI,Nat.blt,Nat.ble];rfl
noncomputable def Jq:{c:SC // aG 37 (f156.body.getD .skip)=c}:=by
 refine⟨?_,?_⟩;rotate_left
 .simp only[f156,bK,aG,bF,bw,bH,bI,Nat.blt,Nat.ble];rfl
theorem T9(V:zaa cfg 158)(n:Int)(H:Hp):aX prog cfg 158 [.int .u8 n] H fun v H'=>v=.bool (fV n)/\H'=H:=by
 refine bA (M:=21) (rs:=[.tmp 2]) (V.call _) V.aF V.ak func158 rfl rfl Jm.2 rfl ?_;dsimp only[Jm,bt,Nat.reduceAdd];repeat' (first
  |(apply aj ?_;clear hK K)|apply Rx.o ?_|apply ip ?_|(apply bz (fun L C=>?_) (fun L C=>?_)<;>try(cases L;done))|apply ai ?_|(apply ah fun K hK=>?_)|apply au ?_)
 all_goals refine qq ?_
 all_goals (refine⟨?_,iS⟩;simp_all[fV]<;>omega)
theorem CM(V:zaa cfg 155)(n:Int)(H:Hp):aX prog cfg 155 [.int .u8 n] H fun v H'=>v=.bool (eW n)/\H'=H:=by
 refine bA (M:=9) (rs:=[.tmp 2]) (V.call _) V.aF V.ak func155 rfl rfl Jn.2 rfl ?_;dsimp only[Jn,bt,Nat.reduceAdd];repeat' (first
  |(apply aj ?_;clear hK K)|apply Rx.o ?_|(apply bz (fun L C=>?_) (fun L C=>?_)<;>try(cases L;done))|apply ai ?_|(apply ah fun K hK=>?_)|apply au ?_)
 all_goals refine qq ?_
 all_goals (refine⟨?_,iS⟩;simp_all[eW]<;>omega)
theorem Ua(U:zaa cfg 153)(I:zaa cfg 158)(hd:zaa cfg 155)(s:qn)(o:s.length<2^60)(H:Hp):
 aX prog cfg 153 [.ag s] H fun v H'=>v=.int .i64 (cq s)/\H'=H:=by
 refine bA (M:=23) (rs:=[.tmp 2]) (U.call _) U.aF U.ak func153 rfl rfl Jo.2 rfl ?_;dsimp only[Jo,bt,Nat.reduceAdd];repeat' (first
  |(apply aj ?_;clear hK K)|apply Rx.o ?_|apply ip ?_|(apply bz (fun Z C=>?_) (fun Z C=>?_)<;>try(cases Z;done))|(apply aO (fun Y L=>?_) (fun Y L=>?_)<;>try(cases Y;done))|apply ai ?_|(apply ah fun K hK=>?_)|apply aq ?_|apply am ?_|apply au ?_|apply aw ?_)
 refine kK (fun i E H'=>cq s=i+cq (s.drop i)/\E.at 0=.ag s/\E.at 3=.int .i64 i/\H'=H) s.length ?_ ?_
 .rintro i E H' m ⟨hc,h0,h3,rfl⟩;repeat' (first
   |(apply aj ?_;clear hK K)|apply Rx.o ?_|apply ip ?_|(apply bz (fun Z C=>?_) (fun Z C=>?_)<;>try(cases Z;done))|(apply aO (fun Y L=>?_) (fun Y L=>?_)<;>try(cases Y;done))|apply ai ?_|(apply ah fun K hK=>?_)|apply aq ?_|apply am ?_|apply au ?_|apply aw ?_)
  .have O:i<s.length:=by omega
   have z:s[i]?=some s[i]:=bc O;have V:cq (s.drop i)=if ee s[i]then cq (s.drop (i+1))+1 else 0:=by rw[eM O,cq]
   repeat' (first
    |(apply aj ?_;clear hK K)|apply Rx.o ?_|apply ip ?_|(apply bz (fun Z C=>?_) (fun Z C=>?_)<;>try(cases Z;done))|(apply aO (fun Y L=>?_) (fun Y L=>?_)<;>try(cases Y;done))|apply ai ?_|(apply ah fun K hK=>?_)|apply aq ?_|apply am ?_|apply au ?_|apply aw ?_)
   refine qc ?_;refine aL ?_ (T9 I s[i].toNat H');rintro v _ ⟨rfl,rfl⟩;dsimp only[aI];repeat' (first
    |(apply aj ?_;clear hK K)|apply Rx.o ?_|apply ip ?_|(apply bz (fun Z C=>?_) (fun Z C=>?_)<;>try(cases Z;done))|(apply aO (fun Y L=>?_) (fun Y L=>?_)<;>try(cases Y;done))|apply ai ?_|(apply ah fun K hK=>?_)|apply aq ?_|apply am ?_|apply au ?_|apply aw ?_)
   .refine qc ?_;refine aL ?_ (CM hd s[i].toNat _);rintro v _ ⟨rfl,rfl⟩;dsimp only[aI];repeat' (first
     |(apply aj ?_;clear hK K)|apply Rx.o ?_|apply ip ?_|(apply bz (fun Z C=>?_) (fun Z C=>?_)<;>try(cases Z;done))|(apply aO (fun Y L=>?_) (fun Y L=>?_)<;>try(cases Y;done))|apply ai ?_|(apply ah fun K hK=>?_)|apply aq ?_|apply am ?_|apply au ?_|apply aw ?_)
    .have W:ee s[i]=true:=by simp_all[ee]
     refine⟨O,?_,eE,?_,rfl⟩
     .rw[hc,V,W];simp;omega
     .simp only[gO,Nat.reduceBEq,gy,gP (show i<2^62 by omega)]
    .have W:ee s[i]=false:=by simp_all[ee]
     all_goals refine qq ?_
     exact⟨by rw[hc,V,W];simp,iS⟩
   .have W:ee s[i]=true:=by simp_all[ee]
    refine⟨O,?_,eE,?_,rfl⟩
    .rw[hc,V,W];simp;omega
    .simp only[gO,Nat.reduceBEq,gy,gP (show i<2^62 by omega)]
  .all_goals refine qq ?_
   have J:i=s.length:=ac;refine⟨?_,iS⟩;rw[hc,J];simp[cq]
 .exact⟨aE,eE,eE,rfl⟩
theorem Jr(m:zaa cfg 141)(s:qn)(hs:s.length<2^60)(H:Hp):
 aX prog cfg 141 [.ag s] H fun v H'=>v=.int .i64 (dI false s)/\H'=H:=by
 refine bA (M:=34) (rs:=[.tmp 2]) (m.call _) m.aF m.ak func141 rfl rfl Jp.2 rfl ?_;dsimp only[Jp,bt,Nat.reduceAdd];repeat' (first
  |(apply aj ?_;clear hK K)|apply Rx.o ?_|(apply bz (fun Z C=>?_) (fun Z C=>?_)<;>try(cases Z;done))|(apply aO (fun W L=>?_) (fun W L=>?_)<;>try(cases W;done))|apply ai ?_|(apply ah fun K hK=>?_)|apply aq ?_|apply am ?_|apply au ?_|apply aw ?_)
 refine vt (fun n E H'=>∃i:Nat,n=s.length-i/\i<=s.length/\dI false s=i+dI false (s.drop i)/\E.at 0=.ag s/\E.at 3=.int .i64 i/\H'=H) ?_ (n:=s.length) ?_
 .rintro n E H' ⟨i,rfl,hi,hc,h0,h3,rfl⟩;repeat' (first
   |(apply aj ?_;clear hK K)|apply Rx.o ?_|(apply bz (fun Z C=>?_) (fun Z C=>?_)<;>try(cases Z;done))|(apply aO (fun W L=>?_) (fun W L=>?_)<;>try(cases W;done))|apply ai ?_|(apply ah fun K hK=>?_)|apply aq ?_|apply am ?_|apply au ?_|apply aw ?_)
  .have J:i<s.length:=by omega
   have hgx:s[i]?=some s[i]:=bc J;have V:dI false (s.drop i)=if fF s[i]then dI false (s.drop (i+1))+1 else if s[i].toNat=35 then dI true (s.drop (i+1))+1 else 0:=by rw[eM J,dI]
   repeat' (first
    |(apply aj ?_;clear hK K)|apply Rx.o ?_|(apply bz (fun Z C=>?_) (fun Z C=>?_)<;>try(cases Z;done))|(apply aO (fun W L=>?_) (fun W L=>?_)<;>try(cases W;done))|apply ai ?_|(apply ah fun K hK=>?_)|apply aq ?_|apply am ?_|apply au ?_|apply aw ?_)
   .have Y:fF s[i]=true:=by unfold fF;simp;omega
    refine⟨s.length-(i+1),ac,i+1,rfl,ac,?_,eE,?_,rfl⟩
    .rw[hc,V,aB Y];omega
    .simp only[gO,Nat.reduceBEq,gy,gP (show i<2^62 by omega)]
   .have Y:fF s[i]=true:=by unfold fF;simp;omega
    refine⟨s.length-(i+1),ac,i+1,rfl,ac,?_,eE,?_,rfl⟩
    .rw[hc,V,aB Y];omega
    .simp only[gO,Nat.reduceBEq,gy,gP (show i<2^62 by omega)]
   .have Y:fF s[i]=true:=by unfold fF;simp;omega
    refine⟨s.length-(i+1),ac,i+1,rfl,ac,?_,eE,?_,rfl⟩
    .rw[hc,V,aB Y];omega
    .simp only[gO,Nat.reduceBEq,gy,gP (show i<2^62 by omega)]
   .have Y:fF s[i]=true:=by unfold fF;simp;omega
    refine⟨s.length-(i+1),ac,i+1,rfl,ac,?_,eE,?_,rfl⟩
    .rw[hc,V,aB Y];omega
    .simp only[gO,Nat.reduceBEq,gy,gP (show i<2^62 by omega)]
   .have I:s[i].toNat=35:=by omega
    have Y:fF s[i]=false:=by unfold fF;simp;omega
    have hln:gR (s.drop i)=gR (s.drop (i+1))+1:=by rw[eM J,gR,ao ac]
    have z:dI false s=i+gR (s.drop i)+dI false (s.drop (i+gR (s.drop i))):=by
     rw[hc,V,Y,ao aE,aB I,EI,z9,hln,show i+1+gR (s.drop (i+1))=i+(gR (s.drop (i+1))+1) by omega];omega
    have hle:=EH (s.drop i);rw[ib]at hle;refine vt (fun n E H''=>∃j:Nat,n=s.length-j/\i<=j/\j<=s.length/\i+gR (s.drop i)=j+gR (s.drop j)/\E.at 0=.ag s/\E.at 3=.int .i64 j/\H''=H') ?_ (n:=s.length-i) ?_
    .rintro n E2 H2 ⟨j,rfl,hij,hj,U,dL,k3,rfl⟩;repeat' (first
      |(apply aj ?_;clear hK K)|apply Rx.o ?_|(apply bz (fun Z C=>?_) (fun Z C=>?_)<;>try(cases Z;done))|(apply aO (fun W L=>?_) (fun W L=>?_)<;>try(cases W;done))|apply ai ?_|(apply ah fun K hK=>?_)|apply aq ?_|apply am ?_|apply au ?_|apply aw ?_)
     .have O:j<s.length:=by omega
      have hgx2:s[j]?=some s[j]:=bc O;have o:gR (s.drop j)=if s[j].toNat=10 then 0 else gR (s.drop (j+1))+1:=by rw[eM O,gR]
      repeat' (first
       |(apply aj ?_;clear hK K)|apply Rx.o ?_|(apply bz (fun Z C=>?_) (fun Z C=>?_)<;>try(cases Z;done))|(apply aO (fun W L=>?_) (fun W L=>?_)<;>try(cases W;done))|apply ai ?_|(apply ah fun K hK=>?_)|apply aq ?_|apply am ?_|apply au ?_|apply aw ?_)
      .refine⟨s.length-(j+1),ac,j+1,rfl,ac,ac,?_,eE,?_,rfl⟩
       .rw[U,o,ao (by simp_all;omega)];omega
       .simp only[gO,Nat.reduceBEq,gy,gP (show j<2^62 by omega)]
      .have h10:s[j].toNat=10:=by simp_all;omega
       rw[o,aB h10,kE]at U;refine⟨s.length-j,ac,j,rfl,ac,?_,eE,eE,iS⟩;rw[z,U]
     .have hje:j=s.length:=by omega
      have h0j:gR (s.drop j)=0:=by rw[hje];simp[gR]
      rw[h0j,kE]at U;refine⟨s.length-j,ac,j,rfl,ac,?_,eE,eE,iS⟩;rw[z,U]
    .exact⟨i,rfl,ac,ac,rfl,eE,eE,rfl⟩
   .have Y:fF s[i]=false:=by unfold fF;simp;omega
    all_goals refine qq ?_
    refine⟨?_,iS⟩;rw[hc,V,Y,ao aE,ao ac];simp
  .all_goals refine qq ?_
   have hie:i=s.length:=ac;refine⟨?_,iS⟩;rw[hc,hie];simp[dI]
 .exact⟨0,aE,ac,aE,eE,eE,rfl⟩
end
section
def tyW4g.tyF:=ad @cJ (ad @cM (ad @lU (ad @kS (ad @lV (ad @mI (ad @oG (ad @QI (ad @NC (ad @vA (@underlying9))))))))))
open tyW4g
noncomputable def Js:{c:SC // aG 35 (f154.body.getD .skip)=c}:=by
 refine⟨?_,?_⟩;rotate_left
 .simp only[f154,bK,aG,bF,bw,bH,bI,Nat.blt,Nat.ble];rfl
noncomputable def Jt:{c:SC // aG 41 (f142.body.getD .skip)=c}:=by
 refine⟨?_,?_⟩;rotate_left
 .simp only[f142,bK,aG,bF,bw,bH,bI,Nat.blt,Nat.ble];rfl
noncomputable def Ju:{c:SC // aG 49 (f122.body.getD .skip)=c}:=by
 refine⟨?_,?_⟩;rotate_left
 .simp only[f122,bK,aG,bF,bw,bH,bI,Nat.blt,Nat.ble];rfl
def Ub(V:zaa cfg 156)(hd:zaa cfg 155)(s:qn)(W:s≠[])(J:s.length<2^60)(H:Hp):
 aX prog cfg 156 [.ag s] H fun v H'=>(∃b,v=.bool b)/\H'=H:=by
 have I:0<s.length:=vT.2 W;have m:s[0]?=some s[0]:=bc I;refine bA (M:=37) (rs:=[.tmp 2]) (V.call _) V.aF V.ak func156 rfl rfl Jq.2 rfl ?_;dsimp only[Jq,bt,Nat.reduceAdd];repeat' (first
  |(apply aj ?_;clear hK K)|apply Rx.o ?_|(apply aO (fun C L=>?_) (fun C L=>?_)<;>try(cases C;done))|apply ai ?_|(apply ah fun K hK=>?_)|apply aq ?_|apply am ?_|apply au ?_|apply aw ?_)
 refine kK (fun i E H'=>E.at 0=.ag s/\E.at 3=.int .i64 i/\H'=H) s.length ?_ ?_
 .rintro i E H' z ⟨dL,o,rfl⟩;repeat' (first
   |(apply aj ?_;clear hK K)|apply Rx.o ?_|(apply aO (fun C L=>?_) (fun C L=>?_)<;>try(cases C;done))|apply ai ?_|(apply ah fun K hK=>?_)|apply aq ?_|apply am ?_|apply au ?_|apply aw ?_)
  .have O:i<s.length:=by omega
   have U:s[i]?=some s[i]:=bc O;repeat' (first
    |(apply aj ?_;clear hK K)|apply Rx.o ?_|(apply aO (fun C L=>?_) (fun C L=>?_)<;>try(cases C;done))|apply ai ?_|(apply ah fun K hK=>?_)|apply aq ?_|apply am ?_|apply au ?_|apply aw ?_)
   refine qc ?_;refine aL ?_ (CM hd s[i].toNat H');rintro v _ ⟨rfl,rfl⟩;dsimp only[aI];repeat' (first
    |(apply aj ?_;clear hK K)|apply Rx.o ?_|(apply aO (fun C L=>?_) (fun C L=>?_)<;>try(cases C;done))|apply ai ?_|(apply ah fun K hK=>?_)|apply aq ?_|apply am ?_|apply au ?_|apply aw ?_)
   .all_goals refine qq ?_
    exact⟨⟨_,rfl⟩,iS⟩
   .refine⟨O,eE,?_,iS⟩;simp only[gO,Nat.reduceBEq,gy,gP (show i<2^62 by omega)]
  .repeat' (first
    |(apply aj ?_;clear hK K)|apply Ry.o ?_|apply fG ?_|(apply bS (fun Y Z=>?_) (fun Y Z=>?_)<;>try(cases Y;done))|apply ai ?_|(apply ah fun K hK=>?_)|apply aq ?_|apply am ?_|apply au ?_|apply aw ?_)
   all_goals refine qq ?_
   all_goals exact⟨⟨_,rfl⟩,iS⟩
 .exact⟨eE,eE,rfl⟩
def Uc:qm:=[[62,62,62],[60,60],[62,62],[60,61],[62,61],[61,61],[33,61]]
def Ud(V:zaa cfg 154)(hplan:∀id,cfg.bM 154 id=.text)(s:qn)(m:s≠[])(hs:s.length<2^60)(H:Hp):
 aX prog cfg 154 [.ag s] H fun v H'=>(∃n:Nat,v=.int .i64 n/\n<=s.length)/\H'=H:=by
 have I:0<s.length:=vT.2 m;have hg0:s[0]?=some s[0]:=bc I;have z:dF prog 193 [(0,.ag [62,62,62]),(1,.ag [60,60]),(2,.ag [62,62]),(3,.ag [60,61]),(4,.ag [62,61]),(5,.ag [61,61]),(6,.ag [33,61])]=some (.agg [.ag [62,62,62],.ag [60,60],.ag [62,62],.ag [60,61],.ag [62,61],.ag [61,61],.ag [33,61]]):=aF;refine bA (M:=35) (rs:=[.tmp 2]) (V.call _) V.aF V.ak func154 rfl rfl Js.2 rfl ?_;dsimp only[Js,bt,Nat.reduceAdd];repeat' (first
  |(apply aj ?_;clear hK K)|apply Rx.o ?_|(apply bz (fun Y C=>?_) (fun Y C=>?_)<;>try(cases Y;done))|(apply aO (fun Z L=>?_) (fun Z L=>?_)<;>try(cases Z;done))|apply ai ?_|(apply ah fun K hK=>?_)|(apply ci 10 fun K hK=>?_)|apply aq ?_|apply am ?_|apply au ?_|apply aw ?_)
 refine kK (fun i E H'=>E.at 0=.ag s/\E.at 6=.agg [.ag [62,62,62],.ag [60,60],.ag [62,62],.ag [60,61],.ag [62,61],.ag [61,61],.ag [33,61]]/\E.at 7=.int .i64 i/\H'=H) 7 ?_ ?_
 .rintro i E H' hi ⟨dL,k6,k7,rfl⟩;repeat' (first
   |(apply aj ?_;clear hK K)|apply Rx.o ?_|(apply bz (fun Y C=>?_) (fun Y C=>?_)<;>try(cases Y;done))|(apply aO (fun Z L=>?_) (fun Z L=>?_)<;>try(cases Z;done))|apply ai ?_|(apply ah fun K hK=>?_)|(apply ci 10 fun K hK=>?_)|apply aq ?_|apply am ?_|apply au ?_|apply aw ?_)
  .have O:i<7:=by omega
   have o:∃w:qn,mr prog 193 (.agg [.ag [62,62,62],.ag [60,60],.ag [62,62],.ag [60,61],.ag [62,61],.ag [61,61],.ag [33,61]]) (.int .i64 i)=some (.ag w):=by
    refine⟨Uc.getD i [],?_⟩;rcases(show i=0\/i=1\/i=2\/i=3\/i=4\/i=5\/i=6 by omega)with rfl|rfl|rfl|rfl|rfl|rfl|rfl<;>kernel_rfl
   obtain⟨w,hw1⟩:=o;repeat' (first
    |(apply aj ?_;clear hK K)|apply Rx.o ?_|(apply bz (fun Y C=>?_) (fun Y C=>?_)<;>try(cases Y;done))|(apply aO (fun Z L=>?_) (fun Z L=>?_)<;>try(cases Z;done))|apply ai ?_|(apply ah fun K hK=>?_)|(apply ci 10 fun K hK=>?_)|apply aq ?_|apply am ?_|apply au ?_|apply aw ?_)
   .have U:w.length<=s.length:=by omega
    repeat' (first
     |(apply aj ?_;clear hK K)|apply Rx.o ?_|(apply bz (fun Y C=>?_) (fun Y C=>?_)<;>try(cases Y;done))|(apply aO (fun Z L=>?_) (fun Z L=>?_)<;>try(cases Z;done))|apply ai ?_|(apply ah fun K hK=>?_)|(apply ci 10 fun K hK=>?_)|apply aq ?_|apply am ?_|apply au ?_|apply aw ?_)
    .all_goals refine qq ?_
     exact⟨⟨w.length,rfl,U⟩,iS⟩
    .refine⟨O,eE,eE,?_,iS⟩;simp only[gO,Nat.reduceBEq,gy,gP (show i<2^62 by omega)]
   .refine⟨O,eE,eE,?_,iS⟩;simp only[gO,Nat.reduceBEq,gy,gP (show i<2^62 by omega)]
  .repeat' (first
    |(apply aj ?_;clear hK K)|apply Rx.o ?_|(apply bz (fun Y C=>?_) (fun Y C=>?_)<;>try(cases Y;done))|(apply aO (fun Z L=>?_) (fun Z L=>?_)<;>try(cases Z;done))|apply ai ?_|(apply ah fun K hK=>?_)|(apply ci 10 fun K hK=>?_)|apply aq ?_|apply am ?_|apply au ?_|apply aw ?_)
   refine kK (fun i E W=>E.at 0=.ag s/\E.at 5=.int .i64 i/\W=H') 23 ?_ ?_
   .rintro j E W hj ⟨dL,k5,rfl⟩;repeat' (first
     |(apply aj ?_;clear hK K)|apply Rx.o ?_|(apply bz (fun Y C=>?_) (fun Y C=>?_)<;>try(cases Y;done))|(apply aO (fun Z L=>?_) (fun Z L=>?_)<;>try(cases Z;done))|apply ai ?_|(apply ah fun K hK=>?_)|(apply ci 10 fun K hK=>?_)|apply aq ?_|apply am ?_|apply au ?_|apply aw ?_)
    .have O:j<23:=by omega
     have J:∃b,([43,45,42,47,37,38,124,94,126,33,60,62,61,63,58,59,44,40,41,123,125,91,93]:qn)[j]?=some b:=by
      rw[bc (by simpa using O)];exact⟨_,rfl⟩
     obtain⟨b,J⟩:=J;repeat' (first
      |(apply aj ?_;clear hK K)|apply Ry.o ?_|(apply aY (fun Z L=>?_) (fun Z L=>?_)<;>try(cases Z;done))|apply ai ?_|(apply ah fun K hK=>?_)|(apply ci 10 fun K hK=>?_)|apply aq ?_|apply am ?_|apply au ?_|apply aw ?_)
     .all_goals refine qq ?_
      exact⟨⟨1,rfl,I⟩,iS⟩
     .refine⟨O,eE,?_,iS⟩;simp only[gO,Nat.reduceBEq,gy,gP (show j<2^62 by omega)]
    .all_goals refine qq ?_
     exact⟨⟨0,rfl,db _⟩,iS⟩
   .exact⟨eE,eE,rfl⟩
 .exact⟨eE,eE,eE,rfl⟩
end
end Go.Proofs.Ytbflaciihaijgaa
