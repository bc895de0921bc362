/- Parts: LoJ, W4a, W4b, W4c, W4d, P4f, P4g, W4e, W4f, W4g, W4h. -/
import Derived.Test.YtpbcimfiofmoeaaGreatPCK
set_option linter.unusedSimpArgs false
set_option linter.unusedVariables false
set_option linter.unusedSectionVars false
set_option linter.defProp false
set_option maxHeartbeats 32000000
namespace Go.Ab
set_option maxRecDepth 20000
open Go
theorem Lt{P:Prop}(h:P:=by have:=R4.o5;dsimp only[Lx.nx]at this;omega):P:=h
theorem Lu{P:Prop}(h:P:=by have:=N7.sub k Y;simp only[zfw]at this;omega):P:=h
theorem x6{P:Prop}(h:P:=by rw[List.drop_eq_getElem_cons O,List.all_cons]):P:=h
theorem Lw{P:Prop}(h:P:=by rw[<- U];simp only[get_set,tF,zfw,zfI,Dt,HY,Nat.add_assoc,Nat.reduceAdd,beq_self_eq_true,cond_true,cond_false,Nat.reduceBEq]):P:=h
def Bv:=@beq_self_eq_true
def x7:=And.intro @fy @jV
def oP:=And.intro vh x7
end Go.Ab
namespace Go.Proofs.YtpbcimfiofmoeaaGreat
set_option maxRecDepth 20000
open Go Go.Ab
section
def tyLoJ.tyF:=ad @ej (ad @cN (ad @dH (ad @iD (ad @eQ (ad @u5 (ad @iZ (ad @iO (ad @fO (ad @fP (ad @eR (ad @mM (ad @li (ad @gJ (ad @nG (ad @pi (@Bp))))))))))))))))
open tyLoJ
noncomputable def Ly:{c:SC // aH 94 (Tryz.f52.body.getD .skip)=c}:=by
 refine⟨?_,?_⟩;rotate_left
 .simp only[Tryz.f52,bS,aH,zfO,zfL,zfR,zfS,Nat.blt,Nat.ble];rfl
def ez:List zfD->Nat->List (zfD×Int)->List (zfD×Int)
 |[],_,m=>m
 |a::l,i,m=>ez l (i+1) (setV m a i)
theorem Bw:∀(l:List zfD) (a:zfD) (i:Nat) (m:List (zfD×Int)),ez (l++[a]) i m=setV (ez l i m) a ((i+l.length:Nat):Int)
 |[],a,i,m=>rfl
 |b::l,a,i,m=>by
  rw[pj,ez,Bw l a (i+1),ez,dg,show i+1+l.length=i+(l.length+1) by omega]
theorem x8:∀(n k:Nat) (s:Bd),zgy s (il n k s)/\(il n k s).vars.length=s.vars.length+n
 |0,k,s=>⟨oM s,rfl⟩
 |n+1,k,s=>by
  have e:=x8 n (k+1) { (zfg ⟨2,k,[]⟩ s).2 with vars:=(zfg ⟨2,k,[]⟩ s).2.vars++[(zfg ⟨2,k,[]⟩ s).1] };refine⟨(((zgd ⟨2,k,[]⟩ s).le.setV _)).trans e.1,?_⟩;show(il n (k+1) _).vars.length=_;rw[e.2,fG];show s.vars.length+1+n=_;omega
theorem x9:∀(n:Nat) (s:Bd),zgy s (j7 n s)/\(j7 n s).vars.length=s.vars.length+n
 |0,s=>⟨oM s,rfl⟩
 |n+1,s=>by
  have e:=x9 n { (zfg ⟨1,0,[]⟩ s).2 with vars:=(zfg ⟨1,0,[]⟩ s).2.vars++[(zfg ⟨1,0,[]⟩ s).1] };refine⟨(((zgd ⟨1,0,[]⟩ s).le.setV _)).trans e.1,?_⟩;show(j7 n _).vars.length=_;rw[e.2,fG];show s.vars.length+1+n=_;omega
abbrev Lx.nx(X:Lx)(ne:List (zfD×Int)):Lx:={X with ne:=ne}
theorem RepL.setNe{X:Lx}{H:Hp}{S:Nat->Prop}{s:Bd}{Z vv:AV}(h:RepL X H S s Z vv)(ne:List (zfD×Int)):RepL (X.nx ne) (H.set X.rn (.map (cW ne))) S s Z vv:=by
 have M:=h.o1;have i:=h.o2;have V:=h.o3;have Y:=h.o4;have U:=h.o5;have J:∀k,k≠X.rn->(H.set X.rn (.map (cW ne))).get k=H.get k:=fun k j=>rA;exact⟨by rw[J _ (by show X.b≠_;omega)];exact h.m,by rw[J _ (by show X.ra≠_;omega)];exact h.a,by rw[J _ (by show X.rf≠_;omega)];exact h.f,by rw[J _ (by show X.rt≠_;omega)];exact h.t,iA,h.nodes.keep (fun _ _ h=>h) (aE _) fun k j _=>J k (by have:=(h.sS k j).1;omega),h.vars.keep (aE _) fun k j=>J k (by have:=(h.vS k j).1;omega),M,i,V,Y,U,h.sS,h.vS⟩
theorem RepL.pushV{X:Lx}{H:Hp}{S:Nat->Prop}{s:Bd}{Y vv:AV}(h:RepL X H S s Y vv)(x:Int)(hl:s.vars.length<2^36):
 ∃O H',zgH Tryz.prog false (H.alloc (.cells [.int .i64 x] 0 true)) 23 23 vv (.sl H.next 0 1 1)=some (O,H')/\AV.one O=true/\O.cells=[O]/\H'.get X.b=some (.cells (zfH X s Y vv) 0 true)/\H'.next=H.next+2/\(∀k,k<H.next->¬zfU vv k->H'.get k=H.get k) /\
  RepL X (H'.set X.b (.cells (zfH X {s with vars:=s.vars++[x] } Y O) 0 true)) S {s with vars:=s.vars++[x] } Y O /\
  FrL X S vv H S O (H'.set X.b (.cells (zfH X {s with vars:=s.vars++[x] } Y O) 0 true)):=by
 have o1:=h.o1;have o2:=h.o2;have o3:=h.o3;have o4:=h.o4;have o5:=h.o5;have hv:ji (H.alloc (.cells [.int .i64 x] 0 true)) vv s.vars 0:=h.vars.keep (eh _) fun k j=>by rw[zfk,af (by have:=(h.vS k j).2;omega)]
 have hx:zhd (H.alloc (.cells [.int .i64 x] 0 true)) 1 (.sl H.next 0 1 1)=some ([x].length,[x].map (.int .i64)):=vj (m:=[x]) (imm:=0) iH;obtain⟨O,H',a1,K,a3,a4,M,g⟩:=Jq hv (dZ _) hx au cC;simp only[zfw]at a3 M g;have Z:∀k,k<H.next->¬zfU vv k->H'.get k=H.get k:=fun k i U=>by rw[M k ac U,zfk,af ac]
 have I:∀k,k<=X.b->¬zfU vv k:=fun k j e=>by have:=(h.vS k e).1;omega
 have o:=ji.one (.inr K);have J:∀k,k≠X.b->(H'.set X.b (.cells (zfH X {s with vars:=s.vars++[x] } Y O) 0 true)).get k=H'.get k:=fun k j=>rA;refine⟨O,H',a1,o.1,o.2,by rw[Z _ o5 (I _ (aE _))];exact h.m,ac,Z,⟨iA,by rw[J _ ac,Z _ ac (I _ ac)];exact h.a,by rw[J _ ac,Z _ ac (I _ ac)];exact h.f,by rw[J _ ac,Z _ ac (I _ ac)];exact h.t,by rw[J _ ac,Z _ ac (I _ ac)];exact h.n,h.nodes.keep (fun _ _ h=>h) fC fun k j L=>by rw[J k (by have:=(h.sS k j).1;omega),Z k L (h.sS k j).2.2],?_,o1,o2,o3,o4,fC,fun k j=>⟨(h.sS k j).1,by have:=(h.sS k j).2.1;simp only[zfI];omega,fun e=>?_⟩,fun k j=>?_⟩,⟨fC,fun k i U _ _ C=>by rw[J k U,Z k i C],fun _ h=>.inl h,fun k j=>?_⟩⟩
 .have z:ji H' O (s.vars++[x]) 0:=.inr K;exact z.keep (aE _) fun k j=>J k fun e=>by
   rcases g k j with q|q
   .have:=(h.vS k q).1;omega
   .omega
 .rcases g k e with q|q
  .exact(h.sS k j).2.2 q
  .have:=(h.sS k j).2.1;omega
 .have V:k<H'.next:=(ji.lt (.inr K) j).2
  rcases g k j with q|q
  .exact⟨(h.vS k q).1,V⟩
  .exact⟨ac,V⟩
 .rcases g k j with q|q
  .exact .inl q
  .exact .inr ac
structure FrN (X:Lx) (zfM:Hp) (S:Nat->Prop) (vv:AV) (H:Hp):Prop where
 next:zfM.next<=H.next
 get:∀k,k<zfM.next->k≠X.b->k≠X.rt->k≠X.rn->H.get k=zfM.get k
 sub:∀k,S k->zfM.next<=k
 own:∀k,zfU vv k->zfM.next<=k
theorem FrN.fr{X:Lx}{ne:List (zfD×Int)}{zfM H H':Hp}{S S':Nat->Prop}{vv Y:AV}(h:FrN X zfM S vv H)(f:FrL (X.nx ne) S vv H S' Y H'):FrN X zfM S' Y H' where
 next:=cJ h.next f.next
 get k h1 h2 h3 h4:=by
  rw[f.get k (nr h1 h.next) h2 h3 (fun e=>by have:=h.sub k e;omega) (fun e=>by have:=h.own k e;omega)];exact h.get k h1 h2 h3 h4
 sub k e:=by
  rcases f.sub k e with e|e
  .exact h.sub k e
  .exact cJ h.next e
 own k e:=by
  rcases f.own k e with e|e
  .exact h.own k e
  .exact cJ h.next e
theorem FrN.setNe{X:Lx}{zfM H:Hp}{S:Nat->Prop}{vv:AV}(h:FrN X zfM S vv H)(b:HB):FrN X zfM S vv (H.set X.rn b):=⟨h.next,fun k i g m O=>by rw[aQ,af O];exact h.get k i g m O,h.sub,h.own⟩
def Lz(X:Lx)(H:Hp)(g:Gr)(v:AV)(H':Hp):Prop:=∃S lv,v=.agg [.str g.name,.int .i64 g.params,lv,.int .i64 g.value,.int .i64 g.state]/\zgS S 2 H' 3 lv (g.nodes.map Nd.cells)/\H.next<=H'.next/\(∀k,S k->H.next<=k)/\∀k,k<H.next->k≠X.b->k≠X.rt->k≠X.rn->H'.get k=H.get k
set_option maxRecDepth 100000 in
theorem zaS{tb:List En}(hG:LowT tb){X:Lx}{p:Pr}{f:Fu}(hX:CxOk (X.nx (ez (f.params++f.locals) 0 [])) (jI p f))(hX0:X.ne=[]){n:Nat}{s:Bd}{v:Int×Bd}(h1:eC (jI p f) n f.body (zhn f)=some s)(h2:ed (jI p f) n f.value s=some v)(hF:Fin v.2)(hz:f.sz<2^34){H:Hp}(hR:RepL X H (fun _=>False) ⟨[],[],0,0⟩ .nilS .nilS):
 zfs Tryz.prog (zfn pls tb) 52 [.ptr X.b 0,.agg f.cells] H (Lz X H ⟨f.name,f.params.length,v.2.l,v.1,v.2.state⟩):=by
 have hw:Plain (zfn pls tb) 52:=hG.plain dR;have hkeep:(zfn pls tb).keep 52=false:=rfl;have hsz:f.sz=1+f.name.length+zgU f.params+zgU f.locals+zf0 f.body+f.value.sz:=rfl;have hpl:=sf f.params;have hll:=sf f.locals;have o1:=hR.o1;have o2:=hR.o2;have o3:=hR.o3;have o4:=hR.o4;have o5:=hR.o5;have hFs:Fin s:=hF.le (zgg _ n _ _ _ h2).le;have J:Fin (zhn f):=hFs.le ((kR _ n).2.1 _ _ _ h1).1;have hsv:s.vars.length=(zhn f).vars.length:=((kR _ n).2.1 _ _ _ h1).2;have g:zhn f=j7 f.locals.length (il f.params.length 0 { (zfg ⟨26,0,[]⟩ ⟨[],[],0,0⟩).2 with state:=(zfg ⟨26,0,[]⟩ ⟨[],[],0,0⟩).1}):=rfl;generalize hs0:({ (zfg ⟨26,0,[]⟩ ⟨[],[],0,0⟩).2 with state:=(zfg ⟨26,0,[]⟩ ⟨[],[],0,0⟩).1}:Bd)=s0 at *;have hv0:s0.vars.length=0:=by rw[<-hs0];rfl
 have hF1:Fin (il f.params.length 0 s0):=by rw[g]at J;exact J.le (x9 _ _).1
 have hv1:(il f.params.length 0 s0).vars.length=f.params.length:=by rw[(x8 _ _ _).2,hv0];omega
 have hF0:Fin s0:=hF1.le (x8 _ _ _).1;have hFe:Fin (zfg ⟨26,0,[]⟩ ⟨[],[],0,0⟩).2:=by rw[<-hs0]at hF0;exact⟨hF0.r,hF0.l,hF0.n⟩
 have hvst:(zhn f).vars.length<2^36:=by rw[g,(x9 _ _).2,hv1];omega
 have R1:=(hR.alloc (.cells f.cells 0 true)).alloc (.cells [.str [],.int .i64 0,.nilS,.int .i64 0,.int .i64 0] 0 true);have N1:FrN X ((H.alloc (.cells f.cells 0 true)).alloc (.cells [.str [],.int .i64 0,.nilS,.int .i64 0,.int .i64 0] 0 true)) (fun _=>False) .nilS ((H.alloc (.cells f.cells 0 true)).alloc (.cells [.str [],.int .i64 0,.nilS,.int .i64 0,.int .i64 0] 0 true)):=⟨aE _,fun _ _ _ _ _=>rfl,fun _ h=>h.elim,fun _ h=>(x3 h).elim⟩;have eX:X.nx []=X:=by rw[<-hX0]
 have gA:∀{S:Nat->Prop}{vv:AV}{H':Hp},FrN X ((H.alloc (.cells f.cells 0 true)).alloc (.cells [.str [],.int .i64 0,.nilS,.int .i64 0,.int .i64 0] 0 true)) S vv H'->H'.get H.next=some (.cells f.cells 0 true)/\H'.get (H.next+1)=some (.cells [.str [],.int .i64 0,.nilS,.int .i64 0,.int .i64 0] 0 true):=fun h=>by
  refine⟨?_,?_⟩
  .rw[h.get _ fx ac ac ac,zfk,af fx,zfk,aq rfl]
  .rw[h.get _ fx ac ac ac,zfk,aq dR]
 refine zfz (M:=94) (rs:=[.cell 4 32]) (hw.call _) hw.ice hw.froz Tryz.func52 rfl rfl Ly.2 rfl ?_;dsimp only[Ly,zft,Nat.reduceAdd];repeat' (first
  |(apply ah ?_;clear hK K)|apply Rx.o ?_|apply ak ?_|(apply zff fun K hK=>?_)|fail)
 refine aU rfl aV aW ?_;simp only[bi];refine aS ?_ (x4 hG R1 (cG _ _ _ _) 26 0 hFe);rintro w H2 ⟨rfl,S2,lv2,R2,F2⟩;have m2:=R2.m;obtain⟨R3,F3⟩:=R2.setS (zfg ⟨26,0,[]⟩ ⟨[],[],0,0⟩).1;have N3:=N1.fr (ne:=X.ne) (F2.trans F3);have n2:=F2.next
 simp only[zfw]at n2;clear R1 R2 F2 F3 hR;have g3:=(gA N3).1;dsimp only[zfH]at m2 R3 N3 g3;dsimp only[zfp];repeat' (first
  |(apply ah ?_;clear hK K)|apply Rx.o ?_|apply ct ?_|apply ak ?_|(apply zff fun K hK=>?_)|apply ay ?_|fail)
 refine zgs [0,3,4,16,17] [] 18 f.params.length (fun i E Hi=>∃si Si lvi C,il (f.params.length-i) i si=il f.params.length 0 s0/\si.vars.length=i/\RepL (X.nx (ez (f.params.take i) 0 [])) Hi Si si lvi C/\FrN X ((H.alloc (.cells f.cells 0 true)).alloc (.cells [.str [],.int .i64 0,.nilS,.int .i64 0,.int .i64 0] 0 true)) Si C Hi) eE ⟨s0,S2,lv2,.nilS,rfl,hv0,by rw[vE];show RepL (X.nx []) _ _ _ _ _;rw[eX,<-hs0];exact R3,N3⟩ ?_;clear R3 N3 m2 g3;rintro i E Hi hi hcE hrH hnH hsI ⟨si,Si,lvi,C,o,hvi,Ri,Ni⟩;(try simp only[zfT,zfB,a0,zfo,zfv,Nat.reduceBEq, *]at hcE);(try simp only[zfB,zfv, *]at hrH);(try simp only[zfI,]at hnH);have ni:H.next+2<=Hi.next:=Ni.next
 by_cases hlt:i<f.params.length
 .have I:(i:Int)<f.params.length:=by omega
  have hgx:f.params[i]?=some f.params[i]:=aR hlt;obtain⟨k,Y⟩:∃k,f.params.length-i=k+1:=⟨f.params.length-i-1,ac⟩;have hk2:f.params.length-(i+1)=k:=ac;have hne:ez (f.params.take (i+1)) 0 []=setV (ez (f.params.take i) 0 []) f.params[i] (i:Int):=by
   rw[oA,hgx];show ez (f.params.take i++[f.params[i]]) 0 []=_;rw[Bw,jR,uU ac,b9]
  rw[Y]at o;rw[hk2,hne];have o:il k (i+1) { (zfg ⟨2,i,[]⟩ si).2 with vars:=(zfg ⟨2,i,[]⟩ si).2.vars++[(zfg ⟨2,i,[]⟩ si).1] }=il f.params.length 0 s0:=o;have hFx:Fin (zfg ⟨2,i,[]⟩ si).2:=hF1.le (by rw[<-o];exact((oM _).setV _).trans (x8 _ _ _).1);generalize f.params[i]=nm at *;have hup:=xS (P:=Tryz.prog) (t:=98) Tryz.underlying98 zh4 Ri.n nm (i:Int);have mi:=Ri.m;have R':=Ri.setNe (setV (ez (f.params.take i) 0 []) nm (i:Int));have N':=Ni.setNe (.map (cW (setV (ez (f.params.take i) 0 []) nm (i:Int))));have m':=R'.m;dsimp only[zfH,Lx.nx]at mi hup m';repeat' (first
   |(apply ah ?_;clear hK K)|apply Ry.o ?_|apply bM ?_|(apply aL (fun O z=>?_) (fun O z=>?_)<;>try(cases O;done))|apply ak ?_|(apply zff fun K hK=>?_)|(apply zfm 6 [(4,7),(4,9),(8,9)] fun K hK=>?_)|(apply zfx ?_;try intro _)|apply br ?_|apply ay ?_|apply zfh ?_|fail)
  refine aU rfl aV aW ?_;simp only[gL];refine aS ?_ (x4 (X:=X.nx (setV (ez (f.params.take i) 0 []) nm (i:Int))) hG R' (cG _ _ _ _) 2 i hFx);generalize m:zfg ⟨2,i,[]⟩ si=V at *;have hpv:V.2.vars.length=i:=by rw[<-m];exact hvi
  rintro w H4 ⟨rfl,S4,L,R4,F4⟩;have m4:=R4.m;have n4:=F4.next
  obtain⟨v5,H5,a5,hv51,hv52,m5,n5,q5,R5,F5⟩:=R4.pushV V.1 ac;have N5:=(N'.fr F4).fr F5;have m4a:(H4.alloc (.cells [.int .i64 V.1] 0 true)).get X.b=some (.cells (zfH X V.2 L C) 0 true):=by rw[zfk,af Lt];exact m4
  have n5':Hi.next<=H5.next:=by simp only[zfI]at n4;omega
  have Z:(V.2.vars++[V.1]).length=i+1:=by rw[fG,hpv];rfl
  simp only[zfI]at n4;clear hpv hvi R' N' R4 F4 m mi;dsimp only[zfH,Lx.nx]at m4 m5 m4a R5 N5;dsimp only[zfp];repeat' (first
   |(apply ah ?_;clear hK K)|apply Rx.o ?_|apply ct ?_|(apply zff fun K hK=>?_)|(apply zfx ?_;try intro _)|(apply zfG ?_ ?_<;>clear hK K)|apply br ?_|apply zhC rfl ?_|fail)
  .exact zf6
  .refine⟨ac,eL,eL,zf4,(by simp only[zfo,Nat.reduceBEq, *];exact zhp (n:=f.params.length) ac ac),?_⟩;exact⟨_,S4,L,v5,o,Z,R5,N5⟩
 .have I:¬(i:Int)<f.params.length:=by omega
  have Y:f.params.length-i=0:=ac;have hti:f.params.take i=f.params:=fN ac;rw[Y]at o;rw[hti]at Ri;have o:si=il f.params.length 0 s0:=o;rw[o]at Ri;have hii:i=f.params.length:=ac;rw[<-o]at g;rw[o]at g;have gi:=(gA Ni).1;clear Y hti o hvi hii;repeat' (first
   |(apply ah ?_;clear hK K)|apply Ry.o ?_|(apply aL (fun O z=>?_) (fun O z=>?_)<;>try(cases O;done))|apply ak ?_|(apply zff fun K hK=>?_)|apply ay ?_|apply zfr ?_)
  generalize hs1:il f.params.length 0 s0=s1 at *;refine zgs [0,3,4,43,44] [] 45 f.locals.length (fun j E Hj=>∃sj Sj lvj vvj,j7 (f.locals.length-j) sj=j7 f.locals.length s1/\sj.vars.length=f.params.length+j/\RepL (X.nx (ez (f.params++f.locals.take j) 0 [])) Hj Sj sj lvj vvj/\FrN X ((H.alloc (.cells f.cells 0 true)).alloc (.cells [.str [],.int .i64 0,.nilS,.int .i64 0,.int .i64 0] 0 true)) Sj vvj Hj) eE ⟨s1,Si,lvi,C,rfl,hv1,by rw[vE,bi];exact Ri,Ni⟩ ?_;clear Ri Ni gi;rintro j E3 Hj hj hcE hrH hnH hsI ⟨sj,Sj,lvj,vvj,o,hvj,Rj,Nj⟩;(try simp only[zfT,zfB,a0,zfo,zfv,Nat.reduceBEq, *]at hcE);(try simp only[zfB, *]at hrH);(try simp only[zfw,zfI,zgj,b9,Nat.reduceAdd]at hnH);have nj:H.next+2<=Hj.next:=Nj.next
  by_cases hlt:j<f.locals.length
  .have I:(j:Int)<f.locals.length:=by omega
   have hgx:f.locals[j]?=some f.locals[j]:=aR hlt;obtain⟨k,Y⟩:∃k,f.locals.length-j=k+1:=⟨f.locals.length-j-1,ac⟩;have hk2:f.locals.length-(j+1)=k:=ac;have hne:ez (f.params++f.locals.take (j+1)) 0 []=setV (ez (f.params++f.locals.take j) 0 []) f.locals[j] ((f.params.length+j:Nat):Int):=by
    rw[oA,hgx];show ez (f.params++(f.locals.take j++[f.locals[j]])) 0 []=_;rw[<-nu,Bw,fG,jR,uU ac,b9]
   rw[Y]at o;rw[hk2,hne];have o:j7 k { (zfg ⟨1,0,[]⟩ sj).2 with vars:=(zfg ⟨1,0,[]⟩ sj).2.vars++[(zfg ⟨1,0,[]⟩ sj).1] }=j7 f.locals.length s1:=o;have hFx:Fin (zfg ⟨1,0,[]⟩ sj).2:=J.le (by rw[g,<-o];exact((oM _).setV _).trans (x9 _ _).1);generalize f.locals[j]=nm at *;have hup:=xS (P:=Tryz.prog) (t:=98) Tryz.underlying98 zh4 Rj.n nm ((f.params.length+j:Nat):Int);have hlen:=Rj.vars.n.len';rw[hvj]at hlen;have mj:=Rj.m;have R':=Rj.setNe (setV (ez (f.params++f.locals.take j) 0 []) nm ((f.params.length+j:Nat):Int));have N':=Nj.setNe (.map (cW (setV (ez (f.params++f.locals.take j) 0 []) nm ((f.params.length+j:Nat):Int))));have m':=R'.m;dsimp only[zfH,Lx.nx]at mj hup m';repeat' (first
    |(apply ah ?_;clear hK K)|apply Ry.o ?_|apply bM ?_|(apply aL (fun O z=>?_) (fun O z=>?_)<;>try(cases O;done))|apply ak ?_|(apply zff fun K hK=>?_)|(apply tN 11 fun K hK=>?_)|(apply zfm 12 [(4,6),(4,8),(7,8)] fun K hK=>?_)|(apply zfx ?_;try intro _)|apply br ?_|apply ay ?_|apply zfh ?_|fail)
   .refine aU rfl aV aW ?_;simp only[gL];refine aS ?_ (vC (X:=X.nx (setV (ez (f.params++f.locals.take j) 0 []) nm ((f.params.length+j:Nat):Int))) hG R' (cG _ _ _ _) 0 hFx);generalize m:zfg ⟨1,0,[]⟩ sj=V at *;have hpv:V.2.vars.length=f.params.length+j:=by rw[<-m];exact hvj
    rintro w H4 ⟨rfl,S4,L,R4,F4⟩;have m4:=R4.m;have n4:=F4.next
    obtain⟨v5,H5,a5,hv51,hv52,m5,n5,q5,R5,F5⟩:=R4.pushV V.1 ac;have N5:=(N'.fr F4).fr F5;have m4a:(H4.alloc (.cells [.int .i64 V.1] 0 true)).get X.b=some (.cells (zfH X V.2 L vvj) 0 true):=by rw[zfk,af Lt];exact m4
    have n5':Hj.next<=H5.next:=by simp only[zfI]at n4;omega
    have Z:(V.2.vars++[V.1]).length=f.params.length+(j+1):=by rw[fG,hpv];rfl
    simp only[zfI]at n4;clear hpv hvj R' N' R4 F4 m mj hlen;dsimp only[zfH,Lx.nx]at m4 m5 m4a R5 N5;dsimp only[zfp];repeat' (first
     |(apply ah ?_;clear hK K)|apply Rx.o ?_|apply ct ?_|(apply zff fun K hK=>?_)|(apply zfx ?_;try intro _)|(apply zfG ?_ ?_<;>clear hK K)|apply br ?_|apply zhC rfl ?_|fail)
    .exact zf6
    .refine⟨ac,eL,eL,zf4,(by simp only[zfo,Nat.reduceBEq, *];exact zhp (n:=f.locals.length) ac ac),?_⟩;exact⟨_,S4,L,v5,o,Z,R5,N5⟩
  .have I:¬(j:Int)<f.locals.length:=by omega
   have Y:f.locals.length-j=0:=ac;have htj:f.locals.take j=f.locals:=fN ac;rw[Y]at o;rw[htj]at Rj;have o:sj=j7 f.locals.length s1:=o;rw[o,<-g]at Rj;have gj:=(gA Nj).1;clear Y htj o hvj;repeat' (first
    |(apply ah ?_;clear hK K)|apply Ry.o ?_|(apply aL (fun O z=>?_) (fun O z=>?_)<;>try(cases O;done))|apply ak ?_|(apply zff fun K hK=>?_)|apply zfr ?_)
   refine aU rfl aV aW ?_;simp only[bi];refine aS ?_ (Ls (X:=X.nx (ez (f.params++f.locals) 0 [])) hG hX (n+1) n (cI n) f.body (zhn f) s h1 hFs ac hvst Rj);rintro w H6 ⟨S6,lv6,vv6,R6,F6⟩;have N6:=Nj.fr F6;have g6:=(gA N6).1;clear Rj Nj F6 gj;dsimp only[zfp];repeat' (first
    |(apply ah ?_;clear hK K)|apply Rx.o ?_|apply ak ?_|(apply zff fun K hK=>?_)|fail)
   refine aU rfl aV aW ?_;simp only[bi];refine aS ?_ (qp (X:=X.nx (ez (f.params++f.locals) 0 [])) hG hX n f.value s v h2 hF R6 (cG _ _ _ _));rintro w H7 ⟨rfl,S7,U,R7,F7⟩;have N7:=N6.fr F7;obtain⟨g7,g7r⟩:=gA N7;have m7:=R7.m;have nd7:=R7.nodes;obtain⟨ho1,ho2⟩:=nd7.one;have n7:H.next+2<=H7.next:=N7.next
   have bGr:zgB Tryz.prog 32 [(0,.str f.name),(1,.int .i64 f.params.length),(2,U),(3,.int .i64 v.1),(4,.int .i64 v.2.state)]=some (.agg [.str f.name,.int .i64 f.params.length,U,.int .i64 v.1,.int .i64 v.2.state]):=by
    rcases nd7 with⟨rfl,_⟩|⟨q,im,rows,rfl,_⟩<;>kernel_rfl
   have key:∀k,k<H.next->k≠X.b->k≠X.rt->k≠X.rn->(H7.set (H.next+1) (.cells [.str f.name,.int .i64 f.params.length,U,.int .i64 v.1,.int .i64 v.2.state] 0 true)).get k=H.get k:=fun k a b c d=>by
    rw[aQ,af ac,N7.get k fx b c d,zfk,af fx,zfk,af ac]
   have fin:Lz X H ⟨f.name,f.params.length,v.2.l,v.1,v.2.state⟩ (.agg [.str f.name,.int .i64 f.params.length,U,.int .i64 v.1,.int .i64 v.2.state]) (H7.set (H.next+1) (.cells [.str f.name,.int .i64 f.params.length,U,.int .i64 v.1,.int .i64 v.2.state] 0 true)):=
    ⟨S7,U,rfl,nd7.keep (fun _ _ h=>h) (aE _) fun k Y _=>by rw[aQ,af Lu],fC,fun k Y=>Lu,key⟩
   dsimp only[zfH,Lx.nx]at m7;clear key nd7 R6 R7 N6 N7 F7 g6;dsimp only[zfp];repeat' (first
    |(apply ah ?_;clear hK K)|apply Rx.o ?_|apply ct ?_|apply ak ?_|(apply tN 16 fun K hK=>?_)|apply ax ?_|fail)
   have ag:jo 5 [.str f.name,.int .i64 f.params.length,U,.int .i64 v.1,.int .i64 v.2.state]=some (.agg [.str f.name,.int .i64 f.params.length,U,.int .i64 v.1,.int .i64 v.2.state]):=rfl;refine⟨zfj,_,(by(try simp only[zfo,zfv,Nat.reduceBEq,tyF,zgD,zgN, *]);first|done|with_reducible rfl),?_⟩;try simp only[zfi]
   exact fin
end
section
def tyW4a.tyF:=ad @cN (ad @dH (ad @fO (ad @fP (ad @eR (ad @gJ (@ej))))))
open tyW4a
noncomputable def LA:{c:SC // aH 28 (Tryz.f122.body.getD .skip)=c}:=by
 refine⟨?_,?_⟩;rotate_left
 .simp only[Tryz.f122,bS,aH,zfO,zfL,zfR,zfS,Nat.blt,Nat.ble];rfl
noncomputable def LB:{c:SC // aH 39 (Tryz.f116.body.getD .skip)=c}:=by
 refine⟨?_,?_⟩;rotate_left
 .simp only[Tryz.f116,bS,aH,zfO,zfL,zfR,zfS,Nat.blt,Nat.ble];rfl
def vG(cfg:Cfg)(base:Nat)(I:Hp->Prop)(g:FuncId)(cap:List AV)(q:Ex->Int->Bool):Prop:=
 ∀(x:Ex) (d:Int) (H:Hp),x.sz<2^60->base<=H.next->I H->zfs Tryz.prog cfg g (.agg x.cells::.int .i64 d::cap) H fun v H'=>v=.bool (q x d)/\FrB base H H'/\I H'
def sR(base:Nat)(I:Hp->Prop):Prop:=∀H H',I H->iG base H H'->I H'
theorem vH{cfg:Cfg}(hw:Plain cfg 122){base:Nat}{I:Hp->Prop}(hI:sR base I){g:FuncId}{cap:List AV}{q:Ex->Int->Bool}(hq:vG cfg base I g cap q):
 ∀(n:Nat) (x:Ex),x.sz<n->∀(d:Int) (H:Hp),x.sz<2^60->base<=H.next->I H->zfs Tryz.prog cfg 122 [.agg x.cells,.int .i64 d,.clo g cap] H fun v H'=>v=.bool (mh q x d)/\FrB base H H'/\I H'
 |0,x,hx,_,_,_,_,_=>by omega
 |n+1,x,hx,d,H,hz,hbase,hi=>by
  refine zfz (M:=28) (rs:=[.tmp 6]) (hw.call _) hw.ice hw.froz Tryz.func122 rfl rfl LA.2 rfl ?_;dsimp only[LA,zft,Nat.reduceAdd];repeat' (first
   |(apply ah ?_;clear hK K)|apply Rx.o ?_|apply ak ?_|(apply zff fun K hK=>?_)|fail)
  refine aU rfl aV aW ?_;simp only[Af];have C:FrB base H (H.alloc (.cells x.cells 0 true)):=(i8 _ _).alloc _;refine aS ?_ (hq x d (H.alloc (.cells x.cells 0 true)) hz fx (hI _ _ hi ((pn _ _).alloc hbase _)));rintro v H1 ⟨rfl,Z,Y⟩;have hg1:H1.get H.next=some (.cells x.cells 0 true):=by
   rw[Z.get _ hbase (by simp[zfw]),zfk,aq rfl]
  have hn1:H.next<H1.next:=by have:=Z.next;simp only[zfw]at this;omega
  dsimp only[zfp];repeat' (first
   |(apply ah ?_;clear hK K)|apply Rx.o ?_|(apply bt (fun o z=>?_) (fun o z=>?_)<;>try(cases o;done))|apply ak ?_|(apply zff fun K hK=>?_)|apply ay ?_|apply zfh ?_|apply ax ?_|fail)
  .all_goals (refine⟨zfj,_,zfq,?_⟩;try simp only[zfi])
   refine⟨?_,C.trans Z,Y⟩;rw[DX];simp_all
  have hl:x.kids.length<2^60:=by have:=vb x.kids;have:=x.sz_eq;omega
  refine pd (fun i E J=>zhs q x.kids (cu (d+1))=zhs q (x.kids.drop i) (cu (d+1))/\E.at 1=.int .i64 d/\E.at 2=.clo g cap/\E.at 15=.lst (x.kids.map Ex.cells)/\E.at 16=.int .i64 x.kids.length/\E.at 17=.int .i64 i/\FrB base H J/\I J) x.kids.length ?_ ?_
  .rintro i E J hi2 ⟨hc,h1,h2,h15,h16,h17,m,V⟩;repeat' (first
    |(apply ah ?_;clear hK K)|apply Rx.o ?_|(apply bt (fun o z=>?_) (fun o z=>?_)<;>try(cases o;done))|apply ak ?_|(apply zff fun K hK=>?_)|apply ay ?_|apply zfh ?_|apply ax ?_|apply zfr ?_)
   .have O:i<x.kids.length:=by simpa using o
    have hgx:x.kids[i]?=some x.kids[i]:=aR O;repeat' (first
     |(apply ah ?_;clear hK K)|apply Rx.o ?_|apply ct ?_|apply ak ?_|(apply zff fun K hK=>?_)|fail)
    have hxm:x.kids[i]∈x.kids:=dI O;have hsm:=tR hxm;have hsx:=x.sz_eq;have j:FrB base J ((J.alloc (.cells [.int .i64 0,.int .i64 0,.str [],.int .i64 0,.nilS] 0 true)).set J.next (.cells x.kids[i].cells 0 true)):=((i8 _ _).alloc _).set (.inl (aE _)) _;have hb2:base<=J.next:=cJ hbase (m.next)
    have hlow:iG base J ((J.alloc (.cells [.int .i64 0,.int .i64 0,.str [],.int .i64 0,.nilS] 0 true)).set J.next (.cells x.kids[i].cells 0 true)):=((pn _ _).alloc hb2 _).set hb2 _;refine aU rfl aV aW ?_;simp only[bi];refine aS ?_ (vH hw hI hq n x.kids[i] ac _ _ ac mB (hI _ _ V hlow));rintro v H3 ⟨rfl,U,L⟩;dsimp only[zfp];repeat' (first
     |(apply ah ?_;clear hK K)|apply Rx.o ?_|(apply bt (fun o z=>?_) (fun o z=>?_)<;>try(cases o;done))|apply ak ?_|(apply zff fun K hK=>?_)|apply zfh ?_|apply ax ?_|fail)
    .all_goals (refine⟨zfj,_,zfq,?_⟩;try simp only[zfi])
     refine⟨?_,(m.trans j).trans U,L⟩;rw[DX,hc,Ai q O];simp_all
    .refine⟨O,?_,eE,eE,eE,eE,?_,(m.trans j).trans U,L⟩
     .rw[hc,Ai q O];simp_all
     .simp only[jx,Nat.reduceBEq,iJ,zhe (show i<2^62 by omega)]
   .have hi3:i=x.kids.length:=by simp at o;omega
    all_goals (refine⟨zfj,_,zfq,?_⟩;try simp only[zfi])
    refine⟨?_,m,V⟩;rw[DX,hc,hi3];simp_all[zhs]
  .exact⟨rfl,eE,eE,eE,eE,eE,C.trans Z,Y⟩
end
section
def tyW4b.tyF:=ad @cN (ad @dH (ad @fO (ad @fP (ad @eR (@gJ)))))
open tyW4b
def ya{V:Type}(cfg:Cfg)(base:Nat)(I:V->Hp->Prop)(g:FuncId)(cap:List AV)(q:St->Int->V->Bool×V):Prop:=
 ∀(x:St) (d:Int) (s:V) (H:Hp),x.sz<2^60->base<=H.next->I s H->zfs Tryz.prog cfg g (.agg x.cells::.int .i64 d::cap) H fun v H'=>v=.bool (q x d s).1/\FrB base H H'/\I (q x d s).2 H'
theorem vI{cfg:Cfg}(hw:Plain cfg 116){σ:Type}{base:Nat}{I:σ->Hp->Prop}(hI:∀s,sR base (I s)){g:FuncId}{cap:List AV}{q:St->Int->σ->Bool×σ}(hq:ya cfg base I g cap q):
 ∀(n:Nat) (l:List St),zf0 l<n->∀(d:Int) (s:σ) (H:Hp),zf0 l<2^60->base<=H.next->I s H->zfs Tryz.prog cfg 116 [.lst (l.map St.cells),.int .i64 d,.clo g cap] H fun v H'=>v=.bool (zgQ q l d s).1/\FrB base H H'/\I (zgQ q l d s).2 H'
 |0,l,hx,_,_,_,_,_,_=>by omega
 |n+1,l,hx,d,s,H,hz,hbase,hi=>by
  refine zfz (M:=39) (rs:=[.tmp 6]) (hw.call _) hw.ice hw.froz Tryz.func116 rfl rfl LB.2 rfl ?_;dsimp only[LB,zft,Nat.reduceAdd];repeat' (first
   |(apply ah ?_;clear hK K)|apply Rx.o ?_|apply ak ?_|(apply zff fun K hK=>?_)|apply ay ?_|fail)
  have hl:l.length<2^60:=by have:=xu l;omega
  refine pd (fun i E Y=>∃s2,zgQ q l d s=zgQ q (l.drop i) d s2/\E.at 1=.int .i64 d/\E.at 2=.clo g cap/\E.at 9=.lst (l.map St.cells)/\E.at 10=.int .i64 l.length/\E.at 11=.int .i64 i/\FrB base H Y/\I s2 Y) l.length ?_ ?_
  .rintro i E Y hi2 ⟨s2,hc,h1,h2,h9,h10,h11,m,hI2⟩;repeat' (first
    |(apply ah ?_;clear hK K)|apply Rx.o ?_|(apply bt (fun o Z=>?_) (fun o Z=>?_)<;>try(cases o;done))|apply ak ?_|(apply zff fun K hK=>?_)|apply ay ?_|apply zfh ?_|apply ax ?_|apply zfr ?_)
   .have O:i<l.length:=by simpa using o
    have hgx:l[i]?=some l[i]:=aR O;repeat' (first
     |(apply ah ?_;clear hK K)|apply Rx.o ?_|apply ct ?_|apply ak ?_|(apply zff fun K hK=>?_)|fail)
    have hxm:l[i]∈l:=dI O;have hsm:=zh3 hxm;have hsx:=l[i].sz_eq;generalize hx0:l[i]=x at *;have L:base<=Y.next:=cJ hbase m.next
    generalize C:(Y.alloc _).set Y.next _=H3
    have j:FrB base Y H3:=by rw[<-C];exact((i8 _ _).alloc _).set (.inl (aE _)) _
    have hlow:iG base Y H3:=by rw[<-C];exact((pn _ _).alloc L _).set L _
    have hn3:Y.next<H3.next:=by rw[<-C];simp only[zfw,zfI];omega
    have hg3:H3.get Y.next=some (.cells x.cells 0 true):=by rw[<-C,aQ,aq rfl]
    have hI3:=hI _ _ _ hI2 hlow;have hwd:=YS q O d s2;rw[hx0,YR]at hwd;rw[hwd]at hc;refine aU rfl aV aW ?_;simp only[Af];refine aS ?_ (hq x d s2 H3 ac ac hI3);rintro v H4 ⟨rfl,V,hI4⟩;generalize hq1:q x d s2=r1 at *;obtain⟨ok1,s3⟩:=r1;have hg4:H4.get Y.next=some (.cells x.cells 0 true):=by rw[V.get _ L hn3];exact hg3
    have hn4:Y.next<H4.next:=nr hn3 V.next
    dsimp only[zfp];cases ok1 with
    |false=>
     repeat' (first
      |(apply ah ?_;clear hK K)|apply Rx.o ?_|(apply dr (fun J z=>?_) (fun J z=>?_)<;>try(cases J;done))|(apply bt (fun o Z=>?_) (fun o Z=>?_)<;>try(cases o;done))|apply ak ?_|(apply zff fun K hK=>?_)|apply ax ?_|fail)
     all_goals (refine⟨zfj,_,zfq,?_⟩;try simp only[zfi])
     dsimp only at hc;rw[hc];exact⟨rfl,(m.trans j).trans V,hI4⟩
    |true=>
     repeat' (first
      |apply Rx.o ?_|(apply dr (fun J z=>?_) (fun J z=>?_)<;>try(cases J;done))|fail)
     refine aU rfl aV aW ?_;simp only[bi];have hrec:=vI hw hI hq n x.thn ac (cu (d+1)) s3 H4 ac ac hI4;refine aS ?_ hrec;rintro v H5 ⟨rfl,U,hI5⟩;generalize hq2:zgQ q x.thn (cu (d+1)) s3=r2 at *;obtain⟨ok2,s4⟩:=r2;have hg5:H5.get Y.next=some (.cells x.cells 0 true):=by rw[U.get _ L hn4];exact hg4
     have hn5:Y.next<H5.next:=nr hn4 U.next
     dsimp only[zfp];cases ok2 with
     |false=>
      repeat' (first
       |(apply ah ?_;clear hK K)|apply Rx.o ?_|(apply dr (fun J z=>?_) (fun J z=>?_)<;>try(cases J;done))|(apply bt (fun o Z=>?_) (fun o Z=>?_)<;>try(cases o;done))|apply ak ?_|(apply zff fun K hK=>?_)|apply ax ?_|fail)
      all_goals (refine⟨zfj,_,zfq,?_⟩;try simp only[zfi])
      simp only[hq2]at hc;rw[hc];exact⟨rfl,((m.trans j).trans V).trans U,hI5⟩
     |true=>
      repeat' (first
       |apply Rx.o ?_|(apply dr (fun J z=>?_) (fun J z=>?_)<;>try(cases J;done))|fail)
      refine aU rfl aV aW ?_;simp only[bi];have hrec2:=vI hw hI hq n x.els ac (cu (d+1)) s4 H5 ac ac hI5;refine aS ?_ hrec2;rintro v H6 ⟨rfl,hf6,hI6⟩;generalize hq3:zgQ q x.els (cu (d+1)) s4=r3 at *;obtain⟨ok3,s5⟩:=r3;dsimp only[zfp];have hf7:FrB base H H6:=(((m.trans j).trans V).trans U).trans hf6;cases ok3 with
      |false=>
       repeat' (first
        |(apply ah ?_;clear hK K)|apply Rx.o ?_|(apply dr (fun J z=>?_) (fun J z=>?_)<;>try(cases J;done))|(apply bt (fun o Z=>?_) (fun o Z=>?_)<;>try(cases o;done))|apply ak ?_|(apply zff fun K hK=>?_)|apply ax ?_|fail)
       all_goals (refine⟨zfj,_,zfq,?_⟩;try simp only[zfi])
       simp only[hq2,hq3]at hc;rw[hc];exact⟨rfl,hf7,hI6⟩
      |true=>
       repeat' (first
        |(apply ah ?_;clear hK K)|apply Rx.o ?_|(apply dr (fun J z=>?_) (fun J z=>?_)<;>try(cases J;done))|(apply bt (fun o Z=>?_) (fun o Z=>?_)<;>try(cases o;done))|(apply zff fun K hK=>?_)|apply zfh ?_|fail)
       refine⟨O,s5,?_,eE,eE,eE,eE,?_,hf7,hI6⟩
       .simp only[hq2,hq3]at hc;exact hc
       .simp only[jx,Nat.reduceBEq,iJ,zhe (show i<2^62 by omega)]
   .have hi3:i=l.length:=by simp at o;omega
    all_goals (refine⟨zfj,_,zfq,?_⟩;try simp only[zfi])
    rw[hc,hi3];simp only[nI,zgQ];exact⟨trivial,m,hI2⟩
  .exact⟨s,rfl,eE,eE,eE,eE,eE,i8 _ _,hi⟩
end
section
def tyW4c.tyF:=ad @cN (ad @dH (ad @fO (ad @fP (ad @eR (ad @gJ (ad @ej (ad @iO (ad @mM (@IB)))))))))
open tyW4c
noncomputable def LC:{c:SC // aH 24 (Tryz.f117.body.getD .skip)=c}:=by
 refine⟨?_,?_⟩;rotate_left
 .simp only[Tryz.f117,bS,aH,zfO,zfL,zfR,zfS,Nat.blt,Nat.ble];rfl
noncomputable def LD:{c:SC // aH 7 (Tryz.f119.body.getD .skip)=c}:=by
 refine⟨?_,?_⟩;rotate_left
 .simp only[Tryz.f119,bS,aH,zfO,zfL,zfR,zfS,Nat.blt,Nat.ble];rfl
noncomputable def LF:{c:SC // aH 32 (Tryz.f155.body.getD .skip)=c}:=by
 refine⟨?_,?_⟩;rotate_left
 .simp only[Tryz.f155,bS,aH,zfO,zfL,zfR,zfS,Nat.blt,Nat.ble];rfl
noncomputable def LH:{c:SC // aH 15 (Tryz.f118.body.getD .skip)=c}:=by
 refine⟨?_,?_⟩;rotate_left
 .simp only[Tryz.f118,bS,aH,zfO,zfL,zfR,zfS,Nat.blt,Nat.ble];rfl
theorem zxQ{cfg:Cfg}(Z:Plain cfg 117){base rn rl:Nat}(V:rn<base)(U:rl<base)(O:rn≠rl)(I:Hp):
 ya cfg base (fun(s:Int×Int) H=>H.get rn=some (.cells [.int .i64 s.1] 0 true)/\H.get rl=some (.cells [.int .i64 s.2] 0 true)/\∀r,r<base->r≠rn->r≠rl->H.get r=I.get r) 117 [.ptr rn 0,.ptr rl 0] nH:=by
 intro x d s H hz g ⟨C,m,j⟩;have e1:(rn == H.next)=false:=cC;have e2:(rl == H.next)=false:=cC;have e3:(rl == rn)=false:=cC;have e4:(rn == rl)=false:=cC;have e5:(H.next == rn)=false:=cC;have e6:(H.next == rl)=false:=cC;refine zfz (M:=24) (rs:=[.tmp 6]) (Z.call _) Z.ice Z.froz Tryz.func117 rfl rfl LC.2 rfl ?_;dsimp only[LC,zft,Nat.reduceAdd];repeat' (first
  |(apply ah ?_;clear hK K)|apply Rx.o ?_|apply ct ?_|(apply dr (fun J z=>?_) (fun J z=>?_)<;>try(cases J;done))|(apply bt (fun o Y=>?_) (fun o Y=>?_)<;>try(cases o;done))|apply ak ?_|(apply zff fun K hK=>?_)|apply zfh ?_|apply ax ?_)
 all_goals (refine⟨zfj,_,zfq,?_⟩;try simp only[zfi])
 all_goals (refine⟨?_,?_,?_,?_,?_⟩)
 all_goals first
  |(intro r q1 L i;simp only[aQ,zfk,L,i,show ¬r=H.next by omega,cS];exact j r q1 L i)
  |exact(((i8 _ _).alloc _).set (.inr V) _).set (.inr U) _
  |exact((i8 _ _).alloc _).set (.inr V) _
  |(simp only[get_set,tF,nH, *,iJ,pQ,Bv,oP,cV,cS];done)
  |(simp_all[nH,get_set,tF];done)
  |skip
theorem zxR{cfg:Cfg}(Z:Plain cfg 119){base:Nat}{I:Hp->Prop}(m:sR base I):vG cfg base I 119 [] ri:=by
 intro x d H V g Y;refine zfz (M:=7) (rs:=[.tmp 4]) (Z.call _) Z.ice Z.froz Tryz.func119 rfl rfl LD.2 rfl ?_;dsimp only[LD,zft,Nat.reduceAdd];repeat' (first
  |(apply ah ?_;clear hK K)|apply Rx.o ?_|apply ak ?_|(apply zff fun K hK=>?_)|apply ax ?_)
 all_goals (refine⟨zfj,_,zfq,?_⟩;try simp only[zfi])
 exact⟨rfl,(i8 _ _).alloc _,m _ _ Y ((pn _ _).alloc g _)⟩
theorem zxS{cfg:Cfg}(hw:Plain cfg 155)(hwe:Plain cfg 122){base z:Nat}(V:base<=z){I:Hp->Prop}(hI:sR base I){g:FuncId}{cap:List AV}{q:Ex->Int->Bool}(hq:vG cfg base I g cap q)
 {Y:Nat} (hr1:base<=Y) (hr2:Y<z) (H1:Hp) :
 ya cfg z (fun(_:Unit) H=>I H/\H.get Y=some (.cells [.clo g cap] 0 true)/\∀r,base<=r->r<z->H.get r=H1.get r) 155 [.ptr Y 0] (oD q):=by
 intro x d s H hz hbase ⟨hi,hi3,hi1⟩;have hsz:=x.sz_eq;have e1:(Y == H.next)=false:=cC;have e2:(H.next == Y)=false:=cC;refine zfz (M:=32) (rs:=[.tmp 5]) (hw.call _) hw.ice hw.froz Tryz.func155 rfl rfl LF.2 rfl ?_;dsimp only[LF,zft,Nat.reduceAdd];repeat' (first
  |(apply ah ?_;clear hK K)|apply Rx.o ?_|apply ak ?_|(apply zff fun K hK=>?_)|fail)
 have hIa:=hI _ _ hi ((pn base H).alloc (cJ V hbase) (.cells x.cells 0 true));refine aU rfl aV aW ?_;simp only[bi];refine aS ?_ (vH hwe hI hq (x.at_.sz+1) x.at_ ac 0 _ ac fx hIa);rintro v j ⟨rfl,hf2,hi2⟩;have hn2:H.next<j.next:=by have:=hf2.next;simp only[zfw]at this;omega
 have hg2:j.get H.next=some (.cells x.cells 0 true):=by rw[hf2.get _ ac (by simp[zfw]),zfk,aq rfl]
 have hr3:j.get Y=some (.cells [.clo g cap] 0 true):=by rw[hf2.get _ hr1 fx,zfk,af ac];exact hi3
 have hF2:FrB base H j:=((i8 _ _).alloc _).trans hf2;have L:∀r,base<=r->r<z->j.get r=H1.get r:=fun r h1 h2=>by rw[hF2.get r h1 ac];exact hi1 r h1 h2
 dsimp only[zfp];repeat' (first
  |(apply ah ?_;clear hK K)|apply Rx.o ?_|(apply dr (fun hg hgp=>?_) (fun hg hgp=>?_)<;>try(cases hg;done))|(apply bt (fun o Z=>?_) (fun o Z=>?_)<;>try(cases o;done))|apply ak ?_|(apply zff fun K hK=>?_)|apply ax ?_|fail)
 .refine aU rfl aV aW ?_;simp only[bi];refine aS ?_ (vH hwe hI hq (x.value.sz+1) x.value ac 0 _ ac ac hi2);rintro v H3 ⟨rfl,U,hi3'⟩;have hn3:H.next<H3.next:=nr hn2 U.next
  have hg3:H3.get H.next=some (.cells x.cells 0 true):=by rw[U.get _ ac hn2];exact hg2
  have hr3b:H3.get Y=some (.cells [.clo g cap] 0 true):=by rw[U.get _ hr1 ac];exact hr3
  have hF3:FrB base H H3:=hF2.trans U;have J:∀r,base<=r->r<z->H3.get r=H1.get r:=fun r h1 h2=>by rw[U.get r h1 ac];exact L r h1 h2
  dsimp only[zfp];repeat' (first
   |(apply ah ?_;clear hK K)|apply Rx.o ?_|(apply dr (fun hg hgp=>?_) (fun hg hgp=>?_)<;>try(cases hg;done))|(apply bt (fun o Z=>?_) (fun o Z=>?_)<;>try(cases o;done))|apply ak ?_|(apply zff fun K hK=>?_)|apply ay ?_|apply zfh ?_|apply ax ?_|fail)
  .all_goals (refine⟨zfj,_,zfq,?_⟩;try simp only[zfi])
   exact⟨by simp_all[oD],hF3.weak V,hi3',hr3b,J⟩
  have hl:x.args.length<2^60:=by have:=vb x.args;omega
  refine pd (fun i E j=>zhs q x.args 0=zhs q (x.args.drop i) 0/\E.at 2=.ptr Y 0/\E.at 21=.lst (x.args.map Ex.cells)/\E.at 22=.int .i64 x.args.length/\E.at 23=.int .i64 i/\FrB base H j/\I j/\j.get Y=some (.cells [.clo g cap] 0 true)/\(∀r,base<=r->r<z->j.get r=H1.get r)) x.args.length ?_ ?_
  .rintro i E H4 hi2 ⟨hc,h2,h21,h22,h23,hf4,hI4,hr4,O⟩;have hn4:=hf4.next
   have e3:(Y == H4.next)=false:=cC;repeat' (first
    |(apply ah ?_;clear hK K)|apply Rx.o ?_|(apply bt (fun o Z=>?_) (fun o Z=>?_)<;>try(cases o;done))|apply ak ?_|(apply zff fun K hK=>?_)|apply ay ?_|apply zfh ?_|apply ax ?_|apply zfr ?_)
   .have C:i<x.args.length:=by simpa using o
    have hgx:x.args[i]?=some x.args[i]:=aR C;repeat' (first
     |(apply ah ?_;clear hK K)|apply Rx.o ?_|apply ct ?_|apply ak ?_|(apply zff fun K hK=>?_)|fail)
    have hxm:x.args[i]∈x.args:=dI C;have hsm:=tR hxm;have hb4:base<=H4.next:=ac
    generalize hH5:(H4.alloc _).set H4.next _=H5
    have hf5:FrB base H4 H5:=by rw[<-hH5];exact((i8 _ _).alloc _).set (.inl (aE _)) _
    have hlow5:iG base H4 H5:=by rw[<-hH5];exact((pn _ _).alloc hb4 _).set hb4 _
    have hn5:H4.next<H5.next:=by rw[<-hH5];simp only[zfw,zfI];omega
    refine aU rfl aV aW ?_;simp only[bi];refine aS ?_ (vH hwe hI hq (x.args[i].sz+1) x.args[i] ac 0 _ ac ac (hI _ _ hI4 hlow5));rintro v H6 ⟨rfl,hf6,hi6⟩;have hF6:FrB base H4 H6:=hf5.trans hf6;have hr6:H6.get Y=some (.cells [.clo g cap] 0 true):=by rw[hF6.get _ hr1 ac];exact hr4
    have m:∀r,base<=r->r<z->H6.get r=H1.get r:=fun r h1 h2=>by rw[hF6.get r h1 ac];exact O r h1 h2
    dsimp only[zfp];repeat' (first
     |(apply ah ?_;clear hK K)|apply Rx.o ?_|(apply bt (fun o Z=>?_) (fun o Z=>?_)<;>try(cases o;done))|apply ak ?_|(apply zff fun K hK=>?_)|apply zfh ?_|apply ax ?_|fail)
    .all_goals (refine⟨zfj,_,zfq,?_⟩;try simp only[zfi])
     refine⟨?_,(hf4.trans hF6).weak V,hi6,hr6,m⟩;have:=Ai q C 0;simp_all[oD]
    .refine⟨C,?_,eE,eE,eE,?_,hf4.trans hF6,hi6,hr6,m⟩
     .rw[hc,Ai q C];simp_all
     .simp only[jx,Nat.reduceBEq,iJ,zhe (show i<2^62 by omega)]
   .have hi3:i=x.args.length:=by simp at o;omega
    all_goals (refine⟨zfj,_,zfq,?_⟩;try simp only[zfi])
    refine⟨?_,hf4.weak V,hI4,hr4,O⟩;rw[hi3]at hc;simp_all[oD,zhs]
  .exact⟨rfl,eE,eE,eE,eE,hF3,hi3',hr3b,J⟩
 .all_goals (refine⟨zfj,_,zfq,?_⟩;try simp only[zfi])
  exact⟨by simp_all[oD],hF2.weak V,hi2,hr3,L⟩
end
section
def tyW4d.tyF:=ad @ej (ad @cN (ad @dH (ad @iO (ad @fO (ad @fP (ad @eR (ad @mM (ad @gJ (@IB)))))))))
open tyW4d
structure Plains (cfg:Cfg):Prop where
 we:Plain cfg 122
 ws:Plain cfg 116
 wx:Plain cfg 118
 wx1:Plain cfg 155
theorem LJ{cfg:Cfg}(U:Plains cfg){base:Nat}{I:Hp->Prop}(o:sR base I){g:FuncId}{cap:List AV}{q:Ex->Int->Bool}(hq:vG cfg base I g cap q)(x:Fu)(H:Hp)(hz:x.sz<2^60)(Z:base<=H.next)(hi:I H):
 zfs Tryz.prog cfg 118 [.agg x.cells,.clo g cap] H fun v H'=>v=.bool (oE q x)/\FrB base H H'/\I H':=by
 have hw:=U.wx;have hsz:x.sz=1+x.name.length+zgU x.params+zgU x.locals+zf0 x.body+x.value.sz:=rfl;refine zfz (M:=15) (rs:=[.tmp 4]) (hw.call _) hw.ice hw.froz Tryz.func118 rfl rfl LH.2 rfl ?_;dsimp only[LH,zft,Nat.reduceAdd];repeat' (first
  |(apply ah ?_;clear hK K)|apply Rx.o ?_|apply ak ?_|(apply zff fun K hK=>?_)|fail)
 generalize V:(H.alloc (.cells x.cells 0 true)).alloc (.cells [.clo g cap] 0 true)=H1;have z:FrB base H H1:=by rw[<-V];exact((i8 _ _).alloc _).alloc _
 have hl1:iG base H H1:=by rw[<-V];exact((pn _ _).alloc Z _).alloc fx _
 have hn1:H1.next=H.next+2:=by rw[<-V];rfl
 have hga:H1.get H.next=some (.cells x.cells 0 true):=by rw[<-V,zfk,af (by simp[zfw]),zfk,aq rfl]
 have hgb:H1.get (H.next+1)=some (.cells [.clo g cap] 0 true):=by rw[<-V,zfk,aq (by simp[zfw])]
 refine aU rfl aV aW ?_;simp only[bi];refine aS ?_ (vH U.we o hq (x.value.sz+1) x.value ac 0 H1 ac ac (o _ _ hi hl1));rintro v J ⟨rfl,m,C⟩;have hn2:=m.next
 have hga2:J.get H.next=some (.cells x.cells 0 true):=by rw[m.get _ Z ac];exact hga
 have j:J.get (H.next+1)=some (.cells [.clo g cap] 0 true):=by rw[m.get _ ac ac];exact hgb
 dsimp only[zfp];repeat' (first
  |(apply ah ?_;clear hK K)|apply Rx.o ?_|(apply dr (fun hg i=>?_) (fun hg i=>?_)<;>try(cases hg;done))|apply ax ?_)
 .refine aU rfl aV aW ?_;simp only[bi];refine aS ?_ (vI U.ws (base:=H.next+2) (I:=fun(_:Unit) H'=>I H'/\H'.get (H.next+1)=some (.cells [.clo g cap] 0 true)/\∀r,base<=r->r<H.next+2->H'.get r=J.get r) ?_ (zxS U.wx1 U.we ac o hq ac ac J) (zf0 x.body+1) x.body ac 0 () J ac ac ⟨C,j,fun _ _ _=>rfl⟩)
  .rintro v H3 ⟨rfl,O,hi3,hg3,L⟩;have hF3:FrB base J H3:=⟨O.next,fun r h1 h2=>by
    by_cases hr:r<H.next+2
    .exact L r h1 hr
    .exact O.get r ac h2⟩
   dsimp only[zfp];repeat' (first
    |(apply ah ?_;clear hK K)|apply Rx.o ?_|apply ax ?_)
   all_goals (refine⟨zfj,_,zfq,?_⟩;try simp only[zfi])
   exact⟨by simp_all[oE],(z.trans m).trans hF3,hi3⟩
  .intro _ Ha Hb ⟨h1,h2,h3⟩ Y;exact⟨o _ _ h1 (Y.weak ac),by rw[Y _ ac];exact h2,fun r q1 q2=>by rw[Y _ q2];exact h3 r q1 q2⟩
 .all_goals (refine⟨zfj,_,zfq,?_⟩;try simp only[zfi])
  exact⟨by simp_all[oE],z.trans m,C⟩
end
section
def tyP4f.tyF:=ad @cN (ad @dH (ad @iO (ad @DM (ad @DP (ad @ej (ad @fP (ad @eR (ad @tK (ad @fO (ad @gJ (@nG)))))))))))
open tyP4f
noncomputable def LK:{c:SC // aH 26 (Tryz.f127.body.getD .skip)=c}:=by
 refine⟨?_,?_⟩;rotate_left
 .simp only[Tryz.f127,bS,aH,zfO,zfL,zfR,zfS,Nat.blt,Nat.ble];rfl
noncomputable def LL:{c:SC // aH 27 (Tryz.f128.body.getD .skip)=c}:=by
 refine⟨?_,?_⟩;rotate_left
 .simp only[Tryz.f128,bS,aH,zfO,zfL,zfR,zfS,Nat.blt,Nat.ble];rfl
noncomputable def LM:{c:SC // aH 49 (Tryz.f129.body.getD .skip)=c}:=by
 refine⟨?_,?_⟩;rotate_left
 .simp only[Tryz.f129,bS,aH,zfO,zfL,zfR,zfS,Nat.blt,Nat.ble];rfl
theorem zrv(l:List (List UInt8))(a s:List UInt8):zfE (sH l a) s=(zfE l s||zfE [a] s):=by
 unfold sH;split
 .rename_i h;rw[rq];by_cases e:s=a
  .rw[e,h];rfl
  .rw[d6 e,gK]
 .rw[zhX]
theorem LN{cfg:Cfg}(hw:Plain cfg 127){H:Hp}{r imm:Nat}{x:List (List (List UInt8))}(hg:H.get r=some (.cells (x.map jp) imm true))(hr:r<H.next)(hx:AW x):
 zfs Tryz.prog cfg 127 [.sl r 0 x.length 1] H fun v H'=>v=.map H.next/\(∃l,H'.get H.next=some (.map (gl l))/\∀s,zfE l s=zfE x.flatten s)/\(∀k,k<H.next->H'.get k=H.get k)/\H.next<H'.next:=by
 obtain⟨hx1,hx2⟩:=hx;have hnm:=Ib;refine zfz (M:=26) (rs:=[.tmp 2]) (hw.call _) hw.ice hw.froz Tryz.func127 rfl rfl LK.2 rfl ?_;dsimp only[LK,zft,Nat.reduceAdd];repeat' (first
  |(apply ah ?_;clear hK K)|apply Rx.o ?_|apply ak ?_|(apply zff fun K hK=>?_)|apply ay ?_|fail)
 refine zgs [2,3,9,10] [] 11 x.length (fun i E H2=>(∃l,H2.get H.next=some (.map (gl l))/\∀s,zfE l s=zfE (x.take i).flatten s)/\∀k,k<H.next->H2.get k=H.get k) eE ⟨⟨[],vo,fun s=>rfl⟩,fun k hk=>hY⟩ ?_;rintro i E H2 hi Z Y V hsI ⟨⟨l,U,L⟩,m⟩;(try simp only[zfT,zfB,a0,zfo,zfv,Nat.reduceBEq, *]at Z);(try simp only[zfB,zfv, *]at Y);(try simp only[zfw,]at V);repeat' (first
  |(apply ah ?_;clear hK K)|apply Rx.o ?_|(apply bt (fun o z=>?_) (fun o z=>?_)<;>try(cases o;done))|apply ak ?_|(apply zff fun K hK=>?_)|apply ay ?_|apply zfh ?_|apply ax ?_|apply zfr ?_)
 .have O:i<x.length:=by simpa using o
  have hgx:x[i]?=some x[i]:=aR O;have hsm:=hx2 _ (dI O);have hg2:H2.get r=some (.cells (x.map jp) imm true):=by rw[m r hr];exact hg
  have htk:(x.take (i+1)).flatten=(x.take i).flatten++x[i]:=by rw[oA,hgx,List.flatten_append];simp
  generalize x[i]=J at *;repeat' (first
   |(apply ah ?_;clear hK K)|apply Ry.o ?_|apply ak ?_|(apply zff fun K hK=>?_)|apply ay ?_|fail)
  refine zgs [2,3,9,10,11,15,16] [] 17 J.length (fun j E H3=>(∃l,H3.get H.next=some (.map (gl l))/\∀s,zfE l s=zfE ((x.take i).flatten++J.take j) s)/\∀k,k<H.next->H3.get k=H.get k) eE ⟨⟨l,U,fun s=>by rw[L,vE,bi]⟩,m⟩ ?_;clear U L l m hg2;rintro j E3 H3 hj Z Y V hsI ⟨⟨l,U,L⟩,m⟩;(try simp only[zfT,zfB,a0,zfo,zfv,Nat.reduceBEq, *]at Z);(try simp only[zfB, *]at Y);(try simp only[zfw,zfI,zgj,b9,Nat.reduceAdd]at V);repeat' (first
   |(apply ah ?_;clear hK K)|apply Rx.o ?_|(apply bt (fun o z=>?_) (fun o z=>?_)<;>try(cases o;done))|apply ak ?_|(apply zff fun K hK=>?_)|apply ay ?_|apply zfh ?_|apply zfr ?_)
  .have I:j<J.length:=by simpa using o
   have C:J[j]?=some J[j]:=aR I;have hup:=J5 U J[j];have g:J.take (j+1)=J.take j++[J[j]]:=by rw[oA,C];rfl
   repeat' (first
    |(apply ah ?_;clear hK K)|apply Rx.o ?_|apply ct ?_|(apply zff fun K hK=>?_)|fail)
   refine⟨ac,eL,eL,zf4,JI,?_⟩;refine⟨⟨sH l J[j],by rw[aQ,aq dR],fun s=>?_⟩,fun k hk=>by rw[aQ,af ac];exact m k hk⟩;rw[zrv,L,g,<-nu,zhX ((x.take i).flatten++J.take j)]
  .have hje:j=J.length:=by simp at o;omega
   repeat' (first
    |(apply ah ?_;clear hK K)|fail)
   refine⟨ac,eL,eL,zf4,AJ,?_⟩;exact⟨⟨l,U,fun s=>by rw[L,htk,hje,zo]⟩,m⟩
 .repeat' (first
   |(apply ah ?_;clear hK K)|fail)
  all_goals (refine⟨zfj,_,zfq,?_⟩;try simp only[zfi])
  have hie:i=x.length:=t9;refine⟨trivial,⟨l,U,fun s=>by rw[L,hie,zo]⟩,m,ac⟩
structure Rs where
 r12:Nat
 mv:Nat
 r5:Nat
 ma:Nat
 r6:Nat
 mf:Nat
 r9:Nat
structure RsOk (X:Rs) (vs an:List (List UInt8)) (fm:List (zfD×Int)) (H:Hp):Prop where
 b12:H.get X.r12=some (.cells [.map X.mv] 0 true)
 bv:∃l,H.get X.mv=some (.map (gl l))/\∀s,zfE l s=zfE vs s
 b5:H.get X.r5=some (.cells [.map X.ma] 0 true)
 ba:∃l,H.get X.ma=some (.map (gl l))/\∀s,zfE l s=zfE an s
 b6:H.get X.r6=some (.cells [.map X.mf] 0 true)
 bf:H.get X.mf=some (.map (cW fm))
structure RsLt (X:Rs) (n:Nat):Prop where
 l12:X.r12<n
 lv:X.mv<n
 l5:X.r5<n
 la:X.ma<n
 l6:X.r6<n
 lf:X.mf<n
structure RsNe (X:Rs):Prop where
 l12:X.r12≠X.r9
 lv:X.mv≠X.r9
 l5:X.r5≠X.r9
 la:X.ma≠X.r9
 l6:X.r6≠X.r9
 lf:X.mf≠X.r9
theorem RsOk.keep{X:Rs}{vs K:List (List UInt8)}{Z:List (zfD×Int)}{H H':Hp}(h:RsOk X vs K Z H)(M:H'.get X.r12=H.get X.r12)(U:H'.get X.mv=H.get X.mv)(Y:H'.get X.r5=H.get X.r5)(o:H'.get X.ma=H.get X.ma)(z:H'.get X.r6=H.get X.r6)(i:H'.get X.mf=H.get X.mf):RsOk X vs K Z H' where
 b12:=by rw[M];exact h.b12
 bv:=by rw[U];exact h.bv
 b5:=by rw[Y];exact h.b5
 ba:=by rw[o];exact h.ba
 b6:=by rw[z];exact h.b6
 bf:=by rw[i];exact h.bf
theorem RsOk.low{X:Rs}{vs K:List (List UInt8)}{Z:List (zfD×Int)}{H H':Hp}{n:Nat}(h:RsOk X vs K Z H)(L:RsLt X n)(k:iG n H H'):RsOk X vs K Z H':=
 h.keep (k _ L.l12) (k _ L.lv) (k _ L.l5) (k _ L.la) (k _ L.l6) (k _ L.lf)
theorem zxW{cfg:Cfg}(U:Plain cfg 128){X:Rs}{vs O:List (List UInt8)}{fm:List (zfD×Int)}{base:Nat}(L:RsLt X base){I:Hp->Prop}(hI:sR base I)(hR:∀H,I H->RsOk X vs O fm H):
 vG cfg base I 128 [.ptr X.r12 0,.ptr X.r5 0] fun x _=>ii vs O x:=by
 intro x d H hz g o;obtain⟨Z,⟨lv,m,Y⟩,j,⟨la,V,J⟩,h6,hf⟩:=hR H o;have l12:=L.l12;have llv:=L.lv;have l5:=L.l5;have lla:=L.la;have g12:(H.alloc (.cells x.cells 0 true)).get X.r12=some (.cells [.map X.mv] 0 true):=by rw[zfk,af ac];exact Z
 have g5:(H.alloc (.cells x.cells 0 true)).get X.r5=some (.cells [.map X.ma] 0 true):=by rw[zfk,af ac];exact j
 have i:(H.alloc (.cells x.cells 0 true)).get X.mv=some (.map (gl lv)):=by rw[zfk,af ac];exact m
 have ga:(H.alloc (.cells x.cells 0 true)).get X.ma=some (.map (gl la)):=by rw[zfk,af ac];exact V
 have kv:=vr i x.name;have ka:=vr ga x.name;rw[Y]at kv;rw[J]at ka;clear Z j m V i ga Y J hf h6;have e12:(X.r12 == H.next)=false:=zfN ac;have e5:(X.r5 == H.next)=false:=zfN ac;simp only[];refine zfz (M:=27) (rs:=[.tmp 6]) (U.call _) U.ice U.froz Tryz.func128 rfl rfl LL.2 rfl ?_;dsimp only[LL,zft,Nat.reduceAdd];repeat' (first
  |(apply ah ?_;clear hK K)|apply Rx.o ?_|apply re ?_|(apply dr (fun C z=>?_) (fun C z=>?_)<;>try(cases C;done))|apply ak ?_|(apply zff fun K hK=>?_)|apply ax ?_)
 all_goals
  all_goals (refine⟨zfj,_,zfq,?_⟩;try simp only[zfi])
  refine⟨?_,(i8 _ _).alloc _,hI _ _ o ((pn _ _).alloc g _)⟩;rw[ii];(try simp only[iQ]at *);simp only[ *,gH,gK,oK,eJ,x7,jT,iC,]
theorem LO:mH Tryz.prog 9=some .string:=aj
def zhY(w:Bool):Int:=if w=true then 5 else 0
theorem zxX{cfg:Cfg}(hw:Plain cfg 129){X:Rs}{vs an:List (List UInt8)}{V:List (zfD×Int)}{base:Nat}(L:RsLt X base)(h9:X.r9<base)(U:RsNe X):
 ya cfg base (fun(w:Bool) H=>RsOk X vs an V H/\H.get X.r9=some (.cells [.int .i64 (zhY w)] 0 true)) 129 [.ptr X.r12 0,.ptr X.r5 0,.ptr X.r6 0,.ptr X.r9 0] (mT V vs an):=by
 intro x d w H hz g hi;obtain⟨z,o⟩:=hi;have Y:=z;obtain⟨m,⟨lv,j,i⟩,h5,⟨la,ha1,ha2⟩,h6,hf⟩:=z;have l12:=L.l12;have llv:=L.lv;have l5:=L.l5;have lla:=L.la;have l6:=L.l6;have llf:=L.lf;have Z:iG base H (H.alloc (.cells x.cells 0 true)):=(pn _ _).alloc g _;have g12:(H.alloc (.cells x.cells 0 true)).get X.r12=some (.cells [.map X.mv] 0 true):=by rw[Z _ l12];exact m
 have g5:(H.alloc (.cells x.cells 0 true)).get X.r5=some (.cells [.map X.ma] 0 true):=by rw[Z _ l5];exact h5
 have g6:(H.alloc (.cells x.cells 0 true)).get X.r6=some (.cells [.map X.mf] 0 true):=by rw[Z _ l6];exact h6
 have g9:(H.alloc (.cells x.cells 0 true)).get X.r9=some (.cells [.int .i64 (zhY w)] 0 true):=by rw[Z _ h9];exact o
 have gv:(H.alloc (.cells x.cells 0 true)).get X.mv=some (.map (gl lv)):=by rw[Z _ llv];exact j
 have ga:(H.alloc (.cells x.cells 0 true)).get X.ma=some (.map (gl la)):=by rw[Z _ lla];exact ha1
 have gf:(H.alloc (.cells x.cells 0 true)).get X.mf=some (.map (cW V)):=by rw[Z _ llf];exact hf
 have gb:(H.alloc (.cells x.cells 0 true)).get H.next=some (.cells x.cells 0 true):=xV
 have kv:=vr gv x.name;have ka:=vr ga x.name;have kf:=JT (P:=Tryz.prog) (t:=98) Tryz.underlying98 LO aj gf x.to;rw[i]at kv;rw[ha2]at ka;have hlen:=vb x.args;have hsz:=x.sz_eq;have C:RsOk X vs an V (H.alloc (.cells x.cells 0 true)):=Y.low L Z;have hx0:∀a b,Ab.extract (.tup [a,b]) 0=some a:=fun _ _=>rfl;have hx1:∀a b,Ab.extract (.tup [a,b]) 1=some b:=fun _ _=>rfl;have O:FrB base H (H.alloc (.cells x.cells 0 true)):=(i8 _ _).alloc _;have I:FrB base H ((H.alloc (.cells x.cells 0 true)).set X.r9 (.cells [.int .i64 5] 0 true)):=O.set (.inr h9) _;have J:RsOk X vs an V ((H.alloc (.cells x.cells 0 true)).set X.r9 (.cells [.int .i64 5] 0 true)):=C.keep (by rw[aQ,af U.l12]) (by rw[aQ,af U.lv]) (by rw[aQ,af U.l5]) (by rw[aQ,af U.la]) (by rw[aQ,af U.l6]) (by rw[aQ,af U.lf]);have hw2:((H.alloc (.cells x.cells 0 true)).set X.r9 (.cells [.int .i64 5] 0 true)).get X.r9=some (.cells [.int .i64 (zhY true)] 0 true):=by rw[aQ,aq rfl];rfl
 have s12:((H.alloc (.cells x.cells 0 true)).set X.r9 (.cells [.int .i64 5] 0 true)).get X.r12=some (.cells [.map X.mv] 0 true):=J.b12;have sb:((H.alloc (.cells x.cells 0 true)).set X.r9 (.cells [.int .i64 5] 0 true)).get H.next=some (.cells x.cells 0 true):=by rw[aQ,af ac];exact gb
 have sv:zhv Tryz.prog ((H.alloc (.cells x.cells 0 true)).set X.r9 (.cells [.int .i64 5] 0 true)) 178 (.map X.mv) (.str x.name) false=some (.bool (zfE vs x.name)):=by
  obtain⟨l,q1,q2⟩:=J.bv;rw[vr q1,q2]
 clear m j i h5 ha1 ha2 h6 hf gv ga gf Y o Z;have e12:(X.r12 == H.next)=false:=zfN ac;have e5:(X.r5 == H.next)=false:=zfN ac;have e6:(X.r6 == H.next)=false:=zfN ac;have e9:(X.r9 == H.next)=false:=zfN ac;have d12:(X.r12 == X.r9)=false:=zfN U.l12;have dn:(H.next == X.r9)=false:=zfN ac;simp only[];refine zfz (M:=49) (rs:=[.tmp 8]) (hw.call _) hw.ice hw.froz Tryz.func129 rfl rfl LM.2 rfl ?_;dsimp only[LM,zft,Nat.reduceAdd];repeat' (first
  |(apply ah ?_;clear hK K)|apply Rx.o ?_|apply ct ?_|(apply dr (fun hg hgp=>?_) (fun hg hgp=>?_)<;>try(cases hg;done))|(apply bt (fun hb hbp=>?_) (fun hb hbp=>?_)<;>try(cases hb;done))|apply ak ?_|(apply zff fun K hK=>?_)|apply ay ?_|apply zfh ?_|apply ax ?_)
 all_goals
  all_goals (refine⟨zfj,_,zfq,?_⟩;try simp only[zfi])
  first
  |refine⟨?_,O,C,?_⟩
  |refine⟨?_,I,J,?_⟩
  all_goals
   (try rw[g9]);(try rw[hw2]);clear g12 g5 g6 g9 kv ka kf hx0 hx1 gb s12 sb sv C J O I hw2 e12 e5 e6 e9 d12 dn L U hlen hsz;simp_all[mT,zhY]
end
section
def tyP4g.tyF:=ad @cN (ad @dH (ad @lP (ad @nF (ad @iZ (ad @tK (ad @iO (ad @fO (ad @eR (ad @mM (ad @gJ (ad @nG (ad @DM (ad @DP (ad @EJ (@Z2)))))))))))))))
open tyP4g
noncomputable def LQ:{c:SC // aH 67 (Tryz.f75.body.getD .skip)=c}:=by
 refine⟨?_,?_⟩;rotate_left
 .simp only[Tryz.f75,bS,aH,zfO,zfL,zfR,zfS,Nat.blt,Nat.ble];rfl
noncomputable def Bx:List En:=[EG]
theorem zrw(ρ:Nat->Int):iF Tryz.prog ρ Bx:=⟨J8 ρ,trivial⟩
set_option maxRecDepth 100000 in
theorem znx(ρ:Nat->Int)(p:Pr)(hz:p.sz<2^36):ce Tryz.prog ρ 75 (gh p) (.int .i64 (ug p)):=zg3 fit (pls:=pls) (zrw ρ) (.cons (.agg p.pure) .nil) (.int _ _) (by
 have hw:Plain (zfn pls Bx) 75:=zgK (fun _=>rfl) rfl;have kd:∀H,zfs Tryz.prog (zfn pls Bx) 125 [.agg p.cells] H fun v H'=>v=.tup [jp (zgb p),jp (jJ p)]/\H'=H:=fun H=>zgL (enc:=gh) (out:=fun p=>.tup [jp (zgb p),jp (jJ p)]) sD (x:=p) rfl hz;have hps:Plains (zfn pls Bx):=⟨zgK (fun _=>rfl) rfl,zgK (fun _=>rfl) rfl,zgK (fun _=>rfl) rfl,zgK (fun _=>rfl) rfl⟩;have hpz:p.sz=1+jC p.arrays+ig p.funcs:=rfl;have hla:=tQ p.arrays;have hlf:=tO p.funcs;have hal:(zgb p).length=p.arrays.length:=by simp[zgb]
 have hfl:(jJ p).length=p.funcs.length:=by simp[jJ]
 have hx0:∀a b,Ab.extract (.tup [a,b]) 0=some a:=fun _ _=>rfl;have hx1:∀a b,Ab.extract (.tup [a,b]) 1=some b:=fun _ _=>rfl;have hnm:=Ib;rw[gh];refine zfz (M:=67) (rs:=[.tmp 2]) (hw.call _) hw.ice hw.froz Tryz.func75 rfl rfl LQ.2 rfl ?_;dsimp only[LQ,zft,Nat.reduceAdd];repeat' (first
  |(apply ah ?_;clear hK K)|apply Rx.o ?_|(apply kF ?_;first|refine Rx.k (kd _) ?_)|apply ak ?_|(apply zff fun K hK=>?_)|fail)
 refine aU rfl aV aW ?_;simp only[bi];refine aS ?_ (LN (x:=[zgb p]) (imm:=0) (zgK (fun _=>rfl) rfl) vo (cI _) ⟨au,cC⟩);rintro v J ⟨rfl,⟨la,hma,hla2⟩,hold,hlt2⟩;simp only[zfw,zgj]at hma hold hlt2;rw[show([zgb p]:List (List (List UInt8))).flatten=zgb p by simp]at hla2;have g20:J.get 0=some (.cells p.cells 0 true):=by rw[hold 0 ac,zfk,af au,zfk,aq dR]
 clear hold;dsimp only[zfp];repeat' (first
  |(apply ah ?_;clear hK K)|apply Rx.o ?_|apply ct ?_|apply ak ?_|(apply zff fun K hK=>?_)|apply ay ?_|fail)
 generalize L:Hp.set (Hp.set _ _ _) _ _=Hs;have ns:J.next+3<=Hs.next:=by rw[<-L];exact aE _
 have gs0:Hs.get 0=some (.cells p.cells 0 true):=by rw[<-L,aQ,af ac,aQ,af ac,zfk,af fx,zfk,af fx,zfk,af ac];exact g20
 have gsa:Hs.get 2=some (.map (gl la)):=by rw[<-L,aQ,af ac,aQ,af ac,zfk,af fx,zfk,af fx,zfk,af ac];exact hma
 have gs5:Hs.get (J.next+1)=some (.cells [.map 2] 0 true):=by rw[<-L,aQ,af ac,aQ,aq dR]
 have gs6:Hs.get (J.next+2)=some (.cells [.map J.next] 0 true):=by rw[<-L,aQ,aq dR]
 have gsf:Hs.get J.next=some (.map (cW [])):=by rw[<-L,aQ,af ac,aQ,af ac,zfk,af fx,zfk,af fx,zfk,aq dR];rfl
 clear L hma;have hlt2':3<=J.next:=ac
 clear hlt2;have hE0:(0 == J.next)=false:=zfN ac;have hE2:(2 == J.next)=false:=zfN ac;refine zgs [1,2,5,6,23,24] [0,2,J.next+1,J.next+2] 25 p.funcs.length (fun i E H=>∃m,zg6 (p.funcs.drop i) m=zg6 p.funcs []/\H.get J.next=some (.map (cW m))) eE ⟨[],au,gsf⟩ ?_;rintro i E Z hi hcE hrH hnH hsI ⟨m,hJ,hm⟩;(try simp only[zfT,zfB,a0,zfo,zfv,Nat.reduceBEq,Nat.reduceAdd, *]at hcE);(try simp only[zfT,zfB,a0, *]at hrH);(try simp only[zfw,zfI,zgj,b9,Nat.reduceAdd]at hnH);have hB0:(0 == Z.next)=false:=zfN ac;have hC0:(Z.next == 0)=false:=zfN ac;have hB1:(2 == Z.next)=false:=zfN ac;have hC1:(Z.next == 2)=false:=zfN ac;have hB2:(J.next+1 == Z.next)=false:=zfN ac;have hC2:(Z.next == J.next+1)=false:=zfN ac;have hB3:(J.next+2 == Z.next)=false:=zfN ac;have hC3:(Z.next == J.next+2)=false:=zfN ac;obtain⟨h30,h3a,h35,h36⟩:=hrH;repeat' (first
  |(apply ah ?_;clear hK K)|apply Rx.o ?_|apply ct ?_|(apply bt (fun o z=>?_) (fun o z=>?_)<;>try(cases o;done))|apply ak ?_|(apply zff fun K hK=>?_)|apply ay ?_|apply zfh ?_|apply zfr ?_)
 .have hlt:i<p.funcs.length:=by simpa using o
  have hgx:p.funcs[i]?=some p.funcs[i]:=aR hlt;have hgn:(jJ p)[i]?=some p.funcs[i].name:=by rw[jJ,fT,hgx];rfl
  have hu:=xS (P:=Tryz.prog) (t:=98) Tryz.underlying98 LO hm p.funcs[i].name p.funcs[i].params.length;rw[gW hlt,zg6]at hJ;repeat' (first
   |(apply ah ?_;clear hK K)|apply Rx.o ?_|apply ct ?_|(apply zff fun K hK=>?_)|(apply tN 6 fun K hK=>?_)|fail)
  refine⟨ac,eL,eL,zf4,ua,?_⟩;exact⟨_,hJ,iA⟩
 .have hie:i=p.funcs.length:=by simp at o;omega
  rw[hie,nI,zg6]at hJ;subst hJ;clear hie hsI hi o z;repeat' (first
   |(apply ah ?_;clear hK K)|fail)
  generalize hHq:Hp.set (Hp.alloc Z _) _ _=Hq;have nq:Z.next+1<=Hq.next:=by rw[<-hHq];exact aE _
  have O:∀k,k<Z.next->Hq.get k=Z.get k:=fun k hk=>by rw[<-hHq,aQ,af ac,zfk,af ac]
  have q9:Hq.get Z.next=some (.cells [.int .i64 (zhY false)] 0 true):=by rw[<-hHq,aQ,aq rfl];rfl
  clear hHq;refine zgs [5,6,9,41,42] [] 43 p.funcs.length (fun i E H=>∃w,H.get Z.next=some (.cells [.int .i64 (zhY w)] 0 true)/\ug p=rr (zg6 p.funcs []) (zgb p) (p.funcs.drop i) w/\H.get (J.next+1)=some (.cells [.map 2] 0 true)/\(∃l,H.get 2=some (.map (gl l))/\∀s,zfE l s=zfE (zgb p) s)/\H.get (J.next+2)=some (.cells [.map J.next] 0 true)/\H.get J.next=some (.map (cW (zg6 p.funcs [])))) eE ⟨false,q9,rfl,by rw[O _ ac];exact h35,⟨la,by rw[O _ ac];exact h3a,hla2⟩,by rw[O _ ac];exact h36,by rw[O _ ac];exact hm⟩ ?_;clear hm hla2 la h30 h3a h35 h36 gs0 gsa gs5 gs6 gsf q9 O;rintro i E H4 hi hcE hrH hnH hsI ⟨w,g9,hJ,g5,⟨la,ga,hla⟩,g6,gf⟩;(try simp only[zfT,zfB,a0,zfo,zfv,Nat.reduceBEq, *]at hcE);(try simp only[zfB, *]at hrH);(try simp only[zfw,zfI,zgj,b9,Nat.reduceAdd]at hnH);repeat' (first
   |(apply ah ?_;clear hK K)|apply Rx.o ?_|(apply bt (fun o z=>?_) (fun o z=>?_)<;>try(cases o;done))|apply ak ?_|(apply zff fun K hK=>?_)|apply ay ?_|apply zfh ?_|apply ax ?_|apply zfr ?_)
  .have hlt:i<p.funcs.length:=by simpa using o
   have hgx:p.funcs[i]?=some p.funcs[i]:=aR hlt;have hsm:=pY (dI hlt);have hsz:p.funcs[i].sz=1+p.funcs[i].name.length+zgU p.funcs[i].params+zgU p.funcs[i].locals+zf0 p.funcs[i].body+p.funcs[i].value.sz:=rfl;have hpl:=sf p.funcs[i].params;have hll:=sf p.funcs[i].locals;have hdr:rr (zg6 p.funcs []) (zgb p) (p.funcs.drop i) w=if oE (fun x _=>ii (p.funcs[i].params++p.funcs[i].locals) (zgb p) x) p.funcs[i]=true/\(zgQ (mT (zg6 p.funcs []) (p.funcs[i].params++p.funcs[i].locals) (zgb p)) p.funcs[i].body 0 w).1=true then rr (zg6 p.funcs []) (zgb p) (p.funcs.drop (i+1)) (zgQ (mT (zg6 p.funcs []) (p.funcs[i].params++p.funcs[i].locals) (zgb p)) p.funcs[i].body 0 w).2 else 3:=by rw[gW hlt];rfl
   rw[hdr]at hJ;clear hdr;have hfz:p.funcs[i].sz<2^60:=ac;generalize p.funcs[i]=g at *;repeat' (first
    |(apply ah ?_;clear hK K)|apply Rx.o ?_|apply ct ?_|apply ak ?_|(apply zff fun K hK=>?_)|fail)
   generalize hHb:Hp.alloc (Hp.set _ _ _) _=Hb;have nb:Hb.next=H4.next+2:=by rw[<-hHb];rfl
   have oldb:∀k,k<H4.next->Hb.get k=H4.get k:=fun k hk=>by rw[<-hHb,zfk,af iP,aQ,af ac,zfk,af ac]
   have gbr:Hb.get (H4.next+1)=some (.cells [jp g.params,jp g.locals] 0 true):=by rw[<-hHb,zfk,aq dR]
   have gb11:Hb.get H4.next=some (.cells g.cells 0 true):=by rw[<-hHb,zfk,af iP,aQ,aq rfl]
   clear hHb;refine aU rfl aV aW ?_;simp only[bi];refine aS ?_ (LN (x:=[g.params,g.locals]) (imm:=0) (zgK (fun _=>rfl) rfl) gbr ac ⟨au,cC⟩);rintro v V ⟨rfl,⟨lv,hmv,hlv⟩,old5,n5⟩;rw[show([g.params,g.locals]:List (List (List UInt8))).flatten=g.params++g.locals by simp]at hlv;have o5:∀k,k<H4.next->V.get k=H4.get k:=fun k hk=>by rw[old5 k ac,oldb k hk]
   have g511:V.get H4.next=some (.cells g.cells 0 true):=by rw[old5 _ ac];exact gb11
   have g59:V.get Z.next=some (.cells [.int .i64 (zhY w)] 0 true):=by rw[o5 _ ac];exact g9
   have g55:V.get (J.next+1)=some (.cells [.map 2] 0 true):=by rw[o5 _ ac];exact g5
   have g5a:V.get 2=some (.map (gl la)):=by rw[o5 _ ac];exact ga
   have g56:V.get (J.next+2)=some (.cells [.map J.next] 0 true):=by rw[o5 _ ac];exact g6
   have g5f:V.get J.next=some (.map (cW (zg6 p.funcs []))):=by rw[o5 _ ac];exact gf
   clear o5 old5 gbr gb11 oldb g9 g5 ga g6 gf;have e1:(H4.next == V.next)=false:=zfN ac;dsimp only[zfp];repeat' (first
    |(apply ah ?_;clear hK K)|apply Rx.o ?_|apply ct ?_|apply ak ?_|(apply zff fun K hK=>?_)|fail)
   generalize hHd:Hp.set (Hp.alloc V _) _ _=C;have nd:C.next=V.next+1:=by rw[<-hHd];rfl
   have Y:∀k,k<V.next->C.get k=V.get k:=fun k hk=>by rw[<-hHd,aQ,af ac,zfk,af ac]
   have d12:C.get V.next=some (.cells [.map Hb.next] 0 true):=by rw[<-hHd,aQ,aq rfl,nb]
   clear hHd;have hok:RsOk ⟨V.next,Hb.next,J.next+1,2,J.next+2,J.next,Z.next⟩ (g.params++g.locals) (zgb p) (zg6 p.funcs []) C:={
    b12:=d12
    bv:=⟨lv,by show C.get Hb.next=_;rw[Y _ n5];exact hmv,hlv⟩
    b5:=by show C.get (J.next+1)=_;rw[Y _ ac];exact g55
    ba:=⟨la,by show C.get 2=_;rw[Y _ ac];exact g5a,hla⟩
    b6:=by show C.get (J.next+2)=_;rw[Y _ ac];exact g56
    bf:=by show C.get J.next=_;rw[Y _ ac];exact g5f}
   have hd9:C.get Z.next=some (.cells [.int .i64 (zhY w)] 0 true):=by rw[Y _ ac];exact g59
   have hd11:C.get H4.next=some (.cells g.cells 0 true):=by rw[Y _ ac];exact g511
   have hlX:∀n,C.next<=n->RsLt ⟨V.next,Hb.next,J.next+1,2,J.next+2,J.next,Z.next⟩ n:=fun n hn=>⟨by show V.next<n;omega,by show Hb.next<n;omega,by show J.next+1<n;omega,by show 2<n;omega,by show J.next+2<n;omega,by show J.next<n;omega⟩
   have hnX:RsNe ⟨V.next,Hb.next,J.next+1,2,J.next+2,J.next,Z.next⟩:=⟨by show V.next≠Z.next;omega,by show Hb.next≠Z.next;omega,by show J.next+1≠Z.next;omega,by show 2≠Z.next;omega,by show J.next+2≠Z.next;omega,by show J.next≠Z.next;omega⟩;clear g59 g55 g5a g56 g5f d12 Y hmv hlv hla g511;refine aU rfl aV aW ?_;simp only[bi];refine aS ?_ (LJ hps (I:=fun H'=>iG C.next C H') (fun a b h1 h2=>h1.trans h2) (zxW (zgK (fun _=>rfl) rfl) (hlX _ (aE _)) (fun a b h1 h2=>h1.trans h2) fun H' h=>hok.low (hlX _ (aE _)) h) g C hfz (aE _) (pn _ _));rintro v H6 ⟨rfl,hf6,U⟩;have n6:=hf6.next
   have hok6:=hok.low (hlX _ (aE _)) U;have h69:H6.get Z.next=some (.cells [.int .i64 (zhY w)] 0 true):=by rw[U _ ac];exact hd9
   have h611:H6.get H4.next=some (.cells g.cells 0 true):=by rw[U _ ac];exact hd11
   clear U hf6 hok hd9 hd11;dsimp only[zfp];cases hwf:oE (fun x _=>ii (g.params++g.locals) (zgb p) x) g with
   |false=>
    repeat' (first
     |(apply ah ?_;clear hK K)|apply Rx.o ?_|(apply dr (fun hg hgp=>?_) (fun hg hgp=>?_)<;>try(cases hg;done))|(apply bt (fun o z=>?_) (fun o z=>?_)<;>try(cases o;done))|apply ak ?_|(apply zff fun K hK=>?_)|apply ax ?_|fail)
    all_goals (refine⟨zfj,_,zfq,?_⟩;try simp only[zfi])
    rw[hJ,hwf];simp
   |true=>
    rw[hwf]at hJ;repeat' (first
     |(apply ah ?_;clear hK K)|apply Rx.o ?_|(apply dr (fun hg hgp=>?_) (fun hg hgp=>?_)<;>try(cases hg;done))|apply ak ?_|(apply zff fun K hK=>?_)|fail)
    refine aU rfl aV aW ?_;simp only[bi];refine aS ?_ (vI (zgK (fun _=>rfl) rfl) (base:=H6.next) (I:=fun(w:Bool) H=>RsOk ⟨V.next,Hb.next,J.next+1,2,J.next+2,J.next,Z.next⟩ (g.params++g.locals) (zgb p) (zg6 p.funcs []) H/\H.get Z.next=some (.cells [.int .i64 (zhY w)] 0 true)) (fun s a b h1 h2=>⟨h1.1.low (hlX _ n6) h2,by rw[h2 _ ac];exact h1.2⟩) (zxX (zgK (fun _=>rfl) rfl) (hlX _ n6) (by show Z.next<_;omega) hnX) (zf0 g.body+1) g.body ac 0 w H6 ac (aE _) ⟨hok6,h69⟩);rintro v H7 ⟨rfl,hf7,j,h79⟩;have n7:=hf7.next
    dsimp only[zfp];repeat' (first
     |(apply ah ?_;clear hK K)|apply Rx.o ?_|(apply bt (fun o z=>?_) (fun o z=>?_)<;>try(cases o;done))|apply ak ?_|(apply zff fun K hK=>?_)|apply zfh ?_|apply ax ?_|fail)
    .all_goals (refine⟨zfj,_,zfq,?_⟩;try simp only[zfi])
     rw[hJ];simp_all
    .refine⟨ac,eL,eL,zf4,ua,?_⟩;refine⟨_,h79,?_,j.b5,j.ba,j.b6,j.bf⟩;rw[hJ,aq ⟨rfl,by simp_all⟩]
  .repeat' (first
    |(apply ah ?_;clear hK K)|fail)
   all_goals (refine⟨zfj,_,zfq,?_⟩;try simp only[zfi])
   have hie:i=p.funcs.length:=t9;rw[hJ,hie,nI,rr,zhY])
end
section
def tyW4e.tyF:=ad @cN (ad @dH (ad @lP (ad @nF (ad @iZ (ad @iO (ad @fO (ad @eR (ad @mM (ad @pV (@gJ))))))))))
open tyW4e
noncomputable def LR:{c:SC // aH 68 (Tryz.f72.body.getD .skip)=c}:=by
 refine⟨?_,?_⟩;rotate_left
 .simp only[Tryz.f72,bS,aH,zfO,zfL,zfR,zfS,Nat.blt,Nat.ble];rfl
theorem zrx{cfg:Cfg}(hp:Plains cfg)(hw:Plain cfg 72)(h1w:Plain cfg 117)(h2w:Plain cfg 119)(p:Pr)(hz:p.sz<2^60):
 zfs Tryz.prog cfg 72 [.agg p.cells] zfM fun v _=>v=.bool (lj p):=by
 have hpz:p.sz=1+jC p.arrays+ig p.funcs:=rfl;have hla:=tQ p.arrays;have hlf:=tO p.funcs;have hla2:p.arrays.length<2^60:=ac;have hlf2:p.funcs.length<2^60:=ac;refine zfz (M:=68) (rs:=[.tmp 2]) (hw.call _) hw.ice hw.froz Tryz.func72 rfl rfl LR.2 rfl ?_;dsimp only[LR,zft,Nat.reduceAdd];repeat' (first
  |(apply ah ?_;clear hK K)|apply Rx.o ?_|(apply dr (fun J Z=>?_) (fun J Z=>?_)<;>try(cases J;done))|(apply bt (fun o z=>?_) (fun o z=>?_)<;>try(cases o;done))|apply ak ?_|(apply zff fun K hK=>?_)|apply ay ?_|apply zfh ?_|apply ax ?_|fail)
 .all_goals (refine⟨zfj,_,zfq,?_⟩;try simp only[zfi])
  simp_all[lj];try(intros;omega)
 .refine pd (fun i E H=>p.arrays.all (fun a=>!decide (a.len<1) && !decide (16<a.len))=(p.arrays.drop i).all (fun a=>!decide (a.len<1) && !decide (16<a.len))/\E.at 1=.ptr 0 0/\E.at 21=.lst (p.arrays.map Ar.cells)/\E.at 22=.int .i64 p.arrays.length/\E.at 23=.int .i64 i/\0<H.next/\H.get 0=some (.cells p.cells 0 true)) p.arrays.length ?_ ?_
  .rintro i E H hi ⟨hc,h1,h21,h22,h23,hn,hg0⟩;have e0:(0 == H.next)=false:=cC;repeat' (first
    |(apply ah ?_;clear hK K)|apply Rx.o ?_|(apply bt (fun o z=>?_) (fun o z=>?_)<;>try(cases o;done))|apply ak ?_|(apply zff fun K hK=>?_)|apply ay ?_|apply zfh ?_|apply zfr ?_)
   .have O:i<p.arrays.length:=by simpa using o
    have hgx:p.arrays[i]?=some p.arrays[i]:=aR O;have hd:(p.arrays.drop i).all (fun a=>!decide (a.len<1) && !decide (16<a.len))=((!decide (p.arrays[i].len<1) && !decide (16<p.arrays[i].len))&&(p.arrays.drop (i+1)).all (fun a=>!decide (a.len<1) && !decide (16<a.len))):=x6;repeat' (first
     |(apply ah ?_;clear hK K)|apply Rx.o ?_|apply ct ?_|(apply dr (fun J Z=>?_) (fun J Z=>?_)<;>try(cases J;done))|(apply bt (fun o z=>?_) (fun o z=>?_)<;>try(cases o;done))|apply ak ?_|(apply zff fun K hK=>?_)|apply zfh ?_|apply ax ?_|fail)
    .all_goals (refine⟨zfj,_,zfq,?_⟩;try simp only[zfi])
     have L:p.arrays.all (fun a=>!decide (a.len<1) && !decide (16<a.len))=false:=by rw[hc,hd];simp_all
     simp only[lj,L];simp
    .refine⟨O,?_,eE,eE,eE,?_,iP,eF⟩
     .rw[hc,hd];simp_all
     .simp only[jx,Nat.reduceBEq,iJ,zhe (show i<2^62 by omega)]
    .all_goals (refine⟨zfj,_,zfq,?_⟩;try simp only[zfi])
     have L:p.arrays.all (fun a=>!decide (a.len<1) && !decide (16<a.len))=false:=by rw[hc,hd];simp_all
     simp only[lj,L];simp
   .have hia:i=p.arrays.length:=by simp at o;omega
    have hca:p.arrays.all (fun a=>!decide (a.len<1) && !decide (16<a.len))=true:=by rw[hc,hia];simp
    clear hc;repeat' (first
     |(apply ah ?_;clear hK K)|fail)
    refine pd (fun i E H=>p.funcs.all jD=(p.funcs.drop i).all jD/\E.at 37=.lst (p.funcs.map Fu.cells)/\E.at 38=.int .i64 p.funcs.length/\E.at 39=.int .i64 i/\0<H.next) p.funcs.length ?_ ?_
    .rintro i E H hi ⟨hc,h37,h38,h39,hn⟩;repeat' (first
      |(apply ah ?_;clear hK K)|apply Rx.o ?_|(apply bt (fun o z=>?_) (fun o z=>?_)<;>try(cases o;done))|apply ak ?_|(apply zff fun K hK=>?_)|apply ay ?_|apply zfh ?_|apply ax ?_|apply zfr ?_)
     .have O:i<p.funcs.length:=by simpa using o
      have hgx:p.funcs[i]?=some p.funcs[i]:=aR O;have hd:(p.funcs.drop i).all jD=(jD p.funcs[i]&&(p.funcs.drop (i+1)).all jD):=x6;have hxm:=pY (dI O);generalize hx0:p.funcs[i]=x at *;have hsx:x.sz=1+x.name.length+zgU x.params+zgU x.locals+zf0 x.body+x.value.sz:=rfl;repeat' (first
       |(apply ah ?_;clear hK K)|apply Rx.o ?_|apply ct ?_|(apply dr (fun J Z=>?_) (fun J Z=>?_)<;>try(cases J;done))|(apply bt (fun o z=>?_) (fun o z=>?_)<;>try(cases o;done))|apply ak ?_|(apply zff fun K hK=>?_)|apply ax ?_|fail)
      .generalize U:Hp.set _ (H.next+2) _=m;have hn5:m.next=H.next+3:=by rw[<-U];rfl
       have j:m.get H.next=some (.cells x.cells 0 true):=by rw[<-U];simp only[get_set,tF,zfw,zfI,Ds,jS,Nat.reduceAdd,Bv,iJ,pQ]
       have g:m.get (H.next+1)=some (.cells [.int .i64 0] 0 true):=Lw;have hg5c:m.get (H.next+2)=some (.cells [.int .i64 0] 0 true):=Lw;refine aU rfl aV aW ?_;simp only[bi];refine aS ?_ (vI hp.ws (base:=H.next+3) (fun s Ha Hb h Y=>⟨by rw[Y _ ac];exact h.1,by rw[Y _ ac];exact h.2.1,fun r q1 q2 q3=>by rw[Y r q1];exact h.2.2 r q1 q2 q3⟩) (zxQ h1w (base:=H.next+3) (rn:=H.next+1) (rl:=H.next+2) ac ac ac m) (zf0 x.body+1) x.body ac 0 (0,0) m ac ac ⟨g,hg5c,fun _ _ _ _=>rfl⟩);rintro v H6 ⟨rfl,hf6,hi6⟩;have hn6:=hf6.next
       have hg6:H6.get H.next=some (.cells x.cells 0 true):=by rw[hi6.2.2 _ ac ac ac];exact j
       dsimp only[zfp];repeat' (first
        |(apply ah ?_;clear hK K)|apply Rx.o ?_|(apply dr (fun J Z=>?_) (fun J Z=>?_)<;>try(cases J;done))|(apply bt (fun o z=>?_) (fun o z=>?_)<;>try(cases o;done))|apply ak ?_|(apply zff fun K hK=>?_)|apply ax ?_|fail)
       .refine aU rfl aV aW ?_;simp only[bi];refine aS ?_ (LJ hp (base:=0) (I:=fun _=>True) (fun _ _ _ _=>trivial) (zxR h2w (fun _ _ _ _=>trivial)) x H6 ac ac trivial);rintro v H7 ⟨rfl,hf7,_⟩;have hn7:=hf7.next
        dsimp only[zfp];repeat' (first
         |(apply ah ?_;clear hK K)|apply Rx.o ?_|(apply dr (fun J Z=>?_) (fun J Z=>?_)<;>try(cases J;done))|(apply bt (fun o z=>?_) (fun o z=>?_)<;>try(cases o;done))|apply ak ?_|(apply zff fun K hK=>?_)|apply zfh ?_|apply ax ?_|fail)
        .all_goals (refine⟨zfj,_,zfq,?_⟩;try simp only[zfi])
         have V:p.funcs.all jD=false:=by rw[hc,hd];simp_all[jD]
         simp only[lj,V];simp
        .refine⟨O,?_,eE,eE,?_,ac⟩
         .rw[hc,hd];simp_all[jD]
         .simp only[jx,Nat.reduceBEq,iJ,zhe (show i<2^62 by omega)]
       .all_goals (refine⟨zfj,_,zfq,?_⟩;try simp only[zfi])
        have V:p.funcs.all jD=false:=by rw[hc,hd];simp_all[jD]
        simp only[lj,V];simp
      .all_goals (refine⟨zfj,_,zfq,?_⟩;try simp only[zfi])
       have C:jD x=false:=by
        simp only[jD,sm,i4];first|exact .inl (.inl (.inl jd))|exact .inl (.inl (.inr jd))
       have V:p.funcs.all jD=false:=by rw[hc,hd,C,eJ]
       simp only[lj,V];simp
      .all_goals (refine⟨zfj,_,zfq,?_⟩;try simp only[zfi])
       have C:jD x=false:=by
        simp only[jD,sm,i4];first|exact .inl (.inl (.inl jd))|exact .inl (.inl (.inr jd))
       have V:p.funcs.all jD=false:=by rw[hc,hd,C,eJ]
       simp only[lj,V];simp
     .all_goals (refine⟨zfj,_,zfq,?_⟩;try simp only[zfi])
      have:i=p.funcs.length:=t9;simp_all[lj];try(intros;omega)
    .exact⟨rfl,eE,eE,eE,ac⟩
  .exact⟨rfl,eE,eE,eE,eE,by simp[zfw,zgj],eF⟩
 .all_goals (refine⟨zfj,_,zfq,?_⟩;try simp only[zfi])
  simp_all[lj];try(intros;omega)
end
section
def tyW4f.tyF:=ad @cN (ad @xo (@dH))
open tyW4f
noncomputable def LS:{c:SC // aH 21 (Tryz.f203.body.getD .skip)=c}:=by
 refine⟨?_,?_⟩;rotate_left
 .simp only[Tryz.f203,bS,aH,zfO,zfL,zfR,zfS,Nat.blt,Nat.ble];rfl
noncomputable def LU:{c:SC // aH 9 (Tryz.f197.body.getD .skip)=c}:=by
 refine⟨?_,?_⟩;rotate_left
 .simp only[Tryz.f197,bS,aH,zfO,zfL,zfR,zfS,Nat.blt,Nat.ble];rfl
noncomputable def LV:{c:SC // aH 23 (Tryz.f195.body.getD .skip)=c}:=by
 refine⟨?_,?_⟩;rotate_left
 .simp only[Tryz.f195,bS,aH,zfO,zfL,zfR,zfS,Nat.blt,Nat.ble];rfl
noncomputable def LW:{c:SC // aH 34 (Tryz.f182.body.getD .skip)=c}:=by
 refine⟨?_,?_⟩;rotate_left
 .simp only[Tryz.f182,bS,aH,zfO,zfL,zfR,zfS,Nat.blt,Nat.ble];rfl
noncomputable def LX:{c:SC // aH 37 (Tryz.f198.body.getD .skip)=c}:=by
 refine⟨?_,?_⟩;rotate_left
 .simp only[Tryz.f198,bS,aH,zfO,zfL,zfR,zfS,Nat.blt,Nat.ble];rfl
theorem zny{cfg:Cfg}(Z:Plain cfg 203)(n:Int)(H:Hp):zfs Tryz.prog cfg 203 [.int .u8 n] H fun v H'=>v=.bool (oF n)/\H'=H:=by
 refine zfz (M:=21) (rs:=[.tmp 2]) (Z.call _) Z.ice Z.froz Tryz.func203 rfl rfl LS.2 rfl ?_;dsimp only[LS,zft,Nat.reduceAdd];repeat' (first
  |(apply ah ?_;clear hK K)|apply Rx.o ?_|apply re ?_|(apply dr (fun J z=>?_) (fun J z=>?_)<;>try(cases J;done))|apply ak ?_|(apply zff fun K hK=>?_)|apply ax ?_)
 all_goals (refine⟨zfj,_,zfq,?_⟩;try simp only[zfi])
 all_goals (refine⟨?_,gm⟩;simp_all[oF]<;>omega)
theorem E9{cfg:Cfg}(Z:Plain cfg 197)(n:Int)(H:Hp):zfs Tryz.prog cfg 197 [.int .u8 n] H fun v H'=>v=.bool (mN n)/\H'=H:=by
 refine zfz (M:=9) (rs:=[.tmp 2]) (Z.call _) Z.ice Z.froz Tryz.func197 rfl rfl LU.2 rfl ?_;dsimp only[LU,zft,Nat.reduceAdd];repeat' (first
  |(apply ah ?_;clear hK K)|apply Rx.o ?_|(apply dr (fun J z=>?_) (fun J z=>?_)<;>try(cases J;done))|apply ak ?_|(apply zff fun K hK=>?_)|apply ax ?_)
 all_goals (refine⟨zfj,_,zfq,?_⟩;try simp only[zfi])
 all_goals (refine⟨?_,gm⟩;simp_all[mN]<;>omega)
theorem zo7{cfg:Cfg}(V:Plain cfg 195)(L:Plain cfg 203)(hd:Plain cfg 197)(s:List UInt8)(C:s.length<2^60)(H:Hp):
 zfs Tryz.prog cfg 195 [.str s] H fun v H'=>v=.int .i64 (zgX s)/\H'=H:=by
 refine zfz (M:=23) (rs:=[.tmp 2]) (V.call _) V.ice V.froz Tryz.func195 rfl rfl LV.2 rfl ?_;dsimp only[LV,zft,Nat.reduceAdd];repeat' (first
  |(apply ah ?_;clear hK K)|apply Rx.o ?_|apply ak ?_|(apply zff fun K hK=>?_)|apply ay ?_|fail)
 refine pd (fun i E H'=>zgX s=i+zgX (s.drop i)/\E.at 0=.str s/\E.at 3=.int .i64 i/\H'=H) s.length ?_ ?_
 .rintro i E H' j ⟨hc,g,h3,rfl⟩;repeat' (first
   |(apply ah ?_;clear hK K)|apply Rx.o ?_|apply re ?_|(apply dr (fun J z=>?_) (fun J z=>?_)<;>try(cases J;done))|(apply bt (fun o Z=>?_) (fun o Z=>?_)<;>try(cases o;done))|apply ak ?_|(apply zff fun K hK=>?_)|apply ax ?_|apply zfr ?_)
  .have O:i<s.length:=by omega
   have I:s[i]?=some s[i]:=aR O;have m:zgX (s.drop i)=if kH s[i]then zgX (s.drop (i+1))+1 else 0:=by rw[gW O,zgX]
   repeat' (first
    |apply Rx.o ?_|(apply dr (fun J z=>?_) (fun J z=>?_)<;>try(cases J;done))|fail)
   refine aU rfl aV aW ?_;simp only[bi];refine aS ?_ (zny L s[i].toNat H');rintro v _ ⟨rfl,rfl⟩;dsimp only[zfp];repeat' (first
    |(apply ah ?_;clear hK K)|apply Rx.o ?_|(apply dr (fun J z=>?_) (fun J z=>?_)<;>try(cases J;done))|(apply bt (fun o Z=>?_) (fun o Z=>?_)<;>try(cases o;done))|(apply zff fun K hK=>?_)|apply ay ?_|apply zfh ?_|fail)
   .refine aU rfl aV aW ?_;simp only[bi];refine aS ?_ (E9 hd s[i].toNat _);rintro v _ ⟨rfl,rfl⟩;dsimp only[zfp];repeat' (first
     |(apply ah ?_;clear hK K)|apply Rx.o ?_|(apply dr (fun J z=>?_) (fun J z=>?_)<;>try(cases J;done))|(apply bt (fun o Z=>?_) (fun o Z=>?_)<;>try(cases o;done))|apply ak ?_|(apply zff fun K hK=>?_)|apply ay ?_|apply zfh ?_|apply ax ?_|apply zfr ?_)
    .have Y:kH s[i]=true:=by simp_all[kH]
     refine⟨O,?_,eE,?_,rfl⟩
     .rw[hc,m,Y];simp;omega
     .simp only[jx,Nat.reduceBEq,iJ,zhe (show i<2^62 by omega)]
    .have Y:kH s[i]=false:=by simp_all[kH]
     all_goals (refine⟨zfj,_,zfq,?_⟩;try simp only[zfi])
     exact⟨by rw[hc,m,Y];simp,gm⟩
   .have Y:kH s[i]=true:=by simp_all[kH]
    refine⟨O,?_,eE,?_,rfl⟩
    .rw[hc,m,Y];simp;omega
    .simp only[jx,Nat.reduceBEq,iJ,zhe (show i<2^62 by omega)]
  .all_goals (refine⟨zfj,_,zfq,?_⟩;try simp only[zfi])
   have U:i=s.length:=ac;refine⟨?_,gm⟩;rw[hc,U];simp[zgX]
 .exact⟨au,eE,eE,rfl⟩
theorem LY{cfg:Cfg}(L:Plain cfg 182)(s:List UInt8)(hs:s.length<2^60)(H:Hp):
 zfs Tryz.prog cfg 182 [.str s] H fun v H'=>v=.int .i64 (zg2 false s)/\H'=H:=by
 refine zfz (M:=34) (rs:=[.tmp 2]) (L.call _) L.ice L.froz Tryz.func182 rfl rfl LW.2 rfl ?_;dsimp only[LW,zft,Nat.reduceAdd];repeat' (first
  |(apply ah ?_;clear hK K)|apply Rx.o ?_|apply ak ?_|(apply zff fun K hK=>?_)|apply ay ?_|fail)
 refine xf (fun n E H'=>∃i:Nat,n=s.length-i/\i<=s.length/\zg2 false s=i+zg2 false (s.drop i)/\E.at 0=.str s/\E.at 3=.int .i64 i/\H'=H) ?_ (n:=s.length) ?_
 .rintro n E H' ⟨i,rfl,hi,hc,h0,h3,rfl⟩;repeat' (first
   |(apply ah ?_;clear hK K)|apply Rx.o ?_|(apply bt (fun o z=>?_) (fun o z=>?_)<;>try(cases o;done))|apply ak ?_|(apply zff fun K hK=>?_)|apply ay ?_|apply zfh ?_|apply ax ?_|apply zfr ?_)
  .have O:i<s.length:=by omega
   have hgx:s[i]?=some s[i]:=aR O;have m:zg2 false (s.drop i)=if jX s[i]then zg2 false (s.drop (i+1))+1 else if s[i].toNat=35 then zg2 true (s.drop (i+1))+1 else 0:=by rw[gW O,zg2]
   repeat' (first
    |(apply ah ?_;clear hK K)|apply Rx.o ?_|(apply bt (fun o z=>?_) (fun o z=>?_)<;>try(cases o;done))|apply ak ?_|(apply zff fun K hK=>?_)|apply ay ?_|apply zfh ?_|apply ax ?_|fail)
   .have C:jX s[i]=true:=by unfold jX;simp;omega
    refine⟨s.length-(i+1),ac,i+1,rfl,ac,?_,eE,?_,rfl⟩
    .rw[hc,m,aq C];omega
    .simp only[jx,Nat.reduceBEq,iJ,zhe (show i<2^62 by omega)]
   .have C:jX s[i]=true:=by unfold jX;simp;omega
    refine⟨s.length-(i+1),ac,i+1,rfl,ac,?_,eE,?_,rfl⟩
    .rw[hc,m,aq C];omega
    .simp only[jx,Nat.reduceBEq,iJ,zhe (show i<2^62 by omega)]
   .have C:jX s[i]=true:=by unfold jX;simp;omega
    refine⟨s.length-(i+1),ac,i+1,rfl,ac,?_,eE,?_,rfl⟩
    .rw[hc,m,aq C];omega
    .simp only[jx,Nat.reduceBEq,iJ,zhe (show i<2^62 by omega)]
   .have C:jX s[i]=true:=by unfold jX;simp;omega
    refine⟨s.length-(i+1),ac,i+1,rfl,ac,?_,eE,?_,rfl⟩
    .rw[hc,m,aq C];omega
    .simp only[jx,Nat.reduceBEq,iJ,zhe (show i<2^62 by omega)]
   .have g:s[i].toNat=35:=by omega
    have C:jX s[i]=false:=by unfold jX;simp;omega
    have hln:jE (s.drop i)=jE (s.drop (i+1))+1:=by rw[gW O,jE,af ac]
    have V:zg2 false s=i+jE (s.drop i)+zg2 false (s.drop (i+jE (s.drop i))):=by
     rw[hc,m,C,af au,aq g,I8,Cq,hln,show i+1+jE (s.drop (i+1))=i+(jE (s.drop (i+1))+1) by omega];omega
    have hle:=I7 (s.drop i);rw[ku]at hle;refine xf (fun n E H''=>∃j:Nat,n=s.length-j/\i<=j/\j<=s.length/\i+jE (s.drop i)=j+jE (s.drop j)/\E.at 0=.str s/\E.at 3=.int .i64 j/\H''=H') ?_ (n:=s.length-i) ?_
    .rintro n E2 H2 ⟨j,rfl,hij,hj,Z,k0,k3,rfl⟩;repeat' (first
      |(apply ah ?_;clear hK K)|apply Rx.o ?_|(apply dr (fun J Y=>?_) (fun J Y=>?_)<;>try(cases J;done))|(apply bt (fun o z=>?_) (fun o z=>?_)<;>try(cases o;done))|apply ak ?_|(apply zff fun K hK=>?_)|apply zfr ?_)
     .have I:j<s.length:=by omega
      have hgx2:s[j]?=some s[j]:=aR I;have U:jE (s.drop j)=if s[j].toNat=10 then 0 else jE (s.drop (j+1))+1:=by rw[gW I,jE]
      repeat' (first
       |(apply ah ?_;clear hK K)|apply Rx.o ?_|(apply dr (fun J Y=>?_) (fun J Y=>?_)<;>try(cases J;done))|(apply bt (fun o z=>?_) (fun o z=>?_)<;>try(cases o;done))|(apply zff fun K hK=>?_)|apply ay ?_|apply zfh ?_|apply zfr ?_)
      .refine⟨s.length-(j+1),ac,j+1,rfl,ac,ac,?_,eE,?_,rfl⟩
       .rw[Z,U,af (by simp_all;omega)];omega
       .simp only[jx,Nat.reduceBEq,iJ,zhe (show j<2^62 by omega)]
      .have h10:s[j].toNat=10:=by simp_all;omega
       rw[U,aq h10,qT]at Z;refine⟨s.length-j,ac,j,rfl,ac,?_,eE,eE,gm⟩;rw[V,Z]
     .have hje:j=s.length:=by omega
      have h0j:jE (s.drop j)=0:=by rw[hje];simp[jE]
      rw[h0j,qT]at Z;refine⟨s.length-j,ac,j,rfl,ac,?_,eE,eE,gm⟩;rw[V,Z]
    .exact⟨i,rfl,ac,ac,rfl,eE,eE,rfl⟩
   .have C:jX s[i]=false:=by unfold jX;simp;omega
    all_goals (refine⟨zfj,_,zfq,?_⟩;try simp only[zfi])
    refine⟨?_,gm⟩;rw[hc,m,C,af au,af ac];simp
  .all_goals (refine⟨zfj,_,zfq,?_⟩;try simp only[zfi])
   have hie:i=s.length:=ac;refine⟨?_,gm⟩;rw[hc,hie];simp[zg2]
 .exact⟨0,au,ac,au,eE,eE,rfl⟩
end
section
def tyW4g.tyF:=ad @cN (ad @dH (ad @tK (ad @DK (ad @DL (ad @Ad (ad @xo (ad @YN (ad @RJ (ad @Dw (@Tryz.underlying9))))))))))
open tyW4g
noncomputable def LZ:{c:SC // aH 35 (Tryz.f196.body.getD .skip)=c}:=by
 refine⟨?_,?_⟩;rotate_left
 .simp only[Tryz.f196,bS,aH,zfO,zfL,zfR,zfS,Nat.blt,Nat.ble];rfl
noncomputable def L0:{c:SC // aH 41 (Tryz.f183.body.getD .skip)=c}:=by
 refine⟨?_,?_⟩;rotate_left
 .simp only[Tryz.f183,bS,aH,zfO,zfL,zfR,zfS,Nat.blt,Nat.ble];rfl
noncomputable def L4:{c:SC // aH 49 (Tryz.f156.body.getD .skip)=c}:=by
 refine⟨?_,?_⟩;rotate_left
 .simp only[Tryz.f156,bS,aH,zfO,zfL,zfR,zfS,Nat.blt,Nat.ble];rfl
theorem zjO{cfg:Cfg}(Z:Plain cfg 198)(hd:Plain cfg 197)(s:List UInt8)(V:s≠[])(C:s.length<2^60)(H:Hp):
 zfs Tryz.prog cfg 198 [.str s] H fun v H'=>(∃b,v=.bool b)/\H'=H:=by
 have I:0<s.length:=ve.2 V;have U:s[0]?=some s[0]:=aR I;refine zfz (M:=37) (rs:=[.tmp 2]) (Z.call _) Z.ice Z.froz Tryz.func198 rfl rfl LX.2 rfl ?_;dsimp only[LX,zft,Nat.reduceAdd];repeat' (first
  |(apply ah ?_;clear hK K)|apply Rx.o ?_|apply ak ?_|(apply zff fun K hK=>?_)|apply ay ?_|fail)
 refine pd (fun i E H'=>E.at 0=.str s/\E.at 3=.int .i64 i/\H'=H) s.length ?_ ?_
 .rintro i E H' m ⟨k0,j,rfl⟩;repeat' (first
   |(apply ah ?_;clear hK K)|apply Rx.o ?_|(apply bt (fun o z=>?_) (fun o z=>?_)<;>try(cases o;done))|apply ak ?_|(apply zff fun K hK=>?_)|apply ay ?_|apply zfh ?_|apply zfr ?_)
  .have O:i<s.length:=by omega
   have L:s[i]?=some s[i]:=aR O;repeat' (first
    |apply Rx.o ?_|fail)
   refine aU rfl aV aW ?_;simp only[bi];refine aS ?_ (E9 hd s[i].toNat H');rintro v _ ⟨rfl,rfl⟩;dsimp only[zfp];repeat' (first
    |(apply ah ?_;clear hK K)|apply Rx.o ?_|(apply bt (fun o z=>?_) (fun o z=>?_)<;>try(cases o;done))|apply ak ?_|(apply zff fun K hK=>?_)|apply zfh ?_|apply ax ?_|fail)
   .all_goals (refine⟨zfj,_,zfq,?_⟩;try simp only[zfi])
    exact⟨⟨_,rfl⟩,gm⟩
   .refine⟨O,eE,?_,gm⟩;simp only[jx,Nat.reduceBEq,iJ,zhe (show i<2^62 by omega)]
  .repeat' (first
    |(apply ah ?_;clear hK K)|apply Ry.o ?_|apply ib ?_|(apply bC (fun J Y=>?_) (fun J Y=>?_)<;>try(cases J;done))|apply ax ?_|fail)
   all_goals (refine⟨zfj,_,zfq,?_⟩;try simp only[zfi])
   all_goals exact⟨⟨_,rfl⟩,gm⟩
 .exact⟨eE,eE,rfl⟩
def za5:List (List UInt8):=[[62,62,62],[60,60],[62,62],[60,61],[62,61],[61,61],[33,61]]
theorem zlU{cfg:Cfg}(V:Plain cfg 196)(hplan:∀id,cfg.plan 196 id=.text)(s:List UInt8)(g:s≠[])(hs:s.length<2^60)(H:Hp):
 zfs Tryz.prog cfg 196 [.str s] H fun v H'=>(∃n:Nat,v=.int .i64 n/\n<=s.length)/\H'=H:=by
 have I:0<s.length:=ve.2 g;have hg0:s[0]?=some s[0]:=aR I;have L:zgB Tryz.prog 227 [(0,.str [62,62,62]),(1,.str [60,60]),(2,.str [62,62]),(3,.str [60,61]),(4,.str [62,61]),(5,.str [61,61]),(6,.str [33,61])]=some (.agg [.str [62,62,62],.str [60,60],.str [62,62],.str [60,61],.str [62,61],.str [61,61],.str [33,61]]):=aj;refine zfz (M:=35) (rs:=[.tmp 2]) (V.call _) V.ice V.froz Tryz.func196 rfl rfl LZ.2 rfl ?_;dsimp only[LZ,zft,Nat.reduceAdd];repeat' (first
  |(apply ah ?_;clear hK K)|apply Rx.o ?_|apply ak ?_|(apply zff fun K hK=>?_)|apply ay ?_|fail)
 refine pd (fun i E H'=>E.at 0=.str s/\E.at 6=.agg [.str [62,62,62],.str [60,60],.str [62,62],.str [60,61],.str [62,61],.str [61,61],.str [33,61]]/\E.at 7=.int .i64 i/\H'=H) 7 ?_ ?_
 .rintro i E H' hi ⟨k0,k6,k7,rfl⟩;repeat' (first
   |(apply ah ?_;clear hK K)|apply Rx.o ?_|(apply bt (fun o z=>?_) (fun o z=>?_)<;>try(cases o;done))|apply ak ?_|(apply zff fun K hK=>?_)|apply ay ?_|apply zfh ?_|apply zfr ?_)
  .have O:i<7:=by omega
   have C:∃w:List UInt8,oS Tryz.prog 227 (.agg [.str [62,62,62],.str [60,60],.str [62,62],.str [60,61],.str [62,61],.str [61,61],.str [33,61]]) (.int .i64 i)=some (.str w):=by
    refine⟨za5.getD i [],?_⟩;rcases(show i=0\/i=1\/i=2\/i=3\/i=4\/i=5\/i=6 by omega)with rfl|rfl|rfl|rfl|rfl|rfl|rfl<;>kernel_rfl
   obtain⟨w,hw1⟩:=C;repeat' (first
    |(apply ah ?_;clear hK K)|apply Rx.o ?_|(apply dr (fun J Z=>?_) (fun J Z=>?_)<;>try(cases J;done))|(apply bt (fun o z=>?_) (fun o z=>?_)<;>try(cases o;done))|apply ak ?_|(apply zff fun K hK=>?_)|apply zfh ?_|fail)
   .have U:w.length<=s.length:=by omega
    repeat' (first
     |(apply ah ?_;clear hK K)|apply Rx.o ?_|(apply dr (fun J Z=>?_) (fun J Z=>?_)<;>try(cases J;done))|(apply bt (fun o z=>?_) (fun o z=>?_)<;>try(cases o;done))|apply ak ?_|(apply zff fun K hK=>?_)|apply zfh ?_|apply ax ?_|fail)
    .all_goals (refine⟨zfj,_,zfq,?_⟩;try simp only[zfi])
     exact⟨⟨w.length,rfl,U⟩,gm⟩
    .refine⟨O,eE,eE,?_,gm⟩;simp only[jx,Nat.reduceBEq,iJ,zhe (show i<2^62 by omega)]
   .refine⟨O,eE,eE,?_,gm⟩;simp only[jx,Nat.reduceBEq,iJ,zhe (show i<2^62 by omega)]
  .repeat' (first
    |(apply ah ?_;clear hK K)|fail)
   refine pd (fun i E Y=>E.at 0=.str s/\E.at 5=.int .i64 i/\Y=H') 23 ?_ ?_
   .rintro j E Y hj ⟨k0,k5,rfl⟩;repeat' (first
     |(apply ah ?_;clear hK K)|apply Rx.o ?_|(apply bt (fun o z=>?_) (fun o z=>?_)<;>try(cases o;done))|apply ak ?_|(apply zff fun K hK=>?_)|(apply tN 10 fun K hK=>?_)|apply ay ?_|apply zfh ?_|apply ax ?_|apply zfr ?_)
    .have O:j<23:=by omega
     have m:∃b,([43,45,42,47,37,38,124,94,126,33,60,62,61,63,58,59,44,40,41,123,125,91,93]:List UInt8)[j]?=some b:=by
      rw[aR zA];exact⟨_,rfl⟩
     obtain⟨b,m⟩:=m;repeat' (first
      |(apply ah ?_;clear hK K)|apply Ry.o ?_|(apply aL (fun o z=>?_) (fun o z=>?_)<;>try(cases o;done))|apply ak ?_|(apply zff fun K hK=>?_)|apply zfh ?_|apply ax ?_|fail)
     .all_goals (refine⟨zfj,_,zfq,?_⟩;try simp only[zfi])
      exact⟨⟨1,rfl,I⟩,gm⟩
     .refine⟨O,eE,?_,gm⟩;simp only[jx,Nat.reduceBEq,iJ,zhe (show j<2^62 by omega)]
    .all_goals (refine⟨zfj,_,zfq,?_⟩;try simp only[zfi])
     exact⟨⟨0,rfl,dZ _⟩,gm⟩
   .exact⟨eE,eE,rfl⟩
 .exact⟨eE,eE,eE,rfl⟩
end
section
def tyW4h.tyF:=ad @cN (ad @dH (ad @Ad (ad @Dw (@Tryz.underlying9))))
open tyW4h
structure Lexers (cfg:Cfg):Prop where
 let_:Plain cfg 203
 dig:Plain cfg 197
 word:Plain cfg 195
 space:Plain cfg 182
 num:Plain cfg 198
 sym:Plain cfg 196
 first:Plain cfg 183
 scan:Plain cfg 156
 plan:∀id,cfg.plan 196 id=.text
 keep:cfg.keep 156=false
theorem By(a:Int)(x:List UInt8):zgB Tryz.prog 188 [(0,.int .i64 a),(1,.str x)]=some (.agg [.int .i64 a,.str x,.int .i64 0]):=aj
theorem Bz:zgB Tryz.prog 188 []=some (.agg [.int .i64 0,.str [],.int .i64 0]):=aj
theorem vJ(a b c:AV):jo 3 [a,b,c]=some (.agg [a,b,c]):=rfl
theorem um(H:Hp)(a b:HB):FrB 0 H ((H.alloc a).set H.next b):=((i8 _ _).alloc _).set (.inl (aE _)) _
theorem zt1{cfg:Cfg}(C:Lexers cfg)(s:List UInt8)(V:s≠[])(O:s.length<2^60)(H:Hp):
 zfs Tryz.prog cfg 183 [.str s] H fun v H'=>(∃k e,v=.tup [.agg k.cells,.int .i64 e]/\I9 s k e)/\FrB 0 H H':=by
 have Z:=C.first
 have I:0<s.length:=ve.2 V;have Y:s[0]?=some s[0]:=aR I;have j:=I6 s;refine zfz (M:=41) (rs:=[.cell 2 188,.tmp 3]) (Z.call _) Z.ice Z.froz Tryz.func183 rfl rfl L0.2 rfl ?_;dsimp only[L0,zft,Nat.reduceAdd];repeat' (first
  |(apply ah ?_;clear hK K)|apply Rx.o ?_|apply ak ?_|(apply zff fun K hK=>?_)|fail)
 refine aU rfl aV aW ?_;simp only[bi];refine aS ?_ (zo7 C.word C.let_ C.dig s O _);rintro v _ ⟨rfl,rfl⟩;dsimp only[zfp];have J:=@By;have L:=@Bz;repeat' (first
  |(apply ah ?_;clear hK K)|apply Ry.o ?_|(apply aL (fun o z=>?_) (fun o z=>?_)<;>try(cases o;done))|apply ak ?_|(apply zff fun K hK=>?_)|apply ay ?_|fail)
 .refine aU rfl aV aW ?_;simp only[bi];refine aS ?_ (zlU C.sym C.plan s V O _);rintro v _ ⟨⟨n,rfl,hn⟩,rfl⟩;dsimp only[zfp];have J:=@By;have L:=@Bz;repeat' (first
   |(apply ah ?_;clear hK K)|apply Rx.o ?_|apply ct ?_|(apply bt (fun o z=>?_) (fun o z=>?_)<;>try(cases o;done))|apply ak ?_|(apply zff fun K hK=>?_)|apply zfh ?_|apply ax ?_)
  .refine⟨zfj,_,(by(try simp only[zfo,zfv,Nat.reduceBEq,tyF,zgD,zgN,vJ, *]);first|done|with_reducible rfl),?_⟩;try simp only[zfi]
   exact⟨⟨⟨0,[],0⟩,2,rfl,rfl,au,fun i=>ac⟩,um _ _ _⟩
  .refine⟨zfj,_,(by(try simp only[zfo,zfv,Nat.reduceBEq,tyF,zgD,zgN,vJ, *]);first|done|with_reducible rfl),?_⟩;try simp only[zfi]
   refine⟨⟨⟨3,s.take n,0⟩,0,rfl,rfl,fun _=>⟨n,ac,hn,rfl,au⟩,fun i=>ac⟩,um _ _ _⟩
 .refine aU rfl aV aW ?_;simp only[bi];refine aS ?_ (E9 C.dig s[0].toNat _);rintro v _ ⟨rfl,rfl⟩;dsimp only[zfp];have hsl:=Dw (P:=Tryz.prog) (k:=.i64) (s:=s) Tryz.underlying9 j;have J:=@By;have L:=@Bz;repeat' (first
   |(apply ah ?_;clear hK K)|apply Rx.o ?_|apply ct ?_|(apply bt (fun o z=>?_) (fun o z=>?_)<;>try(cases o;done))|apply ak ?_|(apply zff fun K hK=>?_)|apply zfh ?_|apply ax ?_)
  .have U:s.take (zgX s)≠[]:=by
    intro h;have:=kz List.length h;rw[jR,uU j,eM]at this;omega
   refine aU rfl aV aW ?_;simp only[bi];refine aS ?_ (zjO C.num C.dig (s.take (zgX s)) U rY _);rintro v _ ⟨⟨ok,rfl⟩,rfl⟩;dsimp only[zfp];have J:=@By;have L:=@Bz;repeat' (first
    |(apply ah ?_;clear hK K)|apply Rx.o ?_|apply ct ?_|(apply bt (fun o z=>?_) (fun o z=>?_)<;>try(cases o;done))|apply ak ?_|(apply zff fun K hK=>?_)|apply zfh ?_|apply ax ?_)
   .refine⟨zfj,_,(by(try simp only[zfo,zfv,Nat.reduceBEq,tyF,zgD,zgN,vJ, *]);first|done|with_reducible rfl),?_⟩;try simp only[zfi]
    refine⟨⟨⟨0,[],0⟩,2,rfl,rfl,au,fun i g m=>?_⟩,um _ _ _⟩;have:=m _ Y;simp_all
   .refine⟨zfj,_,(by(try simp only[zfo,zfv,Nat.reduceBEq,tyF,zgD,zgN,vJ, *]);first|done|with_reducible rfl),?_⟩;try simp only[zfi]
    refine⟨⟨⟨2,s.take (zgX s),0⟩,0,rfl,rfl,fun _=>⟨zgX s,ac,j,rfl,au⟩,fun i g m=>?_⟩,um _ _ _⟩;have:=m _ Y;simp_all
  .refine⟨zfj,_,(by(try simp only[zfo,zfv,Nat.reduceBEq,tyF,zgD,zgN,vJ, *]);first|done|with_reducible rfl),?_⟩;try simp only[zfi]
   exact⟨⟨⟨0,[],0⟩,6,rfl,rfl,au,fun i g=>ac⟩,um _ _ _⟩
  .refine⟨zfj,_,(by(try simp only[zfo,zfv,Nat.reduceBEq,tyF,zgD,zgN,vJ, *]);first|done|with_reducible rfl),?_⟩;try simp only[zfi]
   refine⟨⟨⟨1,s.take (zgX s),0⟩,0,rfl,rfl,fun _=>⟨zgX s,ac,j,rfl,fun _=>⟨rfl,ac,fun b o=>?_⟩⟩,fun _ _ _=>⟨rfl,rfl⟩⟩,um _ _ _⟩;rw[Y]at o;simp only[az]at o;subst o;assumption
end
end Go.Proofs.YtpbcimfiofmoeaaGreat
