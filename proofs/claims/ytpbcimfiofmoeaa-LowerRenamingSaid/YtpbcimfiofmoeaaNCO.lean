/- Parts: SpecY, LwX, G5a, G5b, G5, G6, GOk, GRg, GSz. -/
import Derived.Test.YtpbcimfiofmoeaaNCN
set_option linter.unusedSimpArgs false
set_option linter.unusedVariables false
set_option linter.unusedSectionVars false
set_option linter.defProp false
set_option maxHeartbeats 32000000
namespace Go.Ab
set_option maxRecDepth 20000
open Go
theorem Kr{P:Prop}(h:P:=by simp only[List.all_cons,List.all_nil,w0,zbM,w2,w3,w4,Bool.and_true];rfl):P:=h
theorem ug{P:Prop}(h:P:=by rw[<- j];rfl):P:=h
theorem uh{P:Prop}(h:P:=by rw[<- j,Hp.get_set,if_pos rfl]):P:=h
theorem kF{P:Prop}(h:P:=by (try simp only[zbb,zbl]);omega):P:=h
theorem lQ{P:Prop}(h:P:=by first|rfl|((try simp only[zbb,zbl]);omega)):P:=h
theorem zY{P:Prop}(h:P:=by rw[<- j,Hp.get_set,if_neg I]):P:=h
theorem ui{P:Prop}(h:P:=by simp[ro]):P:=h
theorem Ks{P:Prop}(h:P:=by simp only[jC,eT,fN,and_true];exact⟨qq,a.1⟩):P:=h
theorem Kt{P:Prop}(h:P:=by rw[<- j,Hp.get_set,if_neg ac,zaY,if_neg ac]):P:=h
theorem wL{P:Prop}(h:P:=by rw[Hp.get_set,if_neg ac,Hp.get_set,if_neg ac]):P:=h
theorem Ku{P:Prop}(h:P:=by rw[V _ ac,Y _ ac,J _ ac ac,C _ ac,z _ ac ac,o _ ac,oH6 _ ac ac,oHa _ ac]):P:=h
theorem Kv{P:Prop}(h:P:=by rw[V _ ac,Y _ ac,J _ ac ac,C _ ac,z _ ac ac,o _ ac]):P:=h
theorem Kw{P:Prop}(h:P:=by rw[V _ ac,Y _ ac,J _ ac ac,C _ ac]):P:=h
end Go.Ab
namespace Go.Proofs.Ytpbcimfiofmoeaa
set_option maxRecDepth 20000
open Go Go.Ab
section
section
variable {A:List Ar} {F:List Fu} {np:Nat}
theorem NdP.names{N m:List za5}{x:Nd}(h:NdP ⟨A,F,N⟩ np x):NdP ⟨A,F,m⟩ np x:=⟨h.op,h.imm,h.len,h.pa,h.ar,h.fn⟩
theorem LI.names{N m:List za5}{s:Bd}(h:LI ⟨A,F,N⟩ np s)(K:m.length=N.length):LI ⟨A,F,m⟩ np s:=⟨h.nd,h.wf,fun x I=>(h.p x I).names,h.v,h.vl.trans K.symm,h.st⟩
theorem LI.push{N m:List za5}{s:Bd}(h:LI ⟨A,F,N⟩ np s){x:Int}(I:IsT s.l 1 x)(K:m.length=N.length+1):LI ⟨A,F,m⟩ np {s with vars:=s.vars++[x] }:=
 ⟨h.nd,h.wf,fun y o=>(h.p y o).names,fun y o=>by
  rcases pJ.1 o with o|o
  .exact h.v y o
  .simp only[lJ]at o;subst o;exact I,by
  have:=h.vl;show(s.vars++[x]).length=_;rw[fy,this,K];rfl,h.st⟩
theorem Kx(i:np<=6):∀(m k:Nat) (s:Bd) (N Z:List za5),LI ⟨A,F,N⟩ np s->Z.length=N.length+m->k+m<=np->LI ⟨A,F,Z⟩ np (gL m k s)/\(gL m k s).loops=s.loops/\(gL m k s).l.length<=s.l.length+m
 |0,k,s,N,Z,h,hl,_=>⟨h.names hl,rfl,aA _⟩
 |m+1,k,s,N,Z,h,hl,hk=>by
  obtain⟨C,z,U⟩:=jZ h (n:=⟨2,k,[]⟩) (Wq ac ac) aS ⟨by show 0<=(2:Int)/\(2:Int)<256;decide,zO,by show 0<=40;decide,fun _=>by show(k:Int)<np;omega,fun e=>by rcases e with e|e<;>exact absurd e (by show ¬(2:Int)=_;decide),fun e=>absurd e (by show ¬(2:Int)=30;decide)⟩;obtain⟨K,V,Y⟩:=Kx i m (k+1) { (zaX ⟨2,k,[]⟩ s).2 with vars:=(zaX ⟨2,k,[]⟩ s).2.vars++[(zaX ⟨2,k,[]⟩ s).1] } ([]::N) Z (C.push z rfl) (by rw[cS];omega) ac;exact⟨K,V,by have O:(gL (m+1) k s).l.length<=(zaX ⟨2,k,[]⟩ s).2.l.length+m:=Y;omega⟩
theorem Ky:∀(m:Nat) (s:Bd) (N Z:List za5),LI ⟨A,F,N⟩ np s->Z.length=N.length+m->LI ⟨A,F,Z⟩ np (jR m s)/\(jR m s).loops=s.loops/\(jR m s).l.length<=s.l.length+m
 |0,s,N,Z,h,hl=>⟨h.names hl,rfl,aA _⟩
 |m+1,s,N,Z,h,hl=>by
  obtain⟨C,z,U⟩:=wJ h (n:=0) jE;obtain⟨K,V,Y⟩:=Ky m { (zaX ⟨1,0,[]⟩ s).2 with vars:=(zaX ⟨1,0,[]⟩ s).2.vars++[(zaX ⟨1,0,[]⟩ s).1] } ([]::N) Z (C.push z rfl) (by rw[cS];omega);exact⟨K,V,by have O:(jR (m+1) s).l.length<=(zaX ⟨1,0,[]⟩ s).2.l.length+m:=Y;omega⟩
theorem Ze:LI ⟨A,F,[]⟩ np { (zaX ⟨26,0,[]⟩ ⟨[],[],0,0⟩).2 with state:=(zaX ⟨26,0,[]⟩ ⟨[],[],0,0⟩).1}:=by
 obtain⟨a,b⟩:=Il (l:=[]) (n:=⟨26,0,[]⟩) (fun i z=>by simp at z) Wr aS;refine⟨Kd List.nodup_nil,b,fun x I=>?_,(fun y o=>by cases o),rfl,a⟩;rcases(yX (l:=[]) (n:=⟨26,0,[]⟩)).1 I with I|rfl
 .cases I
 .exact mI _ _ aS jE aw aS aS aS aS
end
structure PrIn (p:Pr):Prop where
 ck:zc2 p=0
 rg:∀f∈p.funcs,fN f.body/\fE f.value
theorem Ds{p:Pr}(h:zc2 p=0):jP p=false/\iP p=true/\n1 p=false/\p.funcs.any (ky p)=false/\p.funcs.any (my p)=false:=by
 unfold zc2 at h;split at h
 .cases h
 split at h
 .cases h
 split at h
 .cases h
 split at h
 .cases h
 split at h
 .cases h
 rename_i a b c d e;exact⟨by simpa using a,by simpa using b,by simpa using c,by simpa using d,by simpa using e⟩
theorem zZ{z:Type}{l:List z}{p:z->Bool}(h:l.any p=false){x:z}(I:x∈l):p x=false:=by
 cases e:p x with
 |false=>rfl
 |true=>rw[List.any_eq_true.2 ⟨x,I,e⟩]at h;cases h
theorem PrIn.lim{p:Pr}(h:PrIn p):(∀a∈p.arrays,1<=a.len/\a.len<=16)/\p.arrays.length<=4/\p.funcs.length<=8/\∀f∈p.funcs,f.params.length<=6/\f.locals.length<=8/\zb7 f.body<=16:=by
 have I:=(Ds h.ck).1;unfold jP at I;simp only[iC,kR]at I;obtain⟨⟨⟨i,g⟩,m⟩,L⟩:=I;refine⟨fun a ha=>?_,ac,ac,fun f hf=>?_⟩
 .have:=zZ m ha;unfold qW at this;simp only[iC,kR]at this;omega
 .have:=zZ L hf;unfold mw at this;simp only[iC,kR]at this;omega
theorem PrIn.cx{p:Pr}(h:PrIn p){f:Fu}(Z:f∈p.funcs):CxOkU (ik p f):=by
 obtain⟨i,Y,m,L⟩:=h.lim;have:=L f Z;exact⟨i,Y,m,fun g C=>(L g C).1,by show(f.params++f.locals).length<=14;rw[fy];omega⟩
theorem PrIn.body{p:Pr}(h:PrIn p){f:Fu}(Z:f∈p.funcs):SsOk (ik p f) f.body/\XOk (ik p f) f.value:=by
 obtain⟨_,g,_,L,o⟩:=Ds h.ck;unfold iP at g;rw[bT,iB,iB]at g;have w:=g.2 f Z;have u:=zZ L Z;have b:=zZ o Z;unfold lH at w;unfold ky at u;unfold my at b;simp only[bT,qc]at w u b;obtain⟨Y,V⟩:=h.rg f Z;exact⟨⟨w.1.2,u.1,b,Y⟩,⟨w.2,u.2,V⟩⟩
theorem Dt{p:Pr}(h:PrIn p){n:Nat}(hn:2*p.sz<n){f:Fu}(Z:f∈p.funcs):
 ∃s v,dR (ik p f) n f.body (zc3 f)=some s/\di (ik p f) n f.value s=some v/\LI (ik p f) f.params.length v.2/\IsT v.2.l 1 v.1/\v.2.loops<=16/\v.2.l.length<=64*p.sz:=by
 obtain⟨_,_,_,L⟩:=h.lim;obtain⟨l1,l2,l3⟩:=L f Z;obtain⟨o,M⟩:=h.body Z;have hc:=h.cx Z;have I:=qQ Z;have m:p.sz=1+zcU p.arrays+fV p.funcs:=rfl;have hfs:f.sz=1+f.name.length+zco f.params+zco f.locals+zbC f.body+f.value.sz:=rfl;have e0:=Ze (A:=p.arrays) (F:=p.funcs) (np:=f.params.length);obtain⟨C,z,V⟩:=Kx l1 f.params.length 0 _ [] f.params e0 aw ac;obtain⟨K,U,O⟩:=Ky f.locals.length _ f.params (f.params++f.locals) C (by rw[fy]);have hs:LI (ik p f) f.params.length (zc3 f):=K;have hs2:(zc3 f).loops=0:=U.trans z;have hs3:(zc3 f).l.length<=15:=by
  have e1:(zc3 f).l.length<=(gL f.params.length 0 { (zaX ⟨26,0,[]⟩ ⟨[],[],0,0⟩).2 with state:=(zaX ⟨26,0,[]⟩ ⟨[],[],0,0⟩).1}).l.length+f.locals.length:=O;have e2:(gL f.params.length 0 { (zaX ⟨26,0,[]⟩ ⟨[],[],0,0⟩).2 with state:=(zaX ⟨26,0,[]⟩ ⟨[],[],0,0⟩).1}).l.length<=1+f.params.length:=V;omega
 obtain⟨s,i,j,q3,q4⟩:=(Kq hc (np:=f.params.length) n).2.1 f.body (zc3 f) o ac hs ac;obtain⟨v,Y,g,J,r4⟩:=pq hc n f.value s M ac j;have lv:=zci _ n _ _ _ Y;exact⟨s,v,i,Y,g,J,by rw[lv.n];omega,ac⟩
theorem LI.fin{c:Cx}{np:Nat}{s:Bd}(h:LI c np s)(K:s.l.length<2^36)(U:s.loops<=16):Fin s:=by
 refine⟨fun x I=>?_,K,ac⟩;have hp:=h.p x I;obtain⟨i,z,e⟩:=AE I;have C:s.l[i]?=some x:=by rw[aY z,e]
 have O:=h.wf i z;rw[yJ z]at O;obtain⟨t,j,_,_⟩:=Vq C O;refine⟨hp.op,hp.imm,fun k V=>?_,by have:=hp.len;omega⟩;have:=yI j k V;omega
theorem Zf{p:Pr}(h:PrIn p)(j:p.sz<2^30){n:Nat}(U:2*p.sz<n):Dn p n:=fun f hf=>by
 obtain⟨s,v,i,g,m,L,o,Z⟩:=Dt h U hf;exact⟨s,v,i,g,m.fin ac o⟩
structure LwOk (p:Pr):Prop where
 sz:p.sz<2^30
 rg:zc2 p=0->∀f∈p.funcs,fN f.body/\fE f.value
def jm(p:Pr):Un×Int:=(qd p (2*p.sz+1)).getD (⟨[],[]⟩,0)
theorem Kz{p:Pr}(h:PrIn p){n:Nat}(U:2*p.sz<n):∀(l:List Fu) (K:List Gr),(∀f∈l,f∈p.funcs)->∃r,kX p n l K=some r
 |[],K,_=>⟨_,rfl⟩
 |f::l,K,hl=>by
  obtain⟨s,v,i,Z,_⟩:=Dt h U (hl f eQ);rw[kX,il,i,cU,Z,cU,cU];split
  .exact⟨_,rfl⟩
  .exact Kz h U l _ fun g C=>hl g (fH _ C)
theorem LwOk.low{p:Pr}(h:LwOk p):qd p (2*p.sz+1)=some ((jm p).1,(jm p).2):=by
 have:∃r,qd p (2*p.sz+1)=some r:=by
  unfold qd;split
  .rename_i c;exact Kz ⟨c,h.rg c⟩ (cJ _) _ _ fun f hf=>hf
  .exact⟨_,rfl⟩
 obtain⟨r,hr⟩:=this;rw[jm,hr];rfl
noncomputable def KA:En:=⟨15,true,dA LwOk fc fun p=>.tup [.agg (jm p).1.cells,.int .i64 (jm p).2]⟩
theorem Zg(ρ:Nat->Int):fk Try.prog ρ KA:=zcQ fun p hp=>Y1 ρ p (n:=2*p.sz+1) (by have:=hp.sz;omega) (fun hc=>Zf ⟨hc,hp.rg hc⟩ hp.sz (cJ _)) hp.low
def tyG5a.tyF:=ad @cQ (ad @cW (ad @gU (ad @gJ (ad @eK (ad @eA (ad @dX (ad @fj (ad @tC (ad @vm (ad @J7 (ad @J8 (ad @wc (ad @YM (ad @YN (@J6)))))))))))))))
open tyG5a
set_option maxRecDepth 100000 in
theorem Zh{Z:List En}(hG:GenL Z){k:Nat}{f:Int}{deep lo:Nat}{H H2:Hp}{r:Nat}{L:List Int}{c q m:Int}{E2:au}(hst:deep<=2->nE Z k f (deep+1))(M:AtT f deep lo H H2 r L c q m E2) (hp0:q<6):zbu Try.prog (za3 pls Z) 55 156 lO E2 H2 (lP k f deep lo H r L c q m):=by
 obtain⟨hd,hrl,hlo,n2,g2,C,o,hL1,V,hqd,k0,k1,k2,k6,k8,k9,k10⟩:=M;have j:(za3 pls Z).keep 55=false:=rfl;have hq2:(2:Int)≠0:=aS;have O:((zbz f).length:Int)≠0:=by rcases qi f with h|h<;>rw[h]<;>decide
 obtain⟨hi0,hix⟩:=pn (zbz f) O V.1 [];have hxs:=ql V.1;have hxa:=qm V.1;have hxf:=ry V.1;have er:(H.next == r)=false:=zbn ac;have e41:=zcl f 4 1 L;have e50:=zcl f 5 0 L;have e32:=zcl f 3 2 L;have hwd:IntKind.wrap .i64 ((deep:Int)+1)=((deep+1:Nat):Int):=zcL ac;unfold lP;generalize i:zcG (pp f k deep) f L c q m=R;rw[zcG]at i;dsimp only[lO,mH,po];repeat' (first
  |(apply ai ?_;clear hK K)|apply Ry.o ?_|(apply bi (fun hb z=>?_) (fun hb z=>?_)<;>try(cases hb;done))|apply aq ?_|(apply zaW fun K hK=>?_)|(apply zcy 8 [(3,9),(3,11),(6,9),(6,11)] fun K hK=>?_)|(apply zbK ?_;try intro _)|apply cr ?_|apply aO ?_|fail)
 refine aK rfl aL aM ?_;simp only[fJ];refine aI ?_ (zdn hG 5 f 0 ac ac lo _ r L c o ac);rintro v H4 ⟨⟨cs,rfl,U,Y,J⟩,I,n4,o4⟩;obtain⟨v0,v1,v2,v3,v4,rfl⟩:=jk U;obtain⟨w0,zbM,w2,w3,w4⟩:=rz Y;have g4:H4.get H.next=some (.cells [.int .i64 0,.str [],.str [],.int .i64 0,.int .i64 0,.int .i64 0,.str [],.int .i64 0,.nilS,.int .i64 0,.int .i64 0,.str [],.int .i64 0,.nilS,.nilS,.nilS,.nilS] 0 true):=by rw[o4 _ ac ac];exact g2
 dsimp only[za1];repeat' (first
  |apply Rx.o ?_|apply bN ?_|(apply zbK ?_;try intro _)|(apply zcr ?_ ?_<;>clear hK K)|apply cr ?_|apply zcX rfl ?_|apply aN ?_|fail)
 .exact zck
 .refine⟨za2,_,(by(try simp only[za4,zbg,Nat.reduceBEq,tyF,zb9,zch, *]);first|done|with_reducible rfl),?_⟩;try simp only[za0]
  rw[aj ac]at i;subst i;refine sU rfl Kr (qn (n:=8+k) 1 _ [] 0 rx ((J.up ac).keep2 (fun q _ hq=>ac) eg fun q h1 g=>jS) .nilS .nilS .nilS) ?_ ?_ ?_
  .exact I.keep eg fun q hq=>jS
  .simp only[zbl];omega
  .intro q h1 g;rw[aC,af ac,o4 _ ac g];exact C q h1 g
set_option maxRecDepth 100000 in
theorem Zi{Z:List En}(hG:GenL Z){k:Nat}{f:Int}{deep lo:Nat}{H H2:Hp}{r:Nat}{L:List Int}{c q m:Int}{E2:au}(hst:deep<=2->nE Z k f (deep+1))(M:AtT f deep lo H H2 r L c q m E2)(hn0:¬q<6)(hp0:q<8):zbu Try.prog (za3 pls Z) 55 156 lO E2 H2 (lP k f deep lo H r L c q m):=by
 obtain⟨hd,hrl,hlo,n2,g2,o2',hr2,hL1,V,hqd,k0,k1,k2,k6,k8,k9,k10⟩:=M;have hkeep:(za3 pls Z).keep 55=false:=rfl;have hq2:(2:Int)≠0:=aS;have O:((zbz f).length:Int)≠0:=by rcases qi f with h|h<;>rw[h]<;>decide
 obtain⟨hi0,hix⟩:=pn (zbz f) O V.1 [];have hxs:=ql V.1;have hxa:=qm V.1;have hxf:=ry V.1;have er:(H.next == r)=false:=zbn ac;have e41:=zcl f 4 1 L;have e50:=zcl f 5 0 L;have e32:=zcl f 3 2 L;have hwd:IntKind.wrap .i64 ((deep:Int)+1)=((deep+1:Nat):Int):=zcL ac;unfold lP;generalize hR:zcG (pp f k deep) f L c q m=R;rw[zcG]at hR;dsimp only[lO,mH,po];repeat' (first
  |(apply ai ?_;clear hK K)|apply Ry.o ?_|(apply bi (fun hb Y=>?_) (fun hb Y=>?_)<;>try(cases hb;done))|apply aq ?_|(apply zaW fun K hK=>?_)|(apply zcy 10 [(0,7),(0,10),(0,12),(4,7),(4,10),(4,12)] fun K hK=>?_)|(apply zbK ?_;try intro _)|apply cr ?_|apply aO ?_|fail)
 refine aK rfl aL aM ?_;simp only[fJ];refine aI ?_ (zdn hG 3 f 2 ac ac lo _ r L c (hr2.keep (dV _) fun q I=>fS) ac);rintro v H4 ⟨⟨al,rfl,U,J,z⟩,j,n4,o⟩;simp only[zbb]at n4 o z;obtain⟨zbp,a1,a2,a3,a4,rfl⟩:=jk U;obtain⟨u0,u1,u2,u3,u4⟩:=rz J;have g4s:H4.get (H.next+1)=some (.cells [.str [97],.str [98]] 0 true):=Di;dsimp only[za1];repeat' (first
  |apply Rx.o ?_|(apply zbK ?_;try intro _)|apply cr ?_|fail)
 refine aK rfl aL aM ?_;simp only[fJ];refine aI ?_ (zdn hG 4 f 1 ac ac lo H4 r _ c j ac);rintro v H5 ⟨⟨cs,rfl,hc1,hc2,hc3⟩,hr5,n5,C⟩;obtain⟨v0,v1,v2,v3,v4,rfl⟩:=jk hc1;obtain⟨w0,zbM,w2,w3,w4⟩:=rz hc2;have g5s:H5.get (H.next+1)=some (.cells [.str [97],.str [98]] 0 true):=by rw[C _ ac ac];exact g4s
 have g5:H5.get H.next=some (.cells [.int .i64 0,.str [],.str [],.int .i64 0,.int .i64 0,.int .i64 0,.str [],.int .i64 0,.nilS,.int .i64 0,.int .i64 0,.str [],.int .i64 0,.nilS,.nilS,.nilS,.nilS] 0 true):=by rw[C _ ac ac,o _ ac ac,zaY,af ac];exact g2
 dsimp only[za1];repeat' (first
  |apply Rx.o ?_|apply bN ?_|(apply zbK ?_;try intro _)|(apply zcr ?_ ?_<;>clear hK K)|apply cr ?_|apply zcX rfl ?_|apply aN ?_|fail)
 .exact zck
 .refine⟨za2,_,(by(try simp only[za4,zbg,Nat.reduceBEq,tyF,zb9,zch, *]);first|done|with_reducible rfl),?_⟩;try simp only[za0]
  rw[af ac,aj ac]at hR;subst hR;refine sU rfl (by simp only[pV,rr,u0,u1,u2,u3,u4,w0,zbM,w2,w3,w4,gm];rfl) (qn (n:=8+k) 2 _ [] 0 ((z.up ac).keep2 (fun q _ I=>ac) eg fun q i g=>by rw[aC,af ac,C _ ac ac]) ((hc3.up ac).keep2 (fun q _ I=>ac) eg fun q i g=>jS) .nilS .nilS .nilS) ?_ ?_ ?_
  .exact hr5.keep eg fun q I=>jS
  .simp only[zbl];omega
  .intro q i g;rw[aC,af ac,C _ ac g,o _ ac g,zaY,af ac];exact o2' q i g
set_option maxRecDepth 100000 in
theorem Zj{Z:List En}(hG:GenL Z){k:Nat}{f:Int}{deep lo:Nat}{H H2:Hp}{r:Nat}{L:List Int}{c q m:Int}{E2:au}(hst:deep<=2->nE Z k f (deep+1))(M:AtT f deep lo H H2 r L c q m E2)(hn0:¬q<6)(hn1:¬q<8)(hn2:¬q<10)(hn3:¬q<12)(hp0:q<14):zbu Try.prog (za3 pls Z) 55 156 lO E2 H2 (lP k f deep lo H r L c q m):=by
 obtain⟨hd,hrl,hlo,n2,g2,C,o,hL1,V,hqd,k0,k1,k2,k6,k8,k9,k10⟩:=M;have j:(za3 pls Z).keep 55=false:=rfl;have hq2:(2:Int)≠0:=aS;have O:((zbz f).length:Int)≠0:=by rcases qi f with h|h<;>rw[h]<;>decide
 obtain⟨hi0,hix⟩:=pn (zbz f) O V.1 [];have hxs:=ql V.1;have hxa:=qm V.1;have hxf:=ry V.1;have er:(H.next == r)=false:=zbn ac;have e41:=zcl f 4 1 L;have e50:=zcl f 5 0 L;have e32:=zcl f 3 2 L;have hwd:IntKind.wrap .i64 ((deep:Int)+1)=((deep+1:Nat):Int):=zcL ac;unfold lP;generalize i:zcG (pp f k deep) f L c q m=R;rw[zcG]at i;dsimp only[lO,mH,po];repeat' (first
  |(apply ai ?_;clear hK K)|apply Ry.o ?_|(apply bi (fun hb z=>?_) (fun hb z=>?_)<;>try(cases hb;done))|apply aq ?_|(apply zaW fun K hK=>?_)|apply aO ?_|fail)
 refine aK rfl aL aM ?_;simp only[aR];refine aI ?_ (zdn hG 4 f 1 ac ac lo _ r L c o ac);rintro v H4 ⟨⟨cs,rfl,U,Y,J⟩,I,n4,o4⟩;obtain⟨v0,v1,v2,v3,v4,rfl⟩:=jk U;obtain⟨w0,zbM,w2,w3,w4⟩:=rz Y;have g4:H4.get H.next=some (.cells [.int .i64 0,.str [],.str [],.int .i64 0,.int .i64 0,.int .i64 0,.str [],.int .i64 0,.nilS,.int .i64 0,.int .i64 0,.str [],.int .i64 0,.nilS,.nilS,.nilS,.nilS] 0 true):=by rw[o4 _ ac ac];exact g2
 dsimp only[za1];repeat' (first
  |(apply ai ?_;clear hK K)|apply Rx.o ?_|apply bN ?_|apply aN ?_|fail)
 refine⟨za2,_,(by(try simp only[za4,zbg,Nat.reduceBEq,tyF,zb9,zch, *]);first|done|with_reducible rfl),?_⟩;try simp only[za0]
 rw[af ac,af ac,af ac,af ac,aj ac]at i;subst i;refine sU rfl Kr (qn (n:=8+k) 5 [] [] 0 rx ((J.up ac).keep2 (fun q _ hq=>ac) eg fun q h1 g=>jS) .nilS .nilS .nilS) ?_ ?_ ?_
 .exact I.keep eg fun q hq=>jS
 .simp only[zbl];omega
 .intro q h1 g;rw[aC,af ac,o4 _ ac g];exact C q h1 g
set_option maxRecDepth 100000 in
theorem Zk{Z:List En}(hG:GenL Z){k:Nat}{f:Int}{deep lo:Nat}{H C:Hp}{r:Nat}{L:List Int}{c q m:Int}{i:au}(j:deep<=2->nE Z k f (deep+1))(M:AtT f deep lo H C r L c q m i)(g:¬q<6)(hn1:¬q<8)(hn2:¬q<10)(hn3:¬q<12)(hn4:¬q<14)(hn5:¬q<15) : zbu Try.prog (za3 pls Z) 55 156 lO i C (lP k f deep lo H r L c q m):=by
 obtain⟨hd,hrl,hlo,n2,g2,Y,J,hL1,V,hqd,k0,k1,k2,k6,k8,k9,k10⟩:=M;have U:(za3 pls Z).keep 55=false:=rfl;have hq2:(2:Int)≠0:=aS;have O:((zbz f).length:Int)≠0:=by rcases qi f with h|h<;>rw[h]<;>decide
 obtain⟨hi0,hix⟩:=pn (zbz f) O V.1 [];have hxs:=ql V.1;have hxa:=qm V.1;have hxf:=ry V.1;have er:(H.next == r)=false:=zbn ac;have e41:=zcl f 4 1 L;have e50:=zcl f 5 0 L;have e32:=zcl f 3 2 L;have hwd:IntKind.wrap .i64 ((deep:Int)+1)=((deep+1:Nat):Int):=zcL ac;unfold lP;generalize I:zcG (pp f k deep) f L c q m=R;rw[zcG]at I;dsimp only[lO,mH,po];repeat' (first
  |(apply ai ?_;clear hK K)|apply Ry.o ?_|apply dD ?_|(apply bi (fun o z=>?_) (fun o z=>?_)<;>try(cases o;done))|apply aq ?_|(apply zaW fun K hK=>?_)|apply aO ?_|apply za8 ?_|apply aN ?_|fail)
 refine⟨za2,_,(by(try simp only[za4,zbg,Nat.reduceBEq,tyF,zb9,zch, *]);first|done|with_reducible rfl),?_⟩;try simp only[za0]
 rw[af ac,af ac,af ac,af ac,af ac,af ac]at I;subst I;refine sU rfl rfl (qn (n:=8+k) 7 [] [] _ rx rx .nilS .nilS .nilS) ?_ ?_ ?_
 .exact J.keep eg fun q hq=>jS
 .simp only[zbl];omega
 .intro q h1 h2;rw[aC,af ac];exact Y q h1 h2
end
section
def tyG5b.tyF:=ad @cQ (ad @cW (ad @gU (ad @gJ (ad @eK (ad @eA (ad @dX (ad @fj (ad @tC (ad @vm (ad @J7 (ad @J8 (ad @wc (ad @J6 (ad @J9 (@YO)))))))))))))))
open tyG5b
set_option maxRecDepth 100000 in
theorem Zl{lG:List En}(hG:GenL lG){k:Nat}{f:Int}{deep lo:Nat}{H H2:Hp}{r:Nat}{L:List Int}{c q m:Int}{E2:au}(hst:deep<=2->nE lG k f (deep+1))(hat:AtT f deep lo H H2 r L c q m E2)(hn0:¬q<6)(hn1:¬q<8)(hp0:q<10):zbu Try.prog (za3 pls lG) 55 156 lO E2 H2 (lP k f deep lo H r L c q m):=by
 obtain⟨hd,hrl,hlo,n2,g2,o2',hr2,hL1,hm,hqd,k0,k1,k2,k6,k8,k9,k10⟩:=hat;have hkeep:(za3 pls lG).keep 55=false:=rfl;have hq2:(2:Int)≠0:=aS;have M:((zbz f).length:Int)≠0:=by rcases qi f with h|h<;>rw[h]<;>decide
 obtain⟨hi0,hix⟩:=pn (zbz f) M hm.1 [];have hxs:=ql hm.1;have hxa:=qm hm.1;have hxf:=ry hm.1;have er:(H.next == r)=false:=zbn ac;have e41:=zcl f 4 1 L;have e50:=zcl f 5 0 L;have e32:=zcl f 3 2 L;have hwd:IntKind.wrap .i64 ((deep:Int)+1)=((deep+1:Nat):Int):=zcL ac;unfold lP;generalize hR:zcG (pp f k deep) f L c q m=R;rw[zcG]at hR;dsimp only[lO,mH,po];repeat' (first
  |(apply ai ?_;clear hK K)|apply Ry.o ?_|(apply bi (fun hb hbp=>?_) (fun hb hbp=>?_)<;>try(cases hb;done))|apply aq ?_|(apply zaW fun K hK=>?_)|apply aO ?_|fail)
 refine aK rfl aL aM ?_;simp only[aR];refine aI ?_ (zdn hG 4 f 1 ac ac lo _ r L c hr2 ac);rintro v Z ⟨⟨cs,rfl,hc1,hc2,hc3⟩,hr4,n4,o4⟩;obtain⟨Y,o,V,U,O,rfl⟩:=jk hc1;obtain⟨w0,zbM,w2,w3,w4⟩:=rz hc2;dsimp only[za1];repeat' (first
  |(apply ai ?_;clear hK K)|apply Rx.o ?_|apply bN ?_|apply aq ?_|(apply zaW fun K hK=>?_)|fail)
 generalize j:Hp.set (Hp.alloc Z _) Z.next _=Ha
 have na:Ha.next=Z.next+1:=ug
 have oa:∀q,q<Z.next->Ha.get q=Z.get q:=fun q I=>Kt
 have ga:Ha.get Z.next=some (.cells [.int .i64 3,.str [],.str [],.int .i64 0,.int .i64 0,.int .i64 0,.str [],.int .i64 0,.nilS,Y,o,V,U,O,.nilS,.nilS,.nilS] 0 true):=uh
 clear j;refine aK rfl aL aM ?_;simp only[aR];refine aI ?_ (wH hG (hst ac) 3 ac ac lo Ha r ((zbe f 4 1 L).2,c) (hr4.keep ac fun q I=>oa q ac) wB);rintro tv H5 ⟨z,hr5,n5,o5⟩;have hl5:(jl f k (deep+1) 3 ((zbe f 4 1 L).2,c)).2.1.length<=(zbe f 4 1 L).2.length:=cm (wF (wG f k (deep+1)) _ _) (zdm _);obtain⟨t1,t2⟩:=z.one;have g5:H5.get Z.next=some (.cells [.int .i64 3,.str [],.str [],.int .i64 0,.int .i64 0,.int .i64 0,.str [],.int .i64 0,.nilS,Y,o,V,U,O,.nilS,.nilS,.nilS] 0 true):=by rw[o5 _ ac ac];exact ga
 dsimp only[za1];repeat' (first
  |(apply ai ?_;clear hK K)|apply Rx.o ?_|apply bN ?_|apply aq ?_|(apply zaW fun K hK=>?_)|fail)
 generalize C:Hp.set H5 Z.next _=Hb
 have nb:Hb.next=H5.next:=vP
 have ob:∀q,q≠Z.next->Hb.get q=H5.get q:=fun q I=>by rw[<-C,aC,af I]
 have gb:Hb.get Z.next=some (.cells [.int .i64 3,.str [],.str [],.int .i64 0,.int .i64 0,.int .i64 0,.str [],.int .i64 0,.nilS,Y,o,V,U,O,.nilS,tv,.nilS] 0 true):=CZ
 clear C;refine aK rfl aL aM ?_;simp only[aR];refine aI ?_ (wH hG (hst ac) 2 ac ac lo Hb r (jl f k (deep+1) 3 ((zbe f 4 1 L).2,c)).2 (hr5.keep ac fun q I=>ob q ac) ac);rintro uv H6 ⟨J,hr6,n6,o6⟩;obtain⟨p1,p2⟩:=J.one;have g6t:H6.get Z.next=some (.cells [.int .i64 3,.str [],.str [],.int .i64 0,.int .i64 0,.int .i64 0,.str [],.int .i64 0,.nilS,Y,o,V,U,O,.nilS,tv,.nilS] 0 true):=by rw[o6 _ ac ac];exact gb
 have g6:H6.get H.next=some (.cells [.int .i64 0,.str [],.str [],.int .i64 0,.int .i64 0,.int .i64 0,.str [],.int .i64 0,.nilS,.int .i64 0,.int .i64 0,.str [],.int .i64 0,.nilS,.nilS,.nilS,.nilS] 0 true):=by rw[o6 _ ac ac,ob _ ac,o5 _ ac ac,oa _ ac,o4 _ ac ac];exact g2
 have e46:(H.next == Z.next)=false:=zbn ac;have e64:(Z.next == H.next)=false:=zbn ac;dsimp only[za1];repeat' (first
  |(apply ai ?_;clear hK K)|apply Rx.o ?_|apply bN ?_|apply aq ?_|(apply zaW fun K hK=>?_)|apply aN ?_|fail)
 refine⟨za2,_,(by(try simp only[za4,zbg,Nat.reduceBEq,tyF,zb9,zch, *]);first|done|with_reducible rfl),?_⟩;try simp only[za0]
 rw[af ac,af ac,aj ac]at hR;subst hR;have hk6:∀q,Hb.next<=q->q<H6.next->((H6.set Z.next (.cells [.int .i64 3,.str [],.str [],.int .i64 0,.int .i64 0,.int .i64 0,.str [],.int .i64 0,.nilS,Y,o,V,U,O,.nilS,tv,uv] 0 true)).set H.next (.cells [.int .i64 3,.str [],.str [],.int .i64 0,.int .i64 0,.int .i64 0,.str [],.int .i64 0,.nilS,Y,o,V,U,O,.nilS,tv,uv] 0 true)).get q=H6.get q:=fun q i g=>wL
 have hk5:∀q,Ha.next<=q->q<H5.next->((H6.set Z.next (.cells [.int .i64 3,.str [],.str [],.int .i64 0,.int .i64 0,.int .i64 0,.str [],.int .i64 0,.nilS,Y,o,V,U,O,.nilS,tv,uv] 0 true)).set H.next (.cells [.int .i64 3,.str [],.str [],.int .i64 0,.int .i64 0,.int .i64 0,.str [],.int .i64 0,.nilS,Y,o,V,U,O,.nilS,tv,uv] 0 true)).get q=H5.get q:=fun q i g=>by rw[aC,af ac,aC,af ac,o6 _ ac ac,ob _ ac]
 refine sU rfl (by simp only[pV,rr,w0,zbM,w2,w3,w4,t1,p1,gm];rfl) (qn (n:=8+k) 3 [] [] 0 rx ((hc3.up ac).keep2 (fun q _ I=>ac) eg fun q i g=>by rw[aC,af ac,aC,af ac,o6 _ ac ac,ob _ ac,o5 _ ac ac,oa _ ac]) .nilS (z.keep (fun q _ I=>ac) eg fun q i g=>hk5 q i g).rd (J.keep (fun q _ I=>ac) eg fun q i g=>hk6 q i g).rd) ?_ ?_ ?_
 .exact hr6.keep eg fun q I=>wL
 .simp only[zbl];omega
 .intro q i g;rw[aC,af ac,aC,af ac,o6 _ ac g,ob _ ac,o5 _ ac g,oa _ ac,o4 _ ac g];exact o2' q i g
set_option maxRecDepth 100000 in
theorem Zm{C:List En}(hG:GenL C){k:Nat}{f:Int}{deep lo:Nat}{H H2:Hp}{r:Nat}{L:List Int}{c q m:Int}{E2:au}(hst:deep<=2->nE C k f (deep+1))(hat:AtT f deep lo H H2 r L c q m E2)(hn0:¬q<6)(hn1:¬q<8)(hn2:¬q<10)(hp0:q<12):zbu Try.prog (za3 pls C) 55 156 lO E2 H2 (lP k f deep lo H r L c q m):=by
 obtain⟨hd,hrl,hlo,n2,g2,o2',hr2,hL1,hm,hqd,k0,k1,k2,k6,k8,k9,k10⟩:=hat;have hkeep:(za3 pls C).keep 55=false:=rfl;have hq2:(2:Int)≠0:=aS;have O:((zbz f).length:Int)≠0:=by rcases qi f with h|h<;>rw[h]<;>decide
 obtain⟨hi0,hix⟩:=pn (zbz f) O hm.1 [];have hxs:=ql hm.1;have hxa:=qm hm.1;have hxf:=ry hm.1;have er:(H.next == r)=false:=zbn ac;have e41:=zcl f 4 1 L;have e50:=zcl f 5 0 L;have e32:=zcl f 3 2 L;have hwd:IntKind.wrap .i64 ((deep:Int)+1)=((deep+1:Nat):Int):=zcL ac;unfold lP;generalize hR:zcG (pp f k deep) f L c q m=R;rw[zcG]at hR;dsimp only[lO,mH,po];repeat' (first
  |(apply ai ?_;clear hK K)|apply Ry.o ?_|(apply bi (fun hb hbp=>?_) (fun hb hbp=>?_)<;>try(cases hb;done))|apply aq ?_|(apply zaW fun K hK=>?_)|apply aO ?_|fail)
 obtain⟨lv,hg,M⟩:=hr2.tick;have hcw:IntKind.wrap .i64 (c+1)=b9 (c+1):=rfl;repeat' (first
  |(apply ai ?_;clear hK K)|apply Rx.o ?_|apply bN ?_|apply aq ?_|(apply zaW fun K hK=>?_)|fail)
 generalize U:Hp.set _ r _=V;have nt:V.next=H.next+1:=by rw[<-U];simpa using n2
 have ot:∀q,q≠r->V.get q=_:=fun q I=>by rw[<-U,aC,af I]
 have hrt:ge lo V r L (b9 (c+1)):=by rw[<-U];exact M _
 have gt:V.get H.next=some (.cells [.int .i64 0,.str [],.str [],.int .i64 0,.int .i64 0,.int .i64 0,.str [],.int .i64 0,.nilS,.int .i64 0,.int .i64 0,.str [],.int .i64 0,.nilS,.nilS,.nilS,.nilS] 0 true):=by rw[ot _ ac];exact g2
 clear U;refine aK rfl aL aM ?_;simp only[aR];refine aI ?_ (zdn hG 4 f 1 ac ac lo V r L _ hrt ac);rintro v Z ⟨⟨cs,rfl,hc1,hc2,hc3⟩,hr4,n4,o4⟩;obtain⟨v0,v1,v2,v3,v4,rfl⟩:=jk hc1;obtain⟨w0,zbM,w2,w3,w4⟩:=rz hc2;dsimp only[za1];repeat' (first
  |(apply ai ?_;clear hK K)|apply Rx.o ?_|apply bN ?_|apply aq ?_|(apply zaW fun K hK=>?_)|fail)
 generalize j:Hp.set (Hp.alloc Z _) Z.next _=J
 have na:J.next=Z.next+1:=ug
 have oa:∀q,q<Z.next->J.get q=Z.get q:=fun q I=>Kt
 have ga:J.get Z.next=some (.cells [.int .i64 4,.str [],.str [],.int .i64 0,.int .i64 0,.int .i64 0,.str [],.int .i64 0,.nilS,v0,v1,v2,v3,v4,.nilS,.nilS,.nilS] 0 true):=uh
 clear j;refine aK rfl aL aM ?_;simp only[aR];refine aI ?_ (wH hG (hst ac) 3 ac ac lo J r ((zbe f 4 1 L).2,b9 (c+1)) (hr4.keep ac fun q I=>oa q ac) wB);rintro tv Y ⟨z,hr5,n5,o⟩;obtain⟨t1,t2⟩:=z.one;have g5:Y.get Z.next=some (.cells [.int .i64 4,.str [],.str [],.int .i64 0,.int .i64 0,.int .i64 0,.str [],.int .i64 0,.nilS,v0,v1,v2,v3,v4,.nilS,.nilS,.nilS] 0 true):=by rw[o _ ac ac];exact ga
 have g6:Y.get H.next=some (.cells [.int .i64 0,.str [],.str [],.int .i64 0,.int .i64 0,.int .i64 0,.str [],.int .i64 0,.nilS,.int .i64 0,.int .i64 0,.str [],.int .i64 0,.nilS,.nilS,.nilS,.nilS] 0 true):=by rw[o _ ac ac,oa _ ac,o4 _ ac ac];exact gt
 have e46:(H.next == Z.next)=false:=zbn ac;have e64:(Z.next == H.next)=false:=zbn ac;dsimp only[za1];repeat' (first
  |(apply ai ?_;clear hK K)|apply Rx.o ?_|apply bN ?_|apply aq ?_|(apply zaW fun K hK=>?_)|apply aN ?_|fail)
 refine⟨za2,_,(by(try simp only[za4,zbg,Nat.reduceBEq,tyF,zb9,zch, *]);first|done|with_reducible rfl),?_⟩;try simp only[za0]
 rw[af ac,af ac,af ac,aj ac]at hR;subst hR;have hk5:∀q,J.next<=q->q<Y.next->((Y.set Z.next (.cells [.int .i64 4,.str [],.str [],.int .i64 0,.int .i64 0,.int .i64 0,.str [],.int .i64 0,.nilS,v0,v1,v2,v3,v4,.nilS,tv,.nilS] 0 true)).set H.next (.cells [.int .i64 4,.str [],.str [],.int .i64 0,.int .i64 0,.int .i64 0,.str [],.int .i64 0,.nilS,v0,v1,v2,v3,v4,.nilS,tv,.nilS] 0 true)).get q=Y.get q:=fun q i g=>wL
 refine sU rfl (by simp only[pV,rr,w0,zbM,w2,w3,w4,t1,gm];rfl) (qn (n:=8+k) 4 [] [] 0 rx ((hc3.up ac).keep2 (fun q _ I=>ac) eg fun q i g=>by rw[aC,af ac,aC,af ac,o _ ac ac,oa _ ac]) .nilS (z.keep (fun q _ I=>ac) eg fun q i g=>hk5 q i g).rd .nilS) ?_ ?_ ?_
 .exact hr5.keep eg fun q I=>wL
 .simp only[zbl];omega
 .intro q i g;rw[aC,af ac,aC,af ac,o _ ac g,oa _ ac,o4 _ ac g,ot _ g];exact o2' q i g
set_option maxRecDepth 100000 in
theorem Zn{lG:List En}(hG:GenL lG){k:Nat}{f:Int}{deep lo:Nat}{H H2:Hp}{r:Nat}{L:List Int}{c q m:Int}{E2:au}(hst:deep<=2->nE lG k f (deep+1))(hat:AtT f deep lo H H2 r L c q m E2)(hn0:¬q<6)(hn1:¬q<8)(hn2:¬q<10)(hn3:¬q<12)(hn4:¬q<14)(hp0:q<15):zbu Try.prog (za3 pls lG) 55 156 lO E2 H2 (lP k f deep lo H r L c q m):=by
 obtain⟨hd,hrl,hlo,n2,g2,o2',hr2,hL1,hm,hqd,k0,k1,k2,k6,k8,k9,k10⟩:=hat;have hkeep:(za3 pls lG).keep 55=false:=rfl;have hq2:(2:Int)≠0:=aS;have J:((zbz f).length:Int)≠0:=by rcases qi f with h|h<;>rw[h]<;>decide
 obtain⟨hi0,hix⟩:=pn (zbz f) J hm.1 [];have hxs:=ql hm.1;have hxa:=qm hm.1;have hxf:=ry hm.1;have er:(H.next == r)=false:=zbn ac;have e41:=zcl f 4 1 L;have e50:=zcl f 5 0 L;have e32:=zcl f 3 2 L;have hwd:IntKind.wrap .i64 ((deep:Int)+1)=((deep+1:Nat):Int):=zcL ac;unfold lP;generalize hR:zcG (pp f k deep) f L c q m=R;rw[zcG]at hR;dsimp only[lO,mH,po];repeat' (first
  |(apply ai ?_;clear hK K)|apply Ry.o ?_|apply dD ?_|(apply bi (fun hb O=>?_) (fun hb O=>?_)<;>try(cases hb;done))|apply aq ?_|(apply zaW fun K hK=>?_)|(apply zcy 24 [(3,14),(6,14),(7,14),(11,14),(13,14)] fun K hK=>?_)|(apply zbK ?_;try intro _)|(apply zcr ?_ ?_<;>clear hK K)|apply cr ?_|apply zcX rfl ?_|apply aO ?_|fail)
 repeat' (first
  |(apply ai ?_;clear hK K)|fail)
 .exact zck
 generalize V:Hp.set (Hp.alloc (Hp.alloc _ _) _) _ _=Ha;have na:Ha.next=H.next+3:=by rw[<-V];simp only[zbl,zbb];omega
 have oa:∀q,q<H.next->q≠r->Ha.get q=H.get q:=fun q i Z=>by
  rw[<-V,aC,af ac,zaY,af eU,zaY,af ac];exact o2' q i Z
 have gz:Ha.get H.next=some (.cells [.int .i64 0,.str [],.str [],.int .i64 0,.int .i64 0,.int .i64 0,.str [],.int .i64 0,.nilS,.int .i64 0,.int .i64 0,.str [],.int .i64 0,.nilS,.nilS,.nilS,.nilS] 0 true):=by
  rw[<-V,aC,af ac,zaY,af eU,zaY,af ac];exact g2
 have hra:ge lo Ha r L c:=by
  rw[<-V];exact hr2.keep f0 fun q I=>by rw[aC,af ac,zaY,af eU,zaY,af ac]
 have ga:Ha.get (H.next+2)=some (.cells [.int .i64 6,.str ((zbz f).getD (m.tmod (zbz f).length).toNat []),.str (jF m),.int .i64 0,.int .i64 0,.int .i64 0,.str [],.int .i64 0,.nilS,.int .i64 0,.int .i64 0,.str [],.int .i64 0,.nilS,.nilS,.nilS,.nilS] 0 true):=by rw[<-V,aC,aj ac]
 clear V;have htm:0<=m.tmod 2/\m.tmod 2<2:=zT hm.1;have hw2:IntKind.wrap .i64 (2-m.tmod 2)=2-m.tmod 2:=mr ac ac;generalize hcnt:(2-m.tmod 2).toNat=C at *;have hcn:2-m.tmod 2=(C:Int):=ac;rw[hcn]at hw2;refine zcj [0,1,6,9,13] [H.next] 14 C (fun j E H'=>∃v es U,H'.get (H.next+2)=some (.cells [.int .i64 6,.str ((zbz f).getD (m.tmod (zbz f).length).toNat []),.str (jF m),.int .i64 0,.int .i64 0,.int .i64 0,.str [],.int .i64 0,.nilS,.int .i64 0,.int .i64 0,.str [],.int .i64 0,.nilS,v,.nilS,.nilS] 0 true)/\zbN (fun q=>H.next+3<=q) 4 H' 5 v (es.map Ex.cells)/\ge lo H' r U c/\(∀q,q<H.next->q≠r->H'.get q=H.get q)/\es.length=j/\U.length<=L.length/\jH f C L=(es++(jH f (C-j) U).1,(jH f (C-j) U).2)) eE ⟨.nilS,[],L,ga,.inl ⟨rfl,rfl⟩,hra,oa,rfl,aA _,aw⟩ ?_;clear ga hra oa g2 hr2 o2';rintro j E3 H3 hj hcE hrH hnH hsI ⟨v,es,U,g3,g,M,o3,hel,hLj,hJ⟩;(try simp only[zbR,zbq,br,za4,zbg,Nat.reduceBEq,Nat.reduceAdd, *]at hcE);(try simp only[zbR,zbq,br, *]at hrH);(try simp only[zbb,zbl,zb4,b4,Nat.reduceAdd]at hnH);have hB0:(H.next == H3.next)=false:=zbn ac;have hC0:(H3.next == H.next)=false:=zbn ac;have hle:H.next+3<=H3.next:=ac
 have e02:(H.next == H.next+2)=false:=zbn ac;have e20:(H.next+2 == H.next)=false:=zbn ac;obtain⟨v1,v2⟩:=g.one;repeat' (first
  |(apply ai ?_;clear hK K)|apply Rx.o ?_|apply bN ?_|(apply bu (fun hb O=>?_) (fun hb O=>?_)<;>try(cases hb;done))|apply aq ?_|(apply zaW fun K hK=>?_)|(apply zcy 28 [(1,4),(1,6),(5,6)] fun K hK=>?_)|(apply zbK ?_;try intro _)|apply cr ?_|apply aO ?_|apply za8 ?_|apply aN ?_|apply zbW ?_)
 .have hlt:j<C:=by omega
  refine aK rfl aL aM ?_;simp only[fJ];refine aI ?_ (zdn hG 3 f 2 ac ac lo H3 r U c M ac);rintro v' Y ⟨⟨cs,rfl,hc1,hc2,hc3⟩,hr4,n4,o4⟩;have hl4:=zcl f 3 2 U;have g4:Y.get (H.next+2)=some (.cells [.int .i64 6,.str ((zbz f).getD (m.tmod (zbz f).length).toNat []),.str (jF m),.int .i64 0,.int .i64 0,.int .i64 0,.str [],.int .i64 0,.nilS,.int .i64 0,.int .i64 0,.str [],.int .i64 0,.nilS,v,.nilS,.nilS] 0 true):=by rw[o4 _ ac ac];exact g3
  have g40:Y.get H.next=some (.cells [.int .i64 0,.str [],.str [],.int .i64 0,.int .i64 0,.int .i64 0,.str [],.int .i64 0,.nilS,.int .i64 0,.int .i64 0,.str [],.int .i64 0,.nilS,.nilS,.nilS,.nilS] 0 true):=by rw[o4 _ ac ac];exact hrH
  have kb:=fun H=>uc H hc1 hc2;have hvq:∀q o m z',v=.sl q o m z'->H.next+3<=q/\q<H3.next:=fun q o m z' e=>by
   rcases g with⟨rfl,_⟩|⟨q',imm,rows,rfl,e1,e2,_⟩
   .cases e
   .simp only[AV.sl.injEq]at e;rw[<-e.1];exact⟨e1,e2⟩
  have ob:∀q,q<Y.next->(Y.alloc (.cells cs 0 true)).get q=Y.get q:=fun q I=>fS
  have z:zbN (fun q=>H.next+3<=q) 4 (Y.alloc (.cells cs 0 true)) 5 v (es.map Ex.cells):=g.keep (fun q _ h=>h) eU fun q i Z=>by rw[ob _ ac,o4 q Z ac]
  have gcs:(Y.alloc (.cells cs 0 true)).get Y.next=some (.cells cs 0 true):=lY
  have g4b:(Y.alloc (.cells cs 0 true)).get (H.next+2)=some (.cells [.int .i64 6,.str ((zbz f).getD (m.tmod (zbz f).length).toNat []),.str (jF m),.int .i64 0,.int .i64 0,.int .i64 0,.str [],.int .i64 0,.nilS,.int .i64 0,.int .i64 0,.str [],.int .i64 0,.nilS,v,.nilS,.nilS] 0 true):=by rw[ob _ ac];exact g4
  obtain⟨v5,H5,a5,s5,n5,f5,q5⟩:=oh (P:=Try.prog) (t:=49) Try.underlying49 tB vA vB rfl ah z eU (r:=Y.next) (imm:=0) (row:=cs) (w:=(zbe f 3 2 U).1.cells) gcs hc1 hc2 (hc3.keep2 (fun q i Z=>⟨ac,fun o m z' e=>by have:=(hvq q o m z' e).2;omega⟩) (dV _) fun q i Z=>ob q Z) zM zM;simp only[zbb]at n5 f5;have o5:∀q,q<Y.next->q<H.next+3->H5.get q=Y.get q:=fun q i Z=>by rw[f5 q ac (fun o m z' e=>by have:=(hvq q o m z' e).1;omega),ob q i]
  have g5:H5.get (H.next+2)=some (.cells [.int .i64 6,.str ((zbz f).getD (m.tmod (zbz f).length).toNat []),.str (jF m),.int .i64 0,.int .i64 0,.int .i64 0,.str [],.int .i64 0,.nilS,.int .i64 0,.int .i64 0,.str [],.int .i64 0,.nilS,v,.nilS,.nilS] 0 true):=by rw[o5 _ ac ac];exact g4
  have n5':Y.next+2<=H5.next:=ac
  obtain⟨p1,p2⟩:=s5.one;clear f5 q5 g z M;dsimp only[za1];repeat' (first
   |(apply ai ?_;clear hK K)|apply Rx.o ?_|apply bN ?_|(apply zaW fun K hK=>?_)|(apply zbK ?_;try intro _)|(apply zcr ?_ ?_<;>clear hK K)|apply cr ?_|apply zcX rfl ?_|fail)
  .exact zck
  .have o6:∀q,q≠H.next+2->(H5.set (H.next+2) (.cells [.int .i64 6,.str ((zbz f).getD (m.tmod (zbz f).length).toNat []),.str (jF m),.int .i64 0,.int .i64 0,.int .i64 0,.str [],.int .i64 0,.nilS,.int .i64 0,.int .i64 0,.str [],.int .i64 0,.nilS,v5,.nilS,.nilS] 0 true)).get q=H5.get q:=fun q I=>by rw[aC,af I]
   have g60:H5.get H.next=some (.cells [.int .i64 0,.str [],.str [],.int .i64 0,.int .i64 0,.int .i64 0,.str [],.int .i64 0,.nilS,.int .i64 0,.int .i64 0,.str [],.int .i64 0,.nilS,.nilS,.nilS,.nilS] 0 true):=by rw[o5 _ ac ac];exact g40
   refine⟨ac,(by simp only[zbR,zbq,br,za4,zbg,Nat.reduceBEq,Nat.reduceAdd, *]),(by simp only[zbR,zbq,br,za4,zbg, *]),eN,(by simp only[za4,Nat.reduceBEq, *];exact zc7 (n:=C) ac ac),?_⟩;refine⟨v5,es++[(zbe f 3 2 U).1],(zbe f 3 2 U).2,gE,by rw[jJ];exact s5.keep (fun q _ h=>h) eg fun q i Z=>o6 q ac,hr4.keep eg fun q I=>by rw[o6 q ac,o5 q ac ac],fun q i Z=>by rw[o6 q ac,o5 q ac ac,o4 q ac Z,o3 q i Z],by simp[hel],ac,?_⟩;rw[hJ,show C-j=(C-(j+1))+1 by omega,jH];simp
 .have hje:j=C:=by omega
  subst hje;repeat' (first
   |(apply ai ?_;clear hK K)|fail)
  refine⟨za2,_,(by(try simp only[za4,zbg,Nat.reduceBEq,tyF,zb9,zch, *]);first|done|with_reducible rfl),?_⟩;try simp only[za0]
  rw[af ac,af ac,af ac,af ac,af ac,aj ac,hJ,qI]at hR;subst hR;simp only[jH,aR];refine sU rfl (by simp only[pV,rr,v1,gm];rfl) (qn (n:=8+k) 6 _ _ 0 rx rx ((g.keep (fun q _ I=>ac) eg fun q i Z=>jS).rd.up ac) .nilS .nilS) ?_ ?_ ?_
  .exact M.keep eg fun q I=>jS
  .simp only[zbl];omega
  .intro q i Z;rw[aC,af ac];exact o3 q i Z
end
section
def tyG5.tyF:=ad @cQ (ad @cW (ad @gU (ad @gJ (ad @eK (ad @eA (ad @dX (ad @fj (ad @tC (ad @J9 (@x3))))))))))
open tyG5
set_option maxRecDepth 100000 in
theorem Zo{j:List En}(O:GenL j){k:Nat}{f:Int}{deep:Nat}(hd:deep<=3)(o:deep<=2->nE j k f (deep+1)):nE j (k+1) f deep:=by
 intro lo H r s J hL;have hw:Plain (za3 pls j) 55:=O.plain cN;have hnx:Plain (za3 pls j) 27:=O.plain cN;have hkeep:(za3 pls j).keep 55=false:=rfl;have hrl:=J.1;have hlo:=J.2.1;have hq16:(16:Int)≠0:=aS;have hq2:(2:Int)≠0:=aS;have C:((zbz f).length:Int)≠0:=by rcases qi f with h|h<;>rw[h]<;>decide
 rw[zcD,rv];refine zbs (M:=156) (rs:=[.cell 6 55]) (hw.call _) hw.ice hw.froz Try.func55 rfl rfl po.2 rfl ?_;dsimp only[po,zbj,Nat.reduceAdd];repeat' (first
  |(apply ai ?_;clear hK K)|apply Rx.o ?_|apply aq ?_|(apply zaW fun K hK=>?_)|fail)
 refine aK rfl aL aM ?_;simp only[aR];refine aI ?_ (zn hnx (J.keep (dV _) fun q hq=>fS) hL);rintro v H2 ⟨rfl,hr2,n2,o2⟩;simp only[zbb]at n2;have g2:H2.get H.next=some (.cells [.int .i64 0,.str [],.str [],.int .i64 0,.int .i64 0,.int .i64 0,.str [],.int .i64 0,.nilS,.int .i64 0,.int .i64 0,.str [],.int .i64 0,.nilS,.nilS,.nilS,.nilS] 0 true):=by rw[o2 _ ac,zaY,aj rfl]
 have o2':∀q,q<H.next->q≠r->H2.get q=H.get q:=fun q h1 h2=>by rw[o2 q h2,zaY,af ac]
 have hL1:=zdm s.1;generalize (zbo s.1).1=n at *;generalize (zbo s.1).2=L1 at *;obtain⟨sL,c⟩:=s;simp only[]at *;have hq:=zds (n:=n) (m:=16) ac ac;have hm:=zds (n:=b9 (n.tdiv 16)) (m:=1000) ac ac;obtain⟨hi0,hix⟩:=pn (zbz f) C hm.1 [];have hxs:=ql hm.1;have hxa:=qm hm.1;have hxf:=ry hm.1;clear o2;dsimp only[za1];repeat' (first
  |(apply ai ?_;clear hK K)|apply Rx.o ?_|(apply mn ?_;first|refine zbV (Iq O.nms _ _) ?_|refine zbV (tS O.pick _ 1000 aS _) ?_)|apply aq ?_|(apply zaW fun K hK=>?_)|fail)
 refine aK rfl aL aM ?_;simp only[aR];refine aI ?_ (tS O.pick n 16 aS _);rintro _ _ ⟨rfl,rfl⟩;dsimp only[za1];refine Rx.o ?_;refine vk (hK _ _ ?_);clear hK K;dsimp only[kM,pN];generalize zbD n 16=Y at *;generalize zbD (b9 (n.tdiv 16)) 1000=m at *;obtain⟨lv,hgr,hlen⟩:=hr2.len;rename_i H2;simp only[pR,pS,cU];refine aq ?_;refine aq ?_;refine zaW fun K L=>?_;have hK:∀i H3,(i.at 0=.ptr r 0/\i.at 1=.int .i64 f/\i.at 2=.int .i64 deep/\i.at 6=.ptr H.next 0/\i.at 8=zbP (zbz f)/\i.at 9=.int .i64 m/\i.at 10=.int .i64 Y/\(∃b,i.at 44=.bool b/\(b=true↔(((2:Int)<deep/\8<=Y/\Y<12)\/(10<=c/\10<=Y))))/\H3=H2)->K i H3:=by
  rintro i H3 ⟨k0,k1,k2,k6,k8,k9,I,⟨b,k44,U⟩,rfl⟩;apply L;clear L K;dsimp only[kM,pN];have V:sR deep c Y=if ((2:Int)<deep/\8<=Y/\Y<12)\/(10<=c/\10<=Y)then 0 else Y:=rfl
  generalize sR deep c Y=q at *;have hqr:0<=q/\q<16:=by rw[V];split<;>omega
  have hqd:8<=q->q<12->deep<=2:=by rw[V];split<;>omega
  refine YL (fun E' H'=>E'.at 0=.ptr r 0/\E'.at 1=.int .i64 f/\E'.at 2=.int .i64 deep/\E'.at 6=.ptr H.next 0/\E'.at 8=zbP (zbz f)/\E'.at 9=.int .i64 m/\E'.at 10=.int .i64 q/\H'=H3) ?_ ?_
  .cases b with
   |true=>
    rw[aj (U.1 rfl)]at V;repeat' (first
     |(apply ai ?_;clear hK K)|apply Rx.o ?_|(apply bu (fun U z=>?_) (fun U z=>?_)<;>try(cases U;done))|(apply zaW fun K hK=>?_)|fail)
    exact⟨rfl,eE,eE,eE,eE,eE,eE,B8,rfl⟩
   |false=>
    rw[af (fun h=>by have:=U.2 h;cases this)]at V;repeat' (first
     |(apply bu (fun U z=>?_) (fun U z=>?_)<;>try(cases U;done))|apply za8 ?_|fail)
    exact⟨rfl,eE,eE,eE,eE,eE,eE,(by first|(simp only[*];done)|rfl),rfl⟩
  clear k0 k1 k2 k6 k8 k9 I k44 U V hq;rintro E3 H' ⟨k0,k1,k2,k6,k8,k9,I,rfl⟩;have Z:AtT f deep lo H H' r L1 c q m E3:=⟨hd,hrl,hlo,n2,g2,o2',hr2,ac,hm,hqd,k0,k1,k2,k6,k8,k9,I⟩;by_cases c1:q<6
  .exact Zh O o Z c1
  by_cases g:q<8
  .exact Zi O o Z c1 g
  by_cases c3:q<10
  .exact Zl O o Z c1 g c3
  by_cases c4:q<12
  .exact Zm O o Z c1 g c3 c4
  by_cases c5:q<14
  .exact Zj O o Z c1 g c3 c4 c5
  by_cases c6:q<15
  .exact Zn O o Z c1 g c3 c4 c5 c6
  exact Zk O o Z c1 g c3 c4 c5 c6
 clear L;repeat' (first
  |(apply ai ?_;clear hK K)|apply Rx.o ?_|apply Rx.gu ?_|(apply da (fun hg hgp=>?_) (fun hg hgp=>?_)<;>try(cases hg;done))|fail)
 all_goals
  refine⟨eE,eE,eE,eE,eE,eE,eE,⟨_,eE,?_⟩,rfl⟩;first
  |exact⟨fun _=>ac,fun _=>rfl⟩
  |exact⟨fun h=>(by cases h),fun h=>(by omega:False).elim⟩
  |exact⟨fun h=>by(have h:=oT h;omega),fun h=>lD ac⟩
theorem KB{L:List En}(Z:GenL L)(f:Int):∀(k O:Nat),4<=O+k->O<=3->nE L k f O
 |0,O,h1,h2=>by omega
 |k+1,O,h1,h2=>Zo Z h2 fun h=>KB Z f k (O+1) ac ac
end
section
def tyG6.tyF:=ad @eJ (ad @cQ (ad @cW (ad @gU (ad @kQ (ad @ly (ad @gI (ad @gJ (ad @eK (ad @eA (ad @dX (ad @lA (ad @fj (ad @oM (ad @tC (ad @x3 (ad @wc (ad @uP (@uZ))))))))))))))))))
open tyG6
noncomputable def KC:{c:SC // aD 61 (Try.f14.body.getD .skip)=c}:=by
 refine⟨?_,?_⟩;rotate_left
 .simp only[Try.f14,bP,aD,zby,zbt,zbA,zbB,Nat.blt,Nat.ble];rfl
def KD(L:List En):Prop:=∀(f:Int) (k O:Nat),4<=O+k->O<=3->nE L k f O
theorem Zp{L:List En}(O:GenL L):KD L:=KB O
def j9(L:List Int):List St×zbH:=jl 0 4 0 5 ((zbo L).2,0)
def iT(L:List Int):Ex×List Int:=zbe 0 4 1 (j9 L).2.1
def jT(L:List Int):List St×zbH:=jl 1 3 1 3 ((iT L).2,(j9 L).2.2)
def qp(L:List Int):Ex×List Int:=zbe 1 4 1 (jT L).2.1
def eF(L:List Int):Fu:=⟨[102],[[120],[121]],[[105],[106]],(j9 L).1,(iT L).1⟩
def zcE(L:List Int):Fu:=⟨[103],[[110]],[[105]],(jT L).1,(qp L).1⟩
def jU(L:List Int):List Ar:=[⟨[97],1+zbD (zbo L).1 4⟩,⟨[98],1+zbD (b9 ((zbo L).1.tdiv 4)) 4⟩]
def zbd(l:List Int):Pr:=⟨jU (l.take 60),[eF (l.take 60),zcE (l.take 60)]⟩
structure ProgM (lo n:Nat) (H:Hp) (p:Pr) (ra rf:Nat) (x y:Int) (f g:Fu) (cf cg:List AV):Prop where
 ep:p=⟨[⟨[97],x⟩,⟨[98],y⟩],[f,g]⟩
 ga:H.get ra=some (.cells [.str [97],.int .i64 x,.str [98],.int .i64 y] 0 true)
 gf:H.get rf=some (.cells (cf++cg) 0 true)
 la:lo<=ra/\ra<H.next
 lf:lo<=rf/\rf<H.next
 ne:ra≠rf
 lcf:cf.length=9
 lcg:cg.length=9
 wf:zbI (fun q=>lo<=q/\q≠ra/\q≠rf) n H cf f.cells
 wg:zbI (fun q=>lo<=q/\q≠ra/\q≠rf) n H cg g.cells
theorem ProgM.cells{lo n:Nat}{H:Hp}{p:Pr}{j Z:Nat}{x y:Int}{f g:Fu}{J K:List AV}(h:ProgM lo (n+1) H p j Z x y f g J K):zbI (fun q=>lo<=q) (n+2) H [.sl j 0 2 2,.sl Z 0 2 9] p.cells:=by
 rw[h.ep];refine .cons ?_ (.cons ?_ .nil)
 .refine rk (n:=n+1) (a:=[[.str [97],.int .i64 x],[.str [98],.int .i64 y]]) (imm:=0) (tip:=true) h.la.1 h.la.2 h.ga aw ⟨⟨rfl,.cons (.str _) (.cons (.int _ _) .nil)⟩,⟨rfl,.cons (.str _) (.cons (.int _ _) .nil)⟩,trivial⟩
 .refine rk (n:=n+1) (a:=[J,K]) (imm:=0) (tip:=true) h.lf.1 h.lf.2 (by rw[h.gf];simp) aw ⟨⟨h.lcf,h.wf.keep (fun q I=>I.1) (aA _) fun _ _ _=>rfl⟩,⟨h.lcg,h.wg.keep (fun q I=>I.1) (aA _) fun _ _ _=>rfl⟩,trivial⟩
theorem KE{S:Nat->Prop}{n:Nat}{H:Hp}(nm:List UInt8){p l b:AV}{v:List AV}{f:Fu}(U:f.name=nm)(h1:dB S (n+1) H p (zbP f.params))(h2:dB S (n+1) H l (zbP f.locals))(m:dB S (n+1) H b (.lst (f.body.map St.cells)))(L:zbI S (n+1) H v f.value.cells):zbI S (n+1) H ([.str nm,p,l,b]++v) f.cells:=by
 have e:f.cells=[.str f.name,zbP f.params,zbP f.locals,.lst (f.body.map St.cells)]++f.value.cells:=pM;rw[e,U];exact(zbI.cons (.str _) (.cons h1 (.cons h2 (.cons m .nil)))).append L
theorem z6{S:Nat->Prop}{n:Nat}{H:Hp}{r imm:Nat}{tip:Bool}(l:List (List UInt8))(hS:S r)(hr:r<H.next)(C:H.get r=some (.cells (l.map .str) imm tip))(Z:imm<=l.length):dB S (n+2) H (.sl r 0 l.length 1) (zbP l):=by
 have:=rk (n:=n+1) (a:=l.map fun s=>[AV.str s]) (z:=1) hS hr (by rw[Ck];exact C) (by rw[Ck];simpa using Z) (fu.strs l);rw[cD]at this;exact this
theorem Zq(H:Hp):zcv Try.prog H 23 0 []=some (.sl H.next 0 0 1,H.alloc (.cells [] 0 true)):=ah
theorem Zr(v:Nat)(n:Nat):zb5 Try.prog 77 [(0,.sl v 0 n 1)]=some (.agg [.sl v 0 n 1,.int .i64 0]):=ah
theorem Zs(s:List UInt8)(n:Int):zb5 Try.prog 74 [(0,.str s),(1,.int .i64 n)]=some (.agg [.str s,.int .i64 n]):=ah
theorem Zt(H:Hp)(a b:List UInt8)(x y:Int):zcv Try.prog H 32 2 [(0,.agg [.str a,.int .i64 x]),(1,.agg [.str b,.int .i64 y])]=some (.sl H.next 0 2 2,H.alloc (.cells [.str a,.int .i64 x,.str b,.int .i64 y] 0 true)):=ah
theorem Zu(r n:Nat):zb5 Try.prog 42 [(0,.sl r 0 n 2)]=some (.agg [.sl r 0 n 2,.nilS]):=ah
theorem Zv(s:List UInt8)(r n q m:Nat):zb5 Try.prog 53 [(0,.str s),(1,.sl r 0 n 1),(2,.sl q 0 m 1)]=some (.agg [.str s,.sl r 0 n 1,.sl q 0 m 1,.nilS,.int .i64 0,.int .i64 0,.str [],.int .i64 0,.nilS]):=ah
theorem Zw(H:Hp)(zbp C z Z o Y O V U i K M L J b5 b6 I m:AV):zcv Try.prog H 40 2 [(0,.agg [zbp,C,z,Z,o,Y,O,V,U]),(1,.agg [i,K,M,L,J,b5,b6,I,m])]=some (.sl H.next 0 2 9,H.alloc (.cells [zbp,C,z,Z,o,Y,O,V,U,i,K,M,L,J,b5,b6,I,m] 0 true)):=ah
theorem Zx(H:Hp)(s:List UInt8):zcv Try.prog H 47 1 [(0,.str s)]=some (.sl H.next 0 1 1,H.alloc (.cells [.str s] 0 true)):=ah
theorem Zy(a b:AV):zbJ 2 [a,b]=some (.agg [a,b]):=rfl
theorem Zz(l:List Int):(l.map fun n=>[AV.int .i64 n]).flatten=l.map fun n=>AV.int .i64 n:=by
 induction l with
 |nil=>rfl
 |cons a l ih=>simp only[dN,pH,ih];rfl
theorem ZA{H:Hp}{q:Nat}(l:List Int)(C:H.get q=some (.cells [] 0 true))(O:q<H.next)(M:l.length<=60):
 ∃v H',zcg Try.prog false H 23 23 (.sl q 0 0 1) (.lst (l.map fun n=>[AV.int .i64 n]))=some (v,H')/\(∃b Y,v=.sl b 0 l.length 1/\H'.get b=some (.cells (l.map fun n=>.int .i64 n) Y true)/\b<H'.next/\(b=q\/b=H.next))/\H.next<=H'.next/\∀k,k<H.next->k≠q->H'.get k=H.get k:=by
 have L:zcw=70368744177664:=rfl;have V:(l.map fun n=>[AV.int .i64 n]).flatten=l.map fun n=>AV.int .i64 n:=Zz l;have I:zcM H 1 (.lst (l.map fun n=>[AV.int .i64 n]))=some (l.length,l.map fun n=>AV.int .i64 n):=by
  have e:zcM H 1 (.lst (l.map fun n=>[AV.int .i64 n]))=if ((l.map fun n=>[AV.int .i64 n]).all fun K=>K.length == 1)then some ((l.map fun n=>[AV.int .i64 n]).length,(l.map fun n=>[AV.int .i64 n]).flatten)else none:=rfl
  rw[e,aj aw,V,cD]
 have Z:(l.map fun n=>AV.int .i64 n).all AV.one=true:=by simp[AV.one]
 cases l with
 |nil=> 
  refine⟨.sl q 0 0 1,H,?_,⟨q,0,rfl,C,O,.inl rfl⟩,aA _,fun _ _ _=>rfl⟩
  .simp only[zcg,Try.underlying23,jK,nU,nV,show jp Try.prog 23=true by kernel_rfl,I,ed]
 |cons a l=>
  simp only[cS]at I M;have U:gR false H 1 (.sl q 0 0 1)=H:=by
   unfold gR;simp only[C];rfl
  refine⟨.sl H.next 0 (0+(l.length+1)) 1,(H.kill q).alloc (.cells ([]++(a::l).map fun n=>.int .i64 n) (0-0) true),?_,⟨H.next,0,aw,?_,cJ _,.inr rfl⟩,dV _,fun k j m=>?_⟩
  .simp only[zcg,Try.underlying23,jK,nU,nV,show jp Try.prog 23=true by kernel_rfl,I,Z,U,oK,cZ,cS,ed,zdB,C,b4,nN,List.drop_nil,cK,de];rw[aj ⟨iD,iD,aw⟩]
  .show((H.kill q).alloc _).get (H.kill q).next=_
   rw[zaY,aj rfl];simp
  .rw[zaY,af lC,zcW,af m]
theorem ZB(l:List Int):jo Try.prog 23 (.lst (l.map fun n=>[AV.int .i64 n])) none (some (.int .i64 (min (l.length:Int) 60)))=some (.lst ((l.take 60).map fun n=>[AV.int .i64 n])):=by
 have e:min (l.length:Int) 60=((min l.length 60:Nat):Int):=ac;rw[e];simp only[jo,Try.underlying23,jK];show(if 0<=min l.length 60/\min l.length 60<=(l.map fun n=>[AV.int .i64 n]).length then _ else none)=_;rw[aj ⟨dg _,cc⟩];have C:((l.map fun n=>[AV.int .i64 n]).drop 0).take (min l.length 60-0)=(l.take 60).map fun n=>[AV.int .i64 n]:=by
  rw[fT,xw,<-List.map_take,List.take_eq_take_iff.2];omega
 rw[C];cases l.take 60 with
 |nil=>rfl
 |cons a l=>rfl
structure AtP (n0 M:Nat) (x y:Int) (H:Hp):Prop where
 lt:n0<M/\M+8<=H.next
 rs:H.get n0=some (.cells [.nilS,.nilS] 0 true)
 ra:H.get (M+1)=some (.cells [.str [97],.int .i64 x,.str [98],.int .i64 y] 0 true)
 t5:H.get (M+2)=some (.cells [.sl (M+1) 0 2 2,.sl (M+7) 0 2 9] 0 true)
 p1:H.get (M+3)=some (.cells [.str [120],.str [121]] 0 true)
 l1:H.get (M+4)=some (.cells [.str [105],.str [106]] 0 true)
 p2:H.get (M+5)=some (.cells [.str [110]] 0 true)
 l2:H.get (M+6)=some (.cells [.str [105]] 0 true)
theorem AtP.keep{U M:Nat}{x y:Int}{H H':Hp}(h:AtP U M x y H)(V:H.next<=H'.next)(C:∀q,(q=U\/M+1<=q/\q<M+7)->H'.get q=H.get q):AtP U M x y H':=by
 obtain⟨⟨g,i⟩,rs,j,J,Z,l1,I,Y⟩:=h;exact⟨⟨g,ac⟩,by rw[C _ (.inl rfl)];exact rs,by rw[C _ ac];exact j,by rw[C _ ac];exact J,by rw[C _ ac];exact Z,by rw[C _ ac];exact l1,by rw[C _ ac];exact I,by rw[C _ ac];exact Y⟩
set_option maxRecDepth 100000 in
theorem ZC{lG:List En}(hG:GenL lG)(hst:KD lG)(l:List Int)(hl:l.length<2^63)(H:Hp):
 za9 Try.prog (za3 pls lG) 14 [.lst (l.map fun n=>[AV.int .i64 n])] H fun v H'=>∃ra rf x y cf cg,v=.agg [.sl ra 0 2 2,.sl rf 0 2 9]/\ProgM H.next 14 H' (zbd l) ra rf x y (eF (l.take 60)) (zcE (l.take 60)) cf cg/\H.next<=H'.next/\(∀q,q<H.next->H'.get q=H.get q)/\H.next<ra/\∃pt pf lf bf vf pg lg bg vg,cf=zu [102] pf lf bf vf/\cg=zu [103] pg lg bg vg/\ProgL pt 14 H' ra rf x y (eF (l.take 60)) (zcE (l.take 60)) pf lf bf vf pg lg bg vg/\jU (l.take 60)=[⟨[97],x⟩,⟨[98],y⟩]/\∀q,q<H.next->pt q=0:=by
 have hw:Plain (za3 pls lG) 14:=hG.plain cN;have hkeep:(za3 pls lG).keep 14=false:=rfl;have hnx:Plain (za3 pls lG) 27:=hG.plain cN;have hs:=ZB l;have hL60:(l.take 60).length<=60:=tq;have hq4:(4:Int)≠0:=aS;have hgP:zbd l=⟨jU (l.take 60),[eF (l.take 60),zcE (l.take 60)]⟩:=rfl;generalize zbd l=P0 at *;refine zbs (M:=61) (rs:=[.cell 2 42]) (hw.call _) hw.ice hw.froz Try.func14 rfl rfl KC.2 rfl ?_;dsimp only[KC,zbj,Nat.reduceAdd];have gh0:=@Zq;repeat' (first
  |(apply ai ?_;clear hK K)|apply Rx.o ?_|apply aq ?_|(apply zaW fun K hK=>?_)|fail)
 generalize l.take 60=L at *;have gq:((H.alloc (.cells [.nilS,.nilS] 0 true)).alloc (.cells [] 0 true)).get (H.next+1)=some (.cells [] 0 true):=zq;obtain⟨v,Z,a2,⟨b,imm,rfl,gb,hb,hb2⟩,n2,o2⟩:=ZA L gq (cJ _) hL60;simp only[zbb]at n2 o2 hb2;refine qL eV eV (by rw[hkeep];exact a2) ?_;have gh0:=@Zr;repeat' (first
  |(apply ai ?_;clear hK K)|apply Rx.o ?_|apply aq ?_|(apply zaW fun K hK=>?_)|fail)
 have hrd3:ge (Z.next+1) (Z.alloc (.cells [.sl b 0 L.length 1,.int .i64 0] 0 true)) Z.next L 0:=⟨cJ _,aA _,_,lY,.inr ⟨b,0,_,imm,rfl,by rw[zaY,af ac];exact gb,rfl,ac,ac⟩⟩
 have g3:(Z.alloc (.cells [.sl b 0 L.length 1,.int .i64 0] 0 true)).get H.next=some (.cells [.nilS,.nilS] 0 true):=by rw[zaY,af ac,o2 _ ac ac,zaY,af eU,zaY,aj rfl]
 have o3:∀q,q<H.next->(Z.alloc (.cells [.sl b 0 L.length 1,.int .i64 0] 0 true)).get q=H.get q:=fun q I=>by rw[zaY,af ac,o2 _ ac ac,zaY,af eU,zaY,af ac]
 generalize hH3:Z.alloc (.cells [.sl b 0 L.length 1,.int .i64 0] 0 true)=H3 at *;have n3:H3.next=Z.next+1:=by rw[<-hH3];rfl
 clear hH3 gb hb hb2 a2 gq o2;refine aK rfl aL aM ?_;simp only[aR];refine aI ?_ (zn hnx hrd3 ac);rintro v H4 ⟨rfl,hr4,n4,o4⟩;have g4:H4.get H.next=some (.cells [.nilS,.nilS] 0 true):=by rw[o4 _ ac];exact g3
 have o4':∀q,q<H.next->H4.get q=H.get q:=fun q I=>by rw[o4 _ ac];exact o3 q I
 clear o4 o3 g3 hrd3;have hL1:=zdm L;have hA:jU L=[⟨[97],1+zbD (zbo L).1 4⟩,⟨[98],1+zbD (b9 ((zbo L).1.tdiv 4)) 4⟩]:=rfl;have hp1:=zds (n:=(zbo L).1) (m:=4) ac ac;have hp2:=zds (n:=b9 ((zbo L).1.tdiv 4)) (m:=4) ac ac;have hB1:j9 L=jl 0 4 0 5 ((zbo L).2,0):=rfl;have hV1:iT L=zbe 0 4 1 (j9 L).2.1:=rfl;have hB2:jT L=jl 1 3 1 3 ((iT L).2,(j9 L).2.2):=rfl;have hV2:qp L=zbe 1 4 1 (jT L).2.1:=rfl;have hF1:eF L=⟨[102],[[120],[121]],[[105],[106]],(j9 L).1,(iT L).1⟩:=rfl;have hF2:zcE L=⟨[103],[[110]],[[105]],(jT L).1,(qp L).1⟩:=rfl;have hl1:(j9 L).2.1.length<=(zbo L).2.length:=by rw[hB1];exact cm (wF (wG 0 4 0) _ _) (zdm _)
 have hl2:(iT L).2.length<=(j9 L).2.1.length:=zcl 0 4 1 _;have hl3:(jT L).2.1.length<=(iT L).2.length:=by rw[hB2];exact cm (wF (wG 1 3 1) _ _) (zdm _)
 generalize j9 L=B1 at *;generalize iT L=V1 at *;generalize jT L=B2 at *;generalize qp L=V2 at *;generalize eF L=Ff at *;generalize zcE L=Fg at *;generalize jU L=Aa at *;generalize (zbo L).1=n at *;generalize (zbo L).2=L1 at *;have hw1:IntKind.wrap .i64 (1+zbD n 4)=1+zbD n 4:=mr ac ac;have hw2:IntKind.wrap .i64 (1+zbD (b9 (n.tdiv 4)) 4)=1+zbD (b9 (n.tdiv 4)) 4:=mr ac ac;have hw3:IntKind.wrap .i64 (n.tdiv 4)=b9 (n.tdiv 4):=rfl;dsimp only[za1];have gh0:=@Zs;have gh1:=@Zt;have gh2:=@Zu;have gh3:=@Zx;have gh4:=@Zv;have gh5:=@Zw;repeat' (first
  |(apply ai ?_;clear hK K)|apply Rx.o ?_|apply bN ?_|(apply mn ?_;first|refine zbV (tS hG.pick _ _ aS _) ?_)|apply aq ?_|(apply zaW fun K hK=>?_)|(apply zcy 5 [(1,3),(1,6)] fun K hK=>?_)|(apply zbK ?_;try intro _)|apply cr ?_|fail)
 generalize hx:1+zbD n 4=x at *;generalize hy:1+zbD (b9 (n.tdiv 4)) 4=y at *;rename_i H4;have hne:∀i,(H.next == Z.next+i)=false:=fun i=>zbn ac;have hmn:H.next<Z.next:=ac
 generalize hHs:Hp.set (Hp.alloc _ _) _ _=Hs;have hat:AtP H.next Z.next x y Hs:=by
  rw[<-hHs];refine⟨⟨hmn,f0⟩,?_,?_,?_,?_,?_,?_,?_⟩
  .repeat (first|rw[aC,af kF]|rw[zaY,af kF])
   exact g4
  ·(repeat (first|rw[aC,af kF]|rw[zaY,af kF]));(first|rw[aC,aj lQ]|rw[zaY,aj lQ])
  ·(repeat (first|rw[aC,af (by(try simp only[]);omega)]|rw[zaY,af kF]));(first|rw[aC,aj lQ]|rw[zaY,aj lQ])
  ·(repeat (first|rw[aC,af kF]|rw[zaY,af kF]));(first|rw[aC,aj lQ]|rw[zaY,aj lQ])
  ·(repeat (first|rw[aC,af kF]|rw[zaY,af kF]));(first|rw[aC,aj lQ]|rw[zaY,aj lQ])
  ·(repeat (first|rw[aC,af kF]|rw[zaY,af kF]));(first|rw[aC,aj lQ]|rw[zaY,aj lQ])
  ·(repeat (first|rw[aC,af kF]|rw[zaY,af kF]));(first|rw[aC,aj lQ]|rw[zaY,aj lQ])
 have gf:Hs.get (Z.next+7)=some (.cells [.str [102],.sl (Z.next+3) 0 2 1,.sl (Z.next+4) 0 2 1,.nilS,.int .i64 0,.int .i64 0,.str [],.int .i64 0,.nilS,.str [103],.sl (Z.next+5) 0 1 1,.sl (Z.next+6) 0 1 1,.nilS,.int .i64 0,.int .i64 0,.str [],.int .i64 0,.nilS] 0 true):=by
  rw[<-hHs];(repeat (first|rw[aC,af kF]|rw[zaY,af kF]));(first|rw[aC,aj lQ]|rw[zaY,aj lQ])
 have olds:∀q,q<Z.next+1->Hs.get q=H4.get q:=fun q I=>by
  rw[<-hHs];repeat (first|rw[aC,af ac]|rw[zaY,af kF])
 have hns:Hs.next=Z.next+8:=by rw[<-hHs];simp only[zbl,zbb];omega
 have hrs:ge (Z.next+1) Hs Z.next L1 0:=hr4.keep ac olds
 have os:∀q,q<H.next->Hs.get q=H.get q:=fun q I=>by rw[olds q ac];exact o4' q I
 clear olds hHs hr4 g4 o4';have h02:(0:Nat)<2:=aS;have h12:(1:Nat)<2:=aS;refine aK rfl aL aM ?_;simp only[fJ];refine aI ?_ (wH hG (hst 0 4 0 ac ac) 5 ac ac (Z.next+1) Hs Z.next (L1,0) hrs wB);rintro v1 H5 ⟨U,hr5,n5,o5⟩;rw[<-hB1]at U hr5;obtain⟨t1,t2⟩:=U.one;have hat5:=hat.keep n5 fun q I=>o5 q ac ac;have g5t:=hat5.t5;have g5f:H5.get (Z.next+7)=some (.cells [.str [102],.sl (Z.next+3) 0 2 1,.sl (Z.next+4) 0 2 1,.nilS,.int .i64 0,.int .i64 0,.str [],.int .i64 0,.nilS,.str [103],.sl (Z.next+5) 0 1 1,.sl (Z.next+6) 0 1 1,.nilS,.int .i64 0,.int .i64 0,.str [],.int .i64 0,.nilS] 0 true):=by rw[o5 _ ac ac];exact gf
 have gst:=hat.t5;dsimp only[za1];repeat' (first
  |apply Ry.o ?_|apply dD ?_|apply aq ?_|(apply zcy 6 [(1,3),(1,6)] fun K hK=>?_)|(apply zbK ?_;try intro _)|(apply zcr ?_ ?_<;>clear hK K)|apply cr ?_|apply zcX rfl ?_|fail)
 .exact zck
 have n5':=n5;generalize j:Hp.set H5 (Z.next+7) _=Ha;have nHa:Ha.next=H5.next:=ug
 have oHa:∀q,q≠Z.next+7->Ha.get q=H5.get q:=fun q I=>zY
 have gfHa:Ha.get (Z.next+7)=some (.cells [.str [102],.sl (Z.next+3) 0 2 1,.sl (Z.next+4) 0 2 1,v1,.int .i64 0,.int .i64 0,.str [],.int .i64 0,.nilS,.str [103],.sl (Z.next+5) 0 1 1,.sl (Z.next+6) 0 1 1,.nilS,.int .i64 0,.int .i64 0,.str [],.int .i64 0,.nilS] 0 true):=uh;clear j;have hatHa:=hat5.keep (pW nHa.symm) fun q I=>oHa q ac;have gtHa:=hatHa.t5;have hrHa:=hr5.keep (pW nHa.symm) fun q I=>oHa q ac;have hMl:=hat.lt;repeat' (first
  |(apply ai ?_;clear hK K)|fail)
 refine aK rfl aL aM ?_;simp only[fJ];refine aI ?_ (zdn hG 4 0 1 ac ac (Z.next+1) Ha Z.next _ _ hrHa ac);rintro _ H6 ⟨⟨cs,rfl,hc1,hc2,hc3⟩,hrH6,nH6,oH6⟩;rw[<-hV1]at hc3 hrH6;obtain⟨p0,p1,p2,p3,p4,rfl⟩:=jk hc1;obtain⟨u0,u1,u2,u3,u4⟩:=rz hc2;have hatH6:=hatHa.keep nH6 fun q I=>oH6 q ac ac;have gtH6:=hatH6.t5;have gfH6:H6.get (Z.next+7)=some (.cells [.str [102],.sl (Z.next+3) 0 2 1,.sl (Z.next+4) 0 2 1,v1,.int .i64 0,.int .i64 0,.str [],.int .i64 0,.nilS,.str [103],.sl (Z.next+5) 0 1 1,.sl (Z.next+6) 0 1 1,.nilS,.int .i64 0,.int .i64 0,.str [],.int .i64 0,.nilS] 0 true):=by rw[oH6 _ ac ac];exact gfHa
 dsimp only[za1];repeat' (first
  |apply Ry.o ?_|apply dD ?_|apply aq ?_|(apply zcy 7 [(1,3),(1,6)] fun K hK=>?_)|(apply zbK ?_;try intro _)|(apply zcr ?_ ?_<;>clear hK K)|apply cr ?_|apply zcX rfl ?_|fail)
 .exact zck
 generalize j:Hp.set H6 (Z.next+7) _=Hb;have nHb:Hb.next=H6.next:=ug
 have o:∀q,q≠Z.next+7->Hb.get q=H6.get q:=fun q I=>zY
 have gfHb:Hb.get (Z.next+7)=some (.cells [.str [102],.sl (Z.next+3) 0 2 1,.sl (Z.next+4) 0 2 1,v1,p0,p1,p2,p3,p4,.str [103],.sl (Z.next+5) 0 1 1,.sl (Z.next+6) 0 1 1,.nilS,.int .i64 0,.int .i64 0,.str [],.int .i64 0,.nilS] 0 true):=uh;clear j;have hatHb:=hatH6.keep (pW nHb.symm) fun q I=>o q ac;have gtHb:=hatHb.t5;have hrHb:=hrH6.keep (pW nHb.symm) fun q I=>o q ac;repeat' (first
  |(apply ai ?_;clear hK K)|fail)
 refine aK rfl aL aM ?_;simp only[fJ];refine aI ?_ (wH hG (hst 1 3 1 ac ac) 3 ac ac (Z.next+1) Hb Z.next (V1.2,B1.2.2) hrHb wB);rintro v2 H7 ⟨O,hrH7,nH7,z⟩;rw[<-hB2]at O hrH7;obtain⟨s1,s2⟩:=O.one;have hatH7:=hatHb.keep nH7 fun q I=>z q ac ac;have gtH7:=hatH7.t5;have gfH7:H7.get (Z.next+7)=some (.cells [.str [102],.sl (Z.next+3) 0 2 1,.sl (Z.next+4) 0 2 1,v1,p0,p1,p2,p3,p4,.str [103],.sl (Z.next+5) 0 1 1,.sl (Z.next+6) 0 1 1,.nilS,.int .i64 0,.int .i64 0,.str [],.int .i64 0,.nilS] 0 true):=by rw[z _ ac ac];exact gfHb
 dsimp only[za1];repeat' (first
  |apply Ry.o ?_|apply dD ?_|apply aq ?_|(apply zcy 8 [(1,3),(1,6)] fun K hK=>?_)|(apply zbK ?_;try intro _)|(apply zcr ?_ ?_<;>clear hK K)|apply cr ?_|apply zcX rfl ?_|fail)
 .exact zck
 generalize j:Hp.set H7 (Z.next+7) _=Hc;have nHc:Hc.next=H7.next:=ug
 have C:∀q,q≠Z.next+7->Hc.get q=H7.get q:=fun q I=>zY
 have gfHc:Hc.get (Z.next+7)=some (.cells [.str [102],.sl (Z.next+3) 0 2 1,.sl (Z.next+4) 0 2 1,v1,p0,p1,p2,p3,p4,.str [103],.sl (Z.next+5) 0 1 1,.sl (Z.next+6) 0 1 1,v2,.int .i64 0,.int .i64 0,.str [],.int .i64 0,.nilS] 0 true):=uh;clear j;have hatHc:=hatH7.keep (pW nHc.symm) fun q I=>C q ac;have gtHc:=hatHc.t5;have hrHc:=hrH7.keep (pW nHc.symm) fun q I=>C q ac;repeat' (first
  |(apply ai ?_;clear hK K)|fail)
 refine aK rfl aL aM ?_;simp only[fJ];refine aI ?_ (zdn hG 4 1 1 ac ac (Z.next+1) Hc Z.next _ _ hrHc ac);rintro _ H8 ⟨⟨ds,rfl,hd1,hd2,hd3⟩,hrH8,nH8,J⟩;rw[<-hV2]at hd3 hrH8;obtain⟨w0,zbM,w2,w3,w4,rfl⟩:=jk hd1;obtain⟨z0,z1,z2,z3,z4⟩:=rz hd2;have hatH8:=hatHc.keep nH8 fun q I=>J q ac ac;have gtH8:=hatH8.t5;have gfH8:H8.get (Z.next+7)=some (.cells [.str [102],.sl (Z.next+3) 0 2 1,.sl (Z.next+4) 0 2 1,v1,p0,p1,p2,p3,p4,.str [103],.sl (Z.next+5) 0 1 1,.sl (Z.next+6) 0 1 1,v2,.int .i64 0,.int .i64 0,.str [],.int .i64 0,.nilS] 0 true):=by rw[J _ ac ac];exact gfHc
 dsimp only[za1];repeat' (first
  |apply Ry.o ?_|apply dD ?_|apply aq ?_|(apply zaW fun K hK=>?_)|(apply zbK ?_;try intro _)|(apply zcr ?_ ?_<;>clear hK K)|apply cr ?_|apply zcX rfl ?_|fail)
 .exact zck
 generalize j:Hp.set H8 (Z.next+7) _=Hd;have nHd:Hd.next=H8.next:=ug
 have Y:∀q,q≠Z.next+7->Hd.get q=H8.get q:=fun q I=>zY
 have gfHd:Hd.get (Z.next+7)=some (.cells [.str [102],.sl (Z.next+3) 0 2 1,.sl (Z.next+4) 0 2 1,v1,p0,p1,p2,p3,p4,.str [103],.sl (Z.next+5) 0 1 1,.sl (Z.next+6) 0 1 1,v2,w0,zbM,w2,w3,w4] 0 true):=uh;clear j;have g:=hatH8.keep (pW nHd.symm) fun q I=>Y q ac;have gtHd:=g.t5;have hrHd:=hrH8.keep (pW nHd.symm) fun q I=>Y q ac;have gr:=g.rs;have e1:(Z.next+2 == H.next)=false:=zbn ac;have gh0:=@Zy;repeat' (first
  |(apply ai ?_;clear hK K)|apply Rx.o ?_|apply bN ?_|apply aN ?_)
 refine⟨za2,_,(by(try simp only[za4,zbg,Nat.reduceBEq,Nat.reduceAdd,tyF,zb9,zch, *]);first|done|with_reducible rfl),?_⟩;try simp only[za0]
 have old:∀q,q<H.next->((Hd.set H.next (.cells [.sl (Z.next+1) 0 2 2,.sl (Z.next+7) 0 2 9] 0 true)).get q=H.get q):=fun q I=>by
  rw[aC,af ac,Y _ ac,J _ ac ac,C _ ac,z _ ac ac,o _ ac,oH6 _ ac ac,oHa _ ac,o5 _ ac ac];exact os q I
 have hz:=g.keep (H':=Hd.set H.next (.cells [.sl (Z.next+1) 0 2 2,.sl (Z.next+7) 0 2 9] 0 true)) (aA _);refine⟨Z.next+1,Z.next+7,x,y,[.str [102],.sl (Z.next+3) 0 2 1,.sl (Z.next+4) 0 2 1,v1,p0,p1,p2,p3,p4],[.str [103],.sl (Z.next+5) 0 1 1,.sl (Z.next+6) 0 1 1,v2,w0,zbM,w2,w3,w4],rfl,?_,eg,old,ac,ro Z.next H5.next H6.next H7.next,.sl (Z.next+3) 0 2 1,.sl (Z.next+4) 0 2 1,v1,[p0,p1,p2,p3,p4],.sl (Z.next+5) 0 1 1,.sl (Z.next+6) 0 1 1,v2,[w0,zbM,w2,w3,w4],rfl,rfl,?_,hA,fun q I=>by unfold ro;rw[aj ac]⟩;all_goals
  have V:∀q,q≠H.next->(Hd.set H.next (.cells [.sl (Z.next+1) 0 2 2,.sl (Z.next+7) 0 2 9] 0 true)).get q=Hd.get q:=fun q I=>by rw[aC,af I]
  have nz:(Hd.set H.next (.cells [.sl (Z.next+1) 0 2 2,.sl (Z.next+7) 0 2 9] 0 true)).next=Hd.next:=rfl
  generalize (Hd.set H.next (.cells [.sl (Z.next+1) 0 2 2,.sl (Z.next+7) 0 2 9] 0 true))=Hz at *;have hl:=g.lt
 .refine⟨by rw[hgP,hA],by rw[V _ ac];exact g.ra,by rw[V _ ac];exact gfHd,⟨ac,ac⟩,⟨ac,ac⟩,ac,rfl,rfl,?_,?_⟩
  .rw[hF1];refine KE (n:=13) [102] rfl (z6 (n:=12) (imm:=0) (tip:=true) [[120],[121]] ⟨ac,ac,ac⟩ ac (by rw[V _ ac];exact g.p1) aw) (z6 (n:=12) (imm:=0) (tip:=true) [[105],[106]] ⟨ac,ac,ac⟩ ac (by rw[V _ ac];exact g.l1) aw) ?_ ?_
   .exact(U.keep (fun q _ I=>⟨ac,ac,ac⟩) ac fun q h1 h2=>Ku).rd.up ac
   .exact(hc3.up ac).keep2 (fun q _ I=>⟨ac,ac,ac⟩) ac fun q h1 h2=>Kv
  .rw[hF2];refine KE (n:=13) [103] rfl (z6 (n:=12) (imm:=0) (tip:=true) [[110]] ⟨ac,ac,ac⟩ ac (by rw[V _ ac];exact g.p2) aw) (z6 (n:=12) (imm:=0) (tip:=true) [[105]] ⟨ac,ac,ac⟩ ac (by rw[V _ ac];exact g.l2) aw) ?_ ?_
   .exact(O.keep (fun q _ I=>⟨ac,ac,ac⟩) ac fun q h1 h2=>Kw).rd.up ac
   .exact(hd3.up ac).keep2 (fun q _ I=>⟨ac,ac,ac⟩) ac fun q h1 h2=>by rw[V _ ac,Y _ ac]
 .have ls:=hat.lt;refine⟨by rw[V _ ac];exact g.ra,by rw[V _ ac,gfHd,hF1,hF2];rfl,ac,ac,ui,ui,⟨hc1,hc2,?_,?_,?_,?_⟩,⟨hd1,hd2,?_,?_,?_,?_⟩⟩
  .rw[hF1];exact zt (n:=13) [[120],[121]] ui ac (by rw[V _ ac];exact g.p1)
  .rw[hF1];exact zt (n:=13) [[105],[106]] ui ac (by rw[V _ ac];exact g.l1)
  .rw[hF1];exact(U.keep (fun q h1 h2=>WS ac h1) ac fun q h1 h2=>Ku).up ac
  .rw[hF1];exact(hc3.up ac).keep2 (fun q h1 h2=>WT ac ac h1) ac fun q h1 h2=>Kv
  .rw[hF2];exact zt (n:=13) [[110]] ui ac (by rw[V _ ac];exact g.p2)
  .rw[hF2];exact zt (n:=13) [[105]] ui ac (by rw[V _ ac];exact g.l2)
  .rw[hF2];exact(O.keep (fun q h1 h2=>WU ac ac ac h1) ac fun q h1 h2=>Kw).up ac
  .rw[hF2];exact(hd3.up ac).keep2 (fun q h1 h2=>WV ac ac ac ac) ac fun q h1 h2=>by rw[V _ ac,Y _ ac]
end
def wM:List (List UInt8):=[[97],[98]]
theorem KF(f:Int){m:Int}(h:0<=m):(zbz f).getD (m.tmod (zbz f).length).toNat []∈zbz f:=by
 have K:((zbz f).length:Int)≠0:=by unfold zbz;split<;>simp
 have:=(pn (zbz f) K h []).2;exact oF this
theorem KG(f:Int){s:List UInt8}(h:s∈zbz f):zb6 s=true/\zbx (zbz f) s=true:=by
 unfold zbz at h⊢;split at h<;>simp only[lJ]at h
 .rename_i e;rw[aj e];rcases h with rfl|rfl|rfl|rfl<;>exact⟨ah,ah⟩
 .rename_i e;rw[af e];rcases h with rfl|rfl<;>exact⟨ah,ah⟩
theorem KH(m:Int):zb6 (qk m)=true/\zbx wM (qk m)=true:=by
 unfold qk;split<;>exact⟨ah,ah⟩
theorem ZD(m:Int):zb6 (jF m)=true:=by
 unfold jF;split<;>kernel_rfl
structure ExOk (f:Int) (k:Nat) (x:Ex):Prop where
 wf:eM x=true
 df:dQ (zbz f) wM x=true
 dp:dJ x<=k
theorem rA(f:Int):∀(k O:Nat) (L:List Int),5<=O+k->O<=4->ExOk f k (zbe f k O L).1
 |0,O,L,h1,h2=>by omega
 |k+1,O,L,h1,h2=>by
  have ih:O<=3->∀L,ExOk f k (zbe f k (O+1) L).1:=fun hd L=>rA f k (O+1) L ac ac;have I:=zds (n:=(zbo L).1) (m:=16) ac ac;have V:=zds (n:=b9 ((zbo L).1.tdiv 16)) (m:=1000) ac ac;simp only[zbe];generalize zbD (zbo L).1 16=q at I⊢;generalize zbD (b9 ((zbo L).1.tdiv 16)) 1000=m at V⊢;split
  .split
   .obtain⟨zbT,J⟩:=KG f (KF f V.1);generalize (zbz f).getD (m.tmod (zbz f).length).toNat []=o at zbT J⊢;refine⟨?_,?_,by simp[dJ,jO]⟩
    .simp[eM,dZ,kw,Ex.kind,Ex.kids,Ex.n,Ex.op,Ex.name,zbT]
    .simp[dQ,zcs,fD,Ex.kind,Ex.name,J]
   .exact⟨by simp[eM,dZ,kw,Ex.kind,Ex.kids,Ex.op,Ex.name],by simp[dQ,zcs,fD,Ex.kind,Ex.name],by simp[dJ,jO]⟩
  .rename_i hn;have hd:O<=3:=ac;have ih:=ih hd;obtain⟨C,z⟩:=KH m;split
   .have M:=ih (zbo L).2;refine⟨?_,?_,?_⟩
    .simp[eM,dZ,kw,Ex.kind,Ex.kids,Ex.n,Ex.op,Ex.name,C,M.wf]
    .simp[dQ,zcs,fD,Ex.kind,Ex.name,z,M.df]
    .have:=M.dp;simp only[dJ,jO];omega
   .split
    .have M:=ih (zbo L).2;have Z:=ih (zbe f k (O+1) (zbo L).2).2;have i:=ih (zbe f k (O+1) (zbe f k (O+1) (zbo L).2).2).2;refine⟨?_,?_,?_⟩
     .simp[eM,dZ,kw,Ex.kind,Ex.kids,Ex.n,Ex.op,Ex.name,M.wf,Z.wf,i.wf]
     .simp[dQ,zcs,fD,Ex.kind,Ex.name,M.df,Z.df,i.df]
     .have:=M.dp;have:=Z.dp;have:=i.dp;simp only[dJ,jO];omega
    .split
     .have M:=ih (zbo L).2;have Y:ub m=20\/ub m=21:=by unfold ub;split<;>simp
      refine⟨?_,?_,?_⟩
      .rcases Y with Y|Y<;>simp[eM,dZ,kw,Ex.kind,Ex.kids,Ex.n,Ex.op,Ex.name,M.wf,Y]
      .simp[dQ,zcs,fD,Ex.kind,Ex.name,M.df]
      .have:=M.dp;simp only[dJ,jO];omega
     .have M:=ih (zbo L).2;have Z:=ih (zbe f k (O+1) (zbo L).2).2;have U:=zQ 15 V.1;have K:=sE m (show(0:Int)<15 by omega);have Y:tJ (b9 (4+m.tmod 15))=true:=by
       unfold b9;rw[mr ac ac];simp only[tJ,i9];omega
      refine⟨?_,?_,?_⟩
      .simp[eM,dZ,kw,Ex.kind,Ex.kids,Ex.n,Ex.op,Ex.name,M.wf,Z.wf,Y]
      .simp[dQ,zcs,fD,Ex.kind,Ex.name,M.df,Z.df]
      .have:=M.dp;have:=Z.dp;simp only[dJ,jO];omega
theorem KI(f:Int):∀(n:Nat) (L:List Int),dZ (jH f n L).1=true/\zcs (zbz f) wM (jH f n L).1=true/\((jH f n L).1.any fun e=>decide ((20:Int)<dJ e))=false/\(jH f n L).1.length=n
 |0,_=>⟨rfl,rfl,rfl,rfl⟩
 |n+1,L=>by
  obtain⟨i,g,m,Z⟩:=KI f n (zbe f 3 2 L).2;have h:=rA f 3 2 L ac ac;have hd:¬(20:Int)<dJ (zbe f 3 2 L).1:=by have:=h.dp;omega
  refine⟨?_,?_,?_,?_⟩
  .rw[jH,dZ,h.wf,i];rfl
  .rw[jH,zcs,h.df,g];rfl
  .rw[jH,pY,m,mp hd];rfl
  .rw[jH,cS,Z]
structure ScG (f:Int) (c:Sc):Prop where
 vars:c.vars=zbz f
 an:c.an=wM
 to:∀m:Int,0<=m->0<=zbY c.p.funcs (jF m) 0/\((2-m.tmod 2).toNat=oc c.p (jF m))
structure StOk (c:Sc) (k:Nat) (s:zbH) (x:St) (t:zbH):Prop where
 wf:jg x=true
 df:ev c false x=true
 ar:ev c true x=true
 dp:ku x=false
 n:zbT x+t.1.length<=s.1.length
 w:(zbM x:Int)+s.2=t.2
 wb:t.2<=10
 m:∀d,zbL x d<=d+k
structure StsOk (c:Sc) (k:Nat) (s:zbH) (l:List St) (t:zbH):Prop where
 wf:fY l=true
 df:zca c false l=true
 ar:zca c true l=true
 dp:iN l=false
 n:zbX l+t.1.length<=s.1.length
 w:(zb7 l:Int)+s.2=t.2
 wb:t.2<=10
 m:∀d,zcI l d<=d+k
theorem Du{c:Sc}{k:Nat}{step:zbH->St×zbH}(h:∀s:zbH,s.1≠[]->0<=s.2->s.2<=10->StOk c k s (step s).1 (step s).2):∀(n:Nat) (s:zbH),0<=s.2->s.2<=10->StsOk c k s (eO step n s).1 (eO step n s).2
 |0,s,h0,h1=>⟨rfl,rfl,rfl,rfl,by simp[eO,zbX],by simp[eO,zb7],h1,fun d=>by simp[eO,zcI]⟩
 |n+1,s,h0,h1=>by
  rw[eO];by_cases J:s.1=[]
  .rw[aj J];exact⟨rfl,rfl,rfl,rfl,by simp[zbX],by simp[zb7],h1,fun d=>by simp[zcI]⟩
  .rw[af J];have a:=h s J h0 h1;have U:=a.w;have b:=Du h n (step s).2 ac a.wb;have V:=b.w;have an:=a.n;have bn:=b.n;refine⟨?_,?_,?_,?_,?_,?_,b.wb,fun d=>?_⟩
   .simp only[fY,a.wf,b.wf];rfl
   .simp only[zca,a.df,b.df];rfl
   .simp only[zca,a.ar,b.ar];rfl
   .simp only[iN,a.dp,b.dp];rfl
   .simp only[zbX];omega
   .simp only[zb7];omega
   .have:=a.m d;have:=b.m d;simp only[zcI];omega
theorem ZE(f:Int):zeroE zc5=true/\dQ (zbz f) wM zc5=true/\dJ zc5=0:=⟨by simp[zeroE,zc5,Ex.kind,Ex.n,Ex.op,Ex.name,Ex.kids],by simp[zc5,dQ,zcs,fD,Ex.kind],by simp[zc5,dJ,jO]⟩
theorem ZF{f:Int}{c:Sc}(hc:ScG f c){k:Nat}{V:Int->zbH->List St×zbH}{s:zbH}{L:List Int}{q m:Int}(hL:L.length<s.1.length)(hm:0<=m)(hm1:m<1000)(h0:0<=s.2)(h1:s.2<=10)(hq:10<=q->s.2<10)(hq0:0<=q)
 (hs:8<=q->q<12->1<=k/\∀(i:Int) (s:zbH),0<=s.2->s.2<=10->StsOk c (k-1) s (V i s).1 (V i s).2):StOk c k s (zcG V f L s.2 q m).1 (zcG V f L s.2 q m).2:=by
 obtain⟨z1,z2,z3⟩:=ZE f;obtain⟨o,O⟩:=KG f (KF f hm);obtain⟨a1,a2⟩:=KH m;have g1:=ZD m;obtain⟨g2,g3⟩:=hc.to m hm;have M:=rA f 5 0 L ac ac;have g:=rA f 3 2 L ac ac;have Y:=rA f 4 1 L ac ac;have K:=rA f 4 1 (zbe f 3 2 L).2 ac ac;have l50:=zcl f 5 0 L;have l32:=zcl f 3 2 L;have l41:=zcl f 4 1 L;have l43:=zcl f 4 1 (zbe f 3 2 L).2;obtain⟨r1,r2,r3,r4⟩:=KI f (2-m.tmod 2).toNat L;have lar:=Dk f (2-m.tmod 2).toNat L;have d50:¬(20:Int)<dJ (zbe f 5 0 L).1:=by have:=M.dp;omega
 have d32:¬(20:Int)<dJ (zbe f 3 2 L).1:=by have:=g.dp;omega
 have I:¬(20:Int)<dJ (zbe f 4 1 L).1:=by have:=Y.dp;omega
 have d43:¬(20:Int)<dJ (zbe f 4 1 (zbe f 3 2 L).2).1:=by have:=K.dp;omega
 rw[zcG];generalize (zbz f).getD (m.tmod (zbz f).length).toNat []=nm at o O⊢;have z:=hc.vars;have ha:=hc.an;by_cases c1:q<6
 .rw[aj c1];refine⟨?_,?_,?_,?_,?_,?_,h1,fun d=>?_⟩
  .simp[jg,fY,iO,dZ,jz,lF,St.kind,St.thn,St.els,St.name,St.to,St.n,St.at_,St.value,St.args,o,z1,M.wf]
  .simp[ev,zca,jQ,zcs,zc8,St.kind,St.name,St.at_,St.value,St.args,z,ha,O,z2,M.df]
  .simp[ev,zca,jA,St.kind]
  .simp[ku,iN,z3,d50]
  .simp only[zbT,zbX];omega
  .simp[zbM,zb7]
  .simp[zbL,zcI]
 rw[af c1];by_cases c2:q<8
 .rw[aj c2];refine⟨?_,?_,?_,?_,?_,?_,h1,fun d=>?_⟩
  .simp[jg,fY,iO,dZ,jz,lF,St.kind,St.thn,St.els,St.name,St.to,St.n,St.at_,St.value,St.args,a1,g.wf,K.wf]
  .simp[ev,zca,jQ,zcs,zc8,St.kind,St.name,St.at_,St.value,St.args,z,ha,a2,g.df,K.df]
  .simp[ev,zca,jA,St.kind]
  .simp[ku,iN,d32,d43]
  .simp only[zbT,zbX];omega
  .simp[zbM,zb7]
  .simp[zbL,zcI]
 rw[af c2];by_cases c3:q<10
 .rw[aj c3];obtain⟨hk,C⟩:=hs ac ac;have Z:=C 3 ((zbe f 4 1 L).2,s.2) h0 h1;have J:=Z.w;have j:=Z.n;have U:=C 2 (V 3 ((zbe f 4 1 L).2,s.2)).2 (by simp only at J;omega) Z.wb;have sbw:=U.w;have sbn:=U.n;refine⟨?_,?_,?_,?_,?_,?_,U.wb,fun d=>?_⟩
  .simp[jg,iO,dZ,jz,oY,St.kind,St.name,St.to,St.n,St.at_,St.value,St.args,z1,Y.wf,Z.wf,U.wf]
  .simp[ev,jQ,zcs,zc8,St.kind,St.at_,St.value,St.args,z,ha,z2,Y.df,Z.df,U.df]
  .simp[ev,jA,St.kind,Z.ar,U.ar]
  .simp[ku,z3,I,Z.dp,U.dp]
  .simp only[zbT];simp only at j;omega
  .simp only[zbM];simp only at J;rw[af ac];omega
  .have:=Z.m (d+1);have:=U.m (d+1);simp only[zbL];omega
 rw[af c3];by_cases c4:q<12
 .rw[aj c4];obtain⟨hk,C⟩:=hs ac ac;have hlt:=hq ac;have hw:b9 (s.2+1)=s.2+1:=by unfold b9;rw[mr ac ac]
  rw[hw];have Z:=C 3 ((zbe f 4 1 L).2,s.2+1) ru ru;have J:=Z.w;have j:=Z.n;refine⟨?_,?_,?_,?_,?_,?_,Z.wb,fun d=>?_⟩
  .simp[jg,fY,iO,dZ,jz,oY,St.kind,St.els,St.name,St.to,St.n,St.at_,St.value,St.args,z1,Y.wf,Z.wf]
  .simp[ev,zca,jQ,zcs,zc8,St.kind,St.at_,St.value,St.args,z,ha,z2,Y.df,Z.df]
  .simp[ev,zca,jA,St.kind,Z.ar]
  .simp[ku,iN,z3,I,Z.dp]
  .simp only[zbT,zbX];simp only at j;omega
  .simp only[zbM,zb7];simp only at J;simp only[cZ];omega
  .have:=Z.m (d+1);simp only[zbL,zcI];omega
 rw[af c4];by_cases c5:q<14
 .rw[aj c5];refine⟨?_,?_,?_,?_,?_,?_,h1,fun d=>?_⟩
  .simp[jg,fY,iO,dZ,jz,lF,oY,St.kind,St.thn,St.els,St.name,St.to,St.n,St.at_,St.value,St.args,z1,Y.wf]
  .simp[ev,zca,jQ,zcs,zc8,St.kind,St.at_,St.value,St.args,z,ha,z2,Y.df]
  .simp[ev,zca,jA,St.kind]
  .simp[ku,iN,z3,I]
  .simp only[zbT,zbX];omega
  .simp[zbM,zb7]
  .simp[zbL,zcI]
 rw[af c5];by_cases c6:q<15
 .rw[aj c6];refine⟨?_,?_,?_,?_,?_,?_,h1,fun d=>?_⟩
  .simp[jg,fY,iO,jz,lF,St.kind,St.thn,St.els,St.name,St.to,St.n,St.at_,St.value,St.args,o,z1,g1,r1]
  .simp[ev,zca,jQ,zc8,St.kind,St.name,St.to,St.at_,St.value,St.args,z,ha,z2,O,g2,r2]
  .have:(((jH f (2-m.tmod 2).toNat L).1.length:Nat):Int)=oc c.p (jF m):=by rw[r4,g3]
   simp[ev,zca,jA,St.kind,St.args,St.to,this]
  .simp only[ku,iN,z3,r3];decide
  .simp only[zbT,zbX];omega
  .simp[zbM,zb7]
  .simp[zbL,zcI]
 rw[af c6];refine⟨?_,?_,?_,?_,?_,?_,h1,fun d=>?_⟩
 .have e:m<=1000000:=by omega
  simp[jg,fY,iO,dZ,jz,lF,St.kind,St.thn,St.els,St.name,St.to,St.n,St.at_,St.value,St.args,z1,hm,e]
 .simp[ev,zca,jQ,zcs,zc8,St.kind,St.at_,St.value,St.args,z,ha,z2]
 .simp[ev,zca,jA,St.kind]
 .simp[ku,iN,z3]
 .simp only[zbT,zbX];omega
 .simp[zbM,zb7]
 .simp[zbL,zcI]
theorem ZG{L:List Int}(h:L≠[]):(zbo L).2.length<L.length:=by
 cases L with
 |nil=>exact absurd rfl h
 |cons a l=>simp[zbo]
theorem StsOk.more{c:Sc}{k:Nat}{s O:zbH}{l:List St}{t:zbH}(h:StsOk c k O l t)(h1:O.1.length<=s.1.length)(h2:O.2=s.2):StsOk c k s l t:=⟨h.wf,h.df,h.ar,h.dp,cm h.n h1,h2▸h.w,h.wb,h.m⟩
theorem KJ{f:Int}{c:Sc}(V:ScG f c):∀(k O:Nat),4<=O+k->O<=3->∀s:zbH,s.1≠[]->0<=s.2->s.2<=10->StOk c (k-1) s (zcD f k O s).1 (zcD f k O s).2
 |0,O,i,h2=>by omega
 |k+1,O,i,h2=>fun s J Z j=>by
  have U:=zds (n:=b9 ((zbo s.1).1.tdiv 16)) (m:=1000) ac ac;have I:=zds (n:=(zbo s.1).1) (m:=16) ac ac;rw[zcD,rv];refine ZF V (ZG J) U.1 U.2 Z j ?_ ?_ ?_
  .unfold sR;split<;>omega
  .unfold sR;split<;>omega
  .intro a b;have hd:O<=2:=by
    unfold sR at a b;split at a<;>omega
   have e:k+1-1-1=k-1:=ac;rw[e];refine⟨ac,fun Y s M L=>StsOk.more (Du (fun s J Z i=>?_) _ ((zbo s.1).2,s.2) M L) (zdm _) rfl⟩;exact KJ V k (O+1) ac ac s J Z i
theorem KK{f:Int}{c:Sc}(Z:ScG f c){k deep:Nat}(h1:4<=deep+k)(h2:deep<=3)(i:Int){s:zbH}(m:0<=s.2)(L:s.2<=10):StsOk c (k-1) s (jl f k deep i s).1 (jl f k deep i s).2:=
 StsOk.more (Du (fun s J Y V=>KJ Z k deep h1 h2 s J Y V) _ ((zbo s.1).2,s.2) m L) (zdm _) rfl
theorem KL(L:List Int):zbY [eF L,zcE L] [102] 0=0/\zbY [eF L,zcE L] [103] 0=1:=⟨rfl,rfl⟩
theorem KM(f:Int)(l:List Int){F:Fu}(h:F.params++F.locals=zbz f):ScG f (ey (zbd l) F):=by
 refine⟨h,rfl,fun m V=>?_⟩;have i:=zQ 2 V;have g:=sE m (show(0:Int)<2 by omega);show 0<=zbY [eF (l.take 60),zcE (l.take 60)] (jF m) 0/\_;unfold jF;by_cases e:m.tmod 2=0
 .rw[aj e,e];exact⟨by rw[(KL _).1];omega,rfl⟩
 .rw[af e,show m.tmod 2=1 by omega];exact⟨by rw[(KL _).2];omega,rfl⟩
theorem z7(l:List Int):zc2 (zbd l)=0:=by
 have hl:(l.take 60).length<=60:=cc;have c0:ScG 0 (ey (zbd l) (eF (l.take 60))):=KM 0 l rfl;have c1:ScG 1 (ey (zbd l) (zcE (l.take 60))):=KM 1 l rfl;obtain⟨L,hL⟩:∃L,l.take 60=L:=⟨_,rfl⟩;rw[hL]at hl c0 c1;have K:StsOk (ey (zbd l) (eF L)) 3 ((zbo L).2,0) (j9 L).1 (j9 L).2:=KK c0 (k:=4) (deep:=0) ac ac 5 (s:=((zbo L).2,0)) aw aw;have o:ExOk 0 4 (iT L).1:=rA 0 4 1 _ ac ac;have U:=K.w;have V:StsOk (ey (zbd l) (zcE L)) 2 ((iT L).2,(j9 L).2.2) (jT L).1 (jT L).2:=KK c1 (k:=3) (deep:=1) ac ac 3 (s:=((iT L).2,(j9 L).2.2)) (by simp only at U⊢;omega) K.wb;have C:ExOk 1 4 (qp L).1:=rA 1 4 1 _ ac ac;have Z:=K.n;have Y:=V.n;have O:=V.w;have b1b:=K.wb;have b2b:=V.wb;simp only at Z Y U O;have n0:=zdm L;have zbT:(iT L).2.length<=(j9 L).2.1.length:=zcl 0 4 1 _;have p1:=zds (n:=(zbo L).1) (m:=4) ac ac;have p2:=zds (n:=b9 ((zbo L).1.tdiv 4)) (m:=4) ac ac;have hp:zbd l=⟨jU L,[eF L,zcE L]⟩:=by rw[zbd,hL]
 have zbL:=K.m 0;have m2:=V.m 0;have d1:=o.dp;have d2:=C.dp;have M:jP (zbd l)=false:=by
  rw[hp];simp only[jP,jU,List.any_cons,List.any_nil,qW,mw,eF,zcE,List.length_cons,List.length_nil,K.dp,V.dp,Bool.or_false,Bool.or_eq_false_iff,decide_eq_false_iff_not];refine⟨⟨⟨decide_eq_false ac,?_⟩,?_⟩,?_⟩<;>omega
 have J:iP (zbd l)=true:=by
  rw[hp];have q:∀s∈([[102],[103],[120],[121],[105],[106],[110],[97],[98]]:List (List UInt8)),zb6 s=true:=by
   intro s hs;simp only[List.mem_cons,List.not_mem_nil,or_false]at hs;rcases hs with rfl|rfl|rfl|rfl|rfl|rfl|rfl|rfl|rfl<;>kernel_rfl
  simp only[iP,jU,List.all_cons,List.all_nil,lH,fnNames,eF,zcE,List.cons_append,List.nil_append,K.wf,V.wf,o.wf,C.wf,Bool.and_true,Bool.and_eq_true];simp[q]
 have j:n1 (zbd l)=false:=by rw[hp];kernel_rfl
 have I:(zbd l).funcs.any (ky (zbd l))=false:=by
  have e:(zbd l).funcs=[eF L,zcE L]:=by rw[hp]
  rw[e];have zbM:dQ (ey (zbd l) (eF L)).vars (ey (zbd l) (eF L)).an (eF L).value=true:=by rw[c0.vars,c0.an];exact o.df
  have w2:dQ (ey (zbd l) (zcE L)).vars (ey (zbd l) (zcE L)).an (zcE L).value=true:=by rw[c1.vars,c1.an];exact C.df
  have z:zca (ey (zbd l) (eF L)) false (eF L).body=true:=K.df;have i:zca (ey (zbd l) (zcE L)) false (zcE L).body=true:=V.df;simp only[List.any_cons,List.any_nil,ky,zbM,w2,z,i];rfl
 have g:(zbd l).funcs.any (my (zbd l))=false:=by
  have e:(zbd l).funcs=[eF L,zcE L]:=by rw[hp]
  rw[e];have z:zca (ey (zbd l) (eF L)) true (eF L).body=true:=K.ar;have i:zca (ey (zbd l) (zcE L)) true (zcE L).body=true:=V.ar;simp only[List.any_cons,List.any_nil,my,z,i];rfl
 rw[zc2,M,J,j,I,g];rfl
def fQ(L:List Int):Prop:=∀n∈L,jG n
theorem wN{L:List Int}(h:fQ L):jG (zbo L).1/\fQ (zbo L).2:=by
 cases L with
 |nil=>exact⟨by show jG 0;unfold jG;omega,h⟩
 |cons a l=>exact⟨h a eQ,fun n hn=>h n (fH _ hn)⟩
theorem ZH(n:Int):jG (b9 n):=by
 unfold b9 jG;rw[IntKind.wrap_i64];omega
theorem ZI{n j:Int}(h:jG j):jG (ph n j):=by
 unfold ph;split
 .have e:∀k,jG (rj.getD k 0):=fun k=>by
   by_cases c:k<10
   .have:∀k:_root_.Fin 10,jG (rj.getD k.1 0):=by unfold jG;decide
    exact this ⟨k,c⟩
   .rw[eR,md (by simp[rj];omega)];show jG 0;unfold jG;omega
  exact e _
 split
 .exact ZH _
 .exact h
theorem sV:jG 0:=jE
theorem pr(f:Int):∀(k O:Nat) (L:List Int),fQ L->fE (zbe f k O L).1/\fQ (zbe f k O L).2
 |0,O,L,h=>⟨by simp[zbe,fE,eT,sV],h⟩
 |k+1,O,L,h=>by
  have ih:=pr f k (O+1);obtain⟨i,g⟩:=wN h;simp only[zbe];generalize zbD (zbo L).1 16=q;generalize zbD (b9 ((zbo L).1.tdiv 16)) 1000=m;split
  .split
   .exact⟨by simp[fE,eT,sV],g⟩
   .exact⟨by simp only[fE,eT,br];exact ZI i,g⟩
  .have a:=ih _ g;have b:=ih _ a.2;have c:=ih _ b.2;split
   .exact⟨by simp only[fE,eT,br];exact⟨sV,a.1⟩,a.2⟩
   .split
    .exact⟨by simp only[fE,eT,br];exact⟨sV,a.1,b.1,c.1⟩,c.2⟩
    .split
     .exact⟨by simp only[fE,eT,br];exact⟨sV,a.1⟩,a.2⟩
     .exact⟨by simp only[fE,eT,br];exact⟨sV,a.1,b.1⟩,b.2⟩
theorem KN(f:Int):∀(n:Nat) (L:List Int),fQ L->eT (jH f n L).1/\fQ (jH f n L).2
 |0,L,h=>⟨by simp[jH,eT],h⟩
 |n+1,L,h=>by
  have a:=pr f 3 2 L h;have b:=KN f n _ a.2;rw[jH];exact⟨by rw[eT];exact⟨a.1,b.1⟩,b.2⟩
theorem qq:fE zc5:=by simp[zc5,fE,eT,sV]
theorem ZJ{C:Int->zbH->List St×zbH}(J:∀i s,fQ s.1->fN (C i s).1/\fQ (C i s).2.1)(f:Int)(L:List Int)(c q m:Int)(h:fQ L):jC (zcG C f L c q m).1/\fQ (zcG C f L c q m).2.1:=by
 unfold zcG;split
 .have a:=pr f 5 0 L h;exact⟨Ks,a.2⟩
 split
 .have a:=pr f 3 2 L h;have b:=pr f 4 1 _ a.2;exact⟨by simp only[jC,eT,fN,br];exact⟨a.1,b.1⟩,b.2⟩
 split
 .have a:=pr f 4 1 L h;have b:=J 3 ((zbe f 4 1 L).2,c) a.2;have d:=J 2 (C 3 ((zbe f 4 1 L).2,c)).2 b.2;exact⟨by simp only[jC,eT,kK];exact⟨qq,a.1,b.1,d.1⟩,d.2⟩
 split
 .have a:=pr f 4 1 L h;have b:=J 3 ((zbe f 4 1 L).2,b9 (c+1)) a.2;exact⟨by simp only[jC,eT,fN,br,kK];exact⟨qq,a.1,b.1⟩,b.2⟩
 split
 .have a:=pr f 4 1 L h;exact⟨Ks,a.2⟩
 split
 .have a:=KN f (2-m.tmod 2).toNat L h;exact⟨by simp only[jC,fN,br];exact⟨qq,qq,a.1⟩,a.2⟩
 .exact⟨by simp only[jC,eT,fN,br];exact⟨qq,qq⟩,h⟩
theorem Dv{step:zbH->St×zbH}(J:∀s,fQ s.1->jC (step s).1/\fQ (step s).2.1):∀(n:Nat) (s:zbH),fQ s.1->fN (eO step n s).1/\fQ (eO step n s).2.1
 |0,s,h=>⟨by simp[eO,fN],h⟩
 |n+1,s,h=>by
  have a:=J s h;have b:=Dv J n _ a.2;rw[eO];split
  .exact⟨by simp[fN],h⟩
  .exact⟨by rw[fN];exact⟨a.1,b.1⟩,b.2⟩
theorem KO(f:Int):∀(k O:Nat) (s:zbH),fQ s.1->jC (zcD f k O s).1/\fQ (zcD f k O s).2.1
 |0,O,s,h=>⟨by simp only[zcD,jC,eT,fN,br];exact⟨qq,qq⟩,h⟩
 |k+1,O,s,h=>by
  have ih:=KO f k (O+1);rw[zcD,rv];exact ZJ (fun i s J=>Dv ih _ ((zbo s.1).2,s.2) (wN J).2) f _ _ _ _ (wN h).2
theorem KP(f:Int)(k deep:Nat)(i:Int)(s:zbH)(h:fQ s.1):fN (jl f k deep i s).1/\fQ (jl f k deep i s).2.1:=
 Dv (KO f k deep) _ ((zbo s.1).2,s.2) (wN h).2
theorem KQ{l:List Int}(h:fQ l):∀f∈(zbd l).funcs,fN f.body/\fE f.value:=by
 have m:fQ (l.take 60):=fun n hn=>h n (List.mem_of_mem_take hn);have K:=KP 0 4 0 5 ((zbo (l.take 60)).2,0) (wN m).2;have o:=pr 0 4 1 (j9 (l.take 60)).2.1 K.2;have V:=KP 1 3 1 3 ((iT (l.take 60)).2,(j9 (l.take 60)).2.2) o.2;have C:=pr 1 4 1 (jT (l.take 60)).2.1 V.2;intro f hf;simp only[zbd,lJ]at hf;rcases hf with rfl|rfl
 .exact⟨K.1,o.1⟩
 .exact⟨V.1,C.1⟩
theorem KR(f:Int)(i:Nat):((zbz f).getD i []).length<=1:=by
 have h:∀s∈zbz f,s.length<=1:=by
  intro s J;unfold zbz at J;split at J<;>simp only[lJ]at J
  .rcases J with rfl|rfl|rfl|rfl<;>simp
  .rcases J with rfl|rfl<;>simp
 rw[eR];cases e:(zbz f)[i]? with
 |none=>simp
 |some s=>exact h s (oF e)
theorem KS(m:Int):(qk m).length=1:=by unfold qk;split<;>rfl
theorem ZK(m:Int):(jF m).length=1:=by unfold jF;split<;>rfl
def bE:Nat->Nat
 |0=>2
 |k+1=>5+3*bE k
theorem rB(f:Int):∀(k O:Nat) (L:List Int),(zbe f k O L).1.sz<=bE k
 |0,O,L=>by simp[zbe,Ex.sz,zcf,bE]
 |k+1,O,L=>by
  have ih:=rB f k (O+1);simp only[zbe,bE];generalize zbD (zbo L).1 16=q;generalize zbD (b9 ((zbo L).1.tdiv 16)) 1000=m;split
  .split
   .have:=KR f (m.tmod (zbz f).length).toNat;simp only[Ex.sz,zcf];omega
   .simp only[Ex.sz,zcf,ed];omega
  .split
   .have:=KS m;have:=ih (zbo L).2;simp only[Ex.sz,zcf];omega
   .split
    .have:=ih (zbo L).2;have:=ih (zbe f k (O+1) (zbo L).2).2;have:=ih (zbe f k (O+1) (zbe f k (O+1) (zbo L).2).2).2;simp only[Ex.sz,zcf,ed];omega
    .split
     .have:=ih (zbo L).2;simp only[Ex.sz,zcf,ed];omega
     .have:=ih (zbo L).2;have:=ih (zbe f k (O+1) (zbo L).2).2;simp only[Ex.sz,zcf,ed];omega
theorem KT(f:Int):∀(n:Nat) (L:List Int),zcf (jH f n L).1<=200*n
 |0,_=>by simp[jH,zcf]
 |n+1,L=>by
  have:=KT f n (zbe f 3 2 L).2;have:=rB f 3 2 L;have:bE 3<=150:=aS;rw[jH,zcf];omega
theorem ZL{C:Int->zbH->List St×zbH}(J:∀i s,zbC (C i s).1<=10000*zbX (C i s).1)(f:Int)(L:List Int)(c q m:Int):(zcG C f L c q m).1.sz+1<=10000*zbT (zcG C f L c q m).1:=by
 have O:bE 5<=1200:=aS;have M:bE 4<=1200:=aS;have K:bE 3<=1200:=aS;have Z:=rB f 5 0 L;have g:=rB f 3 2 L;have Y:=rB f 4 1 L;have V:=rB f 4 1 (zbe f 3 2 L).2;have z:zc5.sz=1:=rfl;have o:=KR f (m.tmod (zbz f).length).toNat;have I:=KS m;have j:=ZK m;have r:=KT f (2-m.tmod 2).toNat L;have r2:(2-m.tmod 2).toNat<=4:=by
  have:-2<m.tmod 2:=by
   have:=sE (-m) (show(0:Int)<2 by omega);rw[Int.neg_tmod]at this;omega
  omega
 rw[zcG];split
 .simp only[St.sz,zbT,zbX,zcf,zbC,ed];omega
 split
 .simp only[St.sz,zbT,zbX,zcf,zbC,ed];omega
 split
 .have U:=J 3 ((zbe f 4 1 L).2,c);have s2:=J 2 (C 3 ((zbe f 4 1 L).2,c)).2;simp only[St.sz,zbT,zcf,ed];omega
 split
 .have U:=J 3 ((zbe f 4 1 L).2,b9 (c+1));simp only[St.sz,zbT,zbX,zcf,zbC,ed];omega
 split
 .simp only[St.sz,zbT,zbX,zcf,zbC,ed];omega
 split
 .simp only[St.sz,zbT,zbX,zbC];omega
 .simp only[St.sz,zbT,zbX,zcf,zbC,ed];omega
theorem Dw{step:zbH->St×zbH}(h:∀s,(step s).1.sz+1<=10000*zbT (step s).1):∀(n:Nat) (s:zbH),zbC (eO step n s).1<=10000*zbX (eO step n s).1
 |0,s=>by simp[eO,zbC,zbX]
 |n+1,s=>by
  rw[eO];split
  .simp[zbC,zbX]
  .have:=h s;have:=Dw h n (step s).2;simp only[zbC,zbX];omega
theorem KU(f:Int):∀(k O:Nat) (s:zbH),(zcD f k O s).1.sz+1<=10000*zbT (zcD f k O s).1
 |0,O,s=>by
  have z:zc5.sz=1:=rfl;simp only[zcD,St.sz,zbT,zbX,zcf,zbC,ed];omega
 |k+1,O,s=>by
  rw[zcD,rv];exact ZL (fun i s=>Dw (KU f k (O+1)) _ _) f _ _ _ _
theorem KV(f:Int)(k deep:Nat)(i:Int)(s:zbH):zbC (jl f k deep i s).1<=10000*zbX (jl f k deep i s).1:=Dw (KU f k deep) _ _
theorem Dx(l:List Int):(zbd l).sz<2^24:=by
 have o:jP (zbd l)=false:=by
  have h:=z7 l;rw[zc2]at h;cases e:jP (zbd l)with
  |false=>rfl
  |true=>rw[aj e]at h;omega
 have K:=KV 0 4 0 5 ((zbo (l.take 60)).2,0);have V:=KV 1 3 1 3 ((iT (l.take 60)).2,(j9 (l.take 60)).2.2);have Z:(iT (l.take 60)).1.sz<=bE 4:=rB 0 4 1 _;have C:(qp (l.take 60)).1.sz<=bE 4:=rB 1 4 1 _;have Y:bE 4<=1200:=aS;rw[zbd]at o⊢;generalize l.take 60=L at *;change zbC (j9 L).1<=10000*zbX (j9 L).1 at K;change zbC (jT L).1<=10000*zbX (jT L).1 at V;simp only[jP,pY,List.any_nil,kS,iC,mw,eF,zcE,kR]at o;obtain⟨_,i,g⟩:=o;have zbT:¬(200:Int)<zbX (j9 L).1:=i.1.1.1.1.2;have J:¬(200:Int)<zbX (jT L).1:=g.1.1.1.1.2;simp only[Pr.sz,zcU,fV,jU,eF,zcE,Fu.sz,zco,cS,ed];omega
end Go.Proofs.Ytpbcimfiofmoeaa
