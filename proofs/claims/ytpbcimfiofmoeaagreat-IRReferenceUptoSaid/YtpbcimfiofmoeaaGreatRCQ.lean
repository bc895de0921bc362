/- Parts: QaK, G5a, G5b, G5, G6. -/
import Derived.Test.YtpbcimfiofmoeaaGreatRCP
set_option linter.unusedSimpArgs false
set_option linter.unusedVariables false
set_option linter.unusedSectionVars false
set_option linter.defProp false
set_option maxHeartbeats 32000000
namespace Go.Ab
set_option maxRecDepth 20000
open Go
theorem Na{P:Prop}(h:P:=by simp only[List.all_cons,List.all_nil,w0,zfp,w2,w3,w4,Bool.and_true];rfl):P:=h
theorem wt{P:Prop}(h:P:=by rw[<- hHa];rfl):P:=h
theorem wu{P:Prop}(h:P:=by rw[<- hHa,Hp.get_set,if_pos rfl]):P:=h
theorem Nb{P:Prop}(h:P:=by simp only[zec,zeb,and_true,zdX,zd2,Nat.reduceBEq,Nat.reduceAdd,Nat.reduceLeDiff,tyF,g60, *]):P:=h
theorem Nc{P:Prop}(h:P:=by first|(simp only[zdX,Nat.reduceBEq,hqe, *];done)|rfl):P:=h
theorem kB{P:Prop}(h:P:=by (try simp only[zea,zef]);omega):P:=h
theorem mp{P:Prop}(h:P:=by first|rfl|((try simp only[zea,zef]);omega)):P:=h
theorem BT{P:Prop}(h:P:=by rw[<- hHa,Hp.get_set,if_neg hq]):P:=h
theorem ww{P:Prop}(h:P:=by simp[sN]):P:=h
theorem Nf{P:Prop}(h:P:=by rw[<- hHa,Hp.get_set,if_neg ac,zd1,if_neg ac]):P:=h
theorem BU{P:Prop}(h:P:=by rw[Hp.get_set,if_neg ac,Hp.get_set,if_neg ac]):P:=h
theorem Ng{P:Prop}(h:P:=by rw[gz _ ac,oHd _ ac,oH8 _ ac ac,oHc _ ac,oH7 _ ac ac,oHb _ ac,oH6 _ ac ac,oHa _ ac]):P:=h
theorem Nh{P:Prop}(h:P:=by rw[gz _ ac,oHd _ ac,oH8 _ ac ac,oHc _ ac,oH7 _ ac ac,oHb _ ac]):P:=h
theorem Nk{P:Prop}(h:P:=by rw[gz _ ac,oHd _ ac,oH8 _ ac ac,oHc _ ac]):P:=h
def ee:=@Option.bind_some
end Go.Ab
namespace Go.Proofs.YtpbcimfiofmoeaaGreat
set_option maxRecDepth 20000
open Go Go.Ab
section
abbrev Qx.nx(X:Qx)(nv:AV)(ns:List zeP):Qx:={X with nv:=nv,ns:=ns}
structure FrM (b:Nat) (zeo:Hp) (S:Nat->Prop) (vv nv:AV) (H:Hp):Prop where
 next:zeo.next<=H.next
 get:∀k,k<zeo.next->k≠b->H.get k=zeo.get k
 sub:∀k,S k->zeo.next<=k
 own:∀k,zd3 vv k->zeo.next<=k
 nwn:∀k,zd3 nv k->zeo.next<=k
theorem FrM.fr{X:Qx}{zeo H H':Hp}{S S':Nat->Prop}{vv vv':AV}(h:FrM X.b zeo S vv X.nv H)(f:FrQ X S vv H S' vv' H'):FrM X.b zeo S' vv' X.nv H' where
 next:=dr h.next f.next
 get k h1 h2:=by
  rw[f.get k (qE h1 h.next) h2 (fun e=>by have:=h.sub k e;omega) (fun e=>by have:=h.own k e;omega)];exact h.get k h1 h2
 sub k e:=by
  rcases f.sub k e with e|e
  .exact h.sub k e
  .exact dr h.next e
 own k e:=by
  rcases f.own k e with e|e
  .exact h.own k e
  .exact dr h.next e
 nwn:=h.nwn
def uG:=@FrM.fr
theorem RepQ.pushNm{X:Qx}{H:Hp}{S:Nat->Prop}{s:Bd}{lv vv:AV}(h:RepQ X H S s lv vv)(nm:zeP)(hl:X.ns.length<2^36):
 ∃v' H',zeZ Tryz.prog false (H.alloc (.cells [.str nm] 0 true)) 59 59 X.nv (.sl H.next 0 1 1)=some (v',H')/\AV.one v'=true/\v'.cells=[v']/\H'.get X.b=some (.cells (zek X s lv vv) 0 true)/\H.next+1<=H'.next/\(∀k,k<H.next->¬zd3 X.nv k->H'.get k=H.get k)/\H'.get H.next=some (.cells [.str nm] 0 true) /\
  RepQ (X.nx v' (X.ns++[nm])) (H'.set X.b (.cells (zek (X.nx v' (X.ns++[nm])) s lv vv) 0 true)) S s lv vv/\(∀k,zd3 v' k->zd3 X.nv k\/H.next<=k):=by
 have o5:=h.o5;have hb:∀k,k<H.next->(H.alloc (.cells [.str nm] 0 true)).get k=H.get k:=fun k hk=>ez
 have hv:eg (H.alloc (.cells [.str nm] 0 true)) X.nv X.ns 0:=h.nm.keep (cZ _) fun k hk=>hb k (h.nS k hk).2.1;obtain⟨v',H',a1,a2,a3,a4,a5⟩:=xP (r:=H.next) (imm:=0) nm hv (dE _) eR ac;simp only[zea]at a3;have hold:∀k,k<H.next->¬zd3 X.nv k->H'.get k=H.get k:=fun k h1 h2=>by rw[a5.1 k fx h2,hb k h1]
 have hown:∀k,zd3 v' k->zd3 X.nv k\/H.next<=k:=fun k hk=>by
  rcases a5.2 k hk with e|e
  .exact .inl e
  .exact .inr (by simp only[zea]at e;omega)
 have hnb:¬zd3 X.nv X.b:=fun e=>by have:=(h.nS _ e).1;omega
 have hnew:H'.get H.next=some (.cells [.str nm] 0 true):=by rw[a5.1 _ fx fun e=>by have:=(h.nS _ e).2.1;omega,zd1,aE rfl]
 have hg:∀k,k≠X.b->(H'.set X.b (.cells (zek (X.nx v' (X.ns++[nm])) s lv vv) 0 true)).get k=H'.get k:=fun k hk=>jg;obtain⟨ho1,ho2⟩:=a2.one;have hlt:∀k,zd3 v' k->k<H'.next:=fun k hk=>(a2.lt hk).2
 have hn:H.next+1<=H'.next:=ac
 refine⟨v',H',a1,ho1,ho2,by rw[hold _ o5 hnb];exact h.m,hn,hold,hnew,⟨ft,?_,h.nodes.keep (fun _ _ h=>h) dQ fun k hk h6=>by rw[hg k (by have:=(h.sS k hk).1;omega),hold k h6 fun e=>(h.nS k e).2.2.1 hk],h.vars.keep dQ fun k hk=>by rw[hg k (by have:=(h.vS k hk).1;omega),hold k (h.vS k hk).2 fun e=>(h.nS k e).2.2.2 hk],by simp only[zef];show X.b<H'.next;omega,fun k hk=>?_,fun k hk=>?_,fun k hk=>?_⟩,hown⟩
 .have a2':eg H' v' (X.ns++[nm]) 0:=.inr a2;refine a2'.keep (aM _) fun k hk=>hg k fun e=>?_;rcases hown k hk with q|q
  .have:=(h.nS k q).1;omega
  .omega
 .have h1:=hlt k hk;rcases hown k hk with q|q
  .have:=h.nS k q;exact⟨this.1,by simp only[zef];exact h1,this.2.2⟩
  .have:=h.new q;exact⟨this.2.2,by simp only[zef];exact h1,this.1,this.2.1⟩
 .have:=h.sS k hk;exact⟨this.1,dQ,this.2.2⟩
 .have:=h.vS k hk;exact⟨this.1,dQ⟩
theorem RepQ.pushV{X:Qx}{H:Hp}{S:Nat->Prop}{s:Bd}{lv vv:AV}(h:RepQ X H S s lv vv)(x:Int)(hl:s.vars.length<2^36):
 ∃v' H',zeZ Tryz.prog false (H.alloc (.cells [.int .i64 x] 0 true)) 23 23 vv (.sl H.next 0 1 1)=some (v',H')/\AV.one v'=true/\v'.cells=[v']/\H'.get X.b=some (.cells (zek X s lv vv) 0 true)/\H'.next=H.next+2/\(∀k,k<H.next->¬zd3 vv k->H'.get k=H.get k) /\
  RepQ X (H'.set X.b (.cells (zek X {s with vars:=s.vars++[x] } lv v') 0 true)) S {s with vars:=s.vars++[x] } lv v' /\
  FrQ X S vv H S v' (H'.set X.b (.cells (zek X {s with vars:=s.vars++[x] } lv v') 0 true)):=by
 have o5:=h.o5;have hv:gQ (H.alloc (.cells [.int .i64 x] 0 true)) vv s.vars 0:=h.vars.keep (cZ _) fun k hk=>by rw[zd1,ah (by have:=(h.vS k hk).2;omega)]
 have hx:zfz (H.alloc (.cells [.int .i64 x] 0 true)) 1 (.sl H.next 0 1 1)=some ([x].length,[x].map (.int .i64)):=sq (m:=[x]) (imm:=0) ev;obtain⟨v',H',a1,a2,a3,a4,a5,a6⟩:=At hv (dE _) hx aK cT;simp only[zea]at a3 a5 a6;have hold:∀k,k<H.next->¬zd3 vv k->H'.get k=H.get k:=fun k h1 h2=>by rw[a5 k ac h2,zd1,ah ac]
 have hnb:¬zd3 vv X.b:=fun e=>by have:=(h.vS _ e).1;omega
 have hone:=gQ.one (.inr a2);have hg:∀k,k≠X.b->(H'.set X.b (.cells (zek X {s with vars:=s.vars++[x] } lv v') 0 true)).get k=H'.get k:=fun k hk=>jg;refine⟨v',H',a1,hone.1,hone.2,by rw[hold _ o5 hnb];exact h.m,ac,hold,⟨ft,h.nm.keep dQ fun k hk=>by rw[hg k (by have:=(h.nS k hk).1;omega),hold k (h.nS k hk).2.1 (h.nS k hk).2.2.2],h.nodes.keep (fun _ _ h=>h) dQ fun k hk h6=>by rw[hg k (by have:=(h.sS k hk).1;omega),hold k h6 (h.sS k hk).2.2],?_,dQ,fun k hk=>⟨(h.nS k hk).1,by have:=(h.nS k hk).2.1;simp only[zef];omega,(h.nS k hk).2.2.1,fun e=>?_⟩,fun k hk=>⟨(h.sS k hk).1,by have:=(h.sS k hk).2.1;simp only[zef];omega,fun e=>?_⟩,fun k hk=>?_⟩,⟨dQ,fun k h1 h2 _ h5=>by rw[hg k h2,hold k h1 h5],fun _ h=>.inl h,fun k hk=>?_⟩⟩
 .have a2':gQ H' v' (s.vars++[x]) 0:=.inr a2;exact a2'.keep (aM _) fun k hk=>hg k fun e=>by
   rcases a6 k hk with q|q
   .have:=(h.vS k q).1;omega
   .omega
 .rcases a6 k e with q|q
  .exact(h.nS k hk).2.2.2 q
  .have:=(h.nS k hk).2.1;omega
 .rcases a6 k e with q|q
  .exact(h.sS k hk).2.2 q
  .have:=(h.sS k hk).2.1;omega
 .have hlt:k<H'.next:=(gQ.lt (.inr a2) hk).2
  rcases a6 k hk with q|q
  .exact⟨(h.vS k q).1,hlt⟩
  .exact⟨ac,hlt⟩
 .rcases a6 k hk with q|q
  .exact .inl q
  .exact .inr ac
theorem ztt(H:Hp)(l:List Ar)(hl:l.length<2^36):∃av H',zeZ Tryz.prog false (H.alloc (.cells [] 0 true)) 24 24 (.sl H.next 0 0 2) (.lst (l.map Ar.cells))=some (av,H')/\ze4 (fun k=>H.next<=k) 1 H' 2 av (l.map Ar.cells)/\H.next+1<=H'.next/\(∀k,k<H.next->H'.get k=H.get k):=by
 have hz:∀x∈l.map Ar.cells,x.length=2:=fun x hx=>by obtain⟨a,_,rfl⟩:=l0.1 hx;exact a.clen
 have hx:=LH (H:=H.alloc (.cells [] 0 true)) hz;rw[dy]at hx;have hb:∀k,k<H.next->(H.alloc (.cells [] 0 true)).get k=H.get k:=fun k hk=>ez
 have hg:(H.alloc (.cells [] 0 true)).get H.next=some (.cells [] 0 true):=eR
 by_cases c:l=[]
 .subst c;refine⟨.sl H.next 0 0 2,_,?_,.inr ⟨H.next,0,[],rfl,aM _,cL _,hg,aM _,trivial⟩,aM _,hb⟩;simp only[zeZ,Tryz.underlying24,z5,DF,DG,show zfT Tryz.prog 24=true by kernel_rfl,fV,hx]
 .obtain⟨m,hm⟩:∃m,l.length=m+1:=⟨l.length-1,by have:=yk.2 c;omega⟩;rw[hm]at hx;have htr:gW false (H.alloc (.cells [] 0 true)) 2 (.sl H.next 0 0 2)=H.alloc (.cells [] 0 true):=by
   unfold gW;simp[hg];rfl
  refine⟨.sl (H.next+1) 0 (m+1) 2,((H.alloc (.cells [] 0 true)).kill H.next).alloc (.cells (l.map Ar.cells).flatten 0 true),?_,.inr ⟨H.next+1,0,l.map Ar.cells,by rw[dy,hm],cZ _,cL _,?_,dE _,LJ l⟩,cZ _,fun k hk=>?_⟩
  .have hao:=LK l;simp only[zeZ,Tryz.underlying24,z5,DF,DG,show zfT Tryz.prog 24=true by kernel_rfl,hx,hao,htr,oR,bN,mF,ja,hg,bT,gD,rV];rw[aE ⟨by rw[show zfw=70368744177664 from rfl];omega,by rw[show zfw=70368744177664 from rfl];omega,by trivial,by trivial,ac⟩];simp
  .show((Hp.kill _ H.next).alloc _).get (H.next+1)=_;rw[zd1,aE ei]
  .rw[zd1,ah (by simp only[zgy,zea];omega),zfU,ah ac,hb k hk]
def tyG5a.tyF:=ad @dC (ad @eU (ad @en (ad @iy (ad @hO (ad @gg (ad @fW (ad @tO (ad @iz (ad @rZ (ad @MQ (ad @rI (ad @yh (ad @kb1 (ad @kb2 (@MP)))))))))))))))
open tyG5a
set_option maxRecDepth 100000 in
theorem zmV{lG:List En}(hG:GenL lG){k:Nat}{f:Int}{deep lo:Nat}{H H2:Hp}{r:Nat}{L1:List Int}{c q m:Int}{E2:aG}(hst:deep<=2->oE lG k f (deep+1))(hat:AtT f deep lo H H2 r L1 c q m E2) (hp0:q<6):zex Tryz.prog (zdW pls lG) 84 156 mn E2 H2 (mo k f deep lo H r L1 c q m):=by
 obtain⟨hd,hrl,hlo,n2,g2,o2',hr2,hL1,hm,hqd,k0,k1,k2,k6,k8,k9,k10⟩:=hat;have hkeep:(zdW pls lG).keep 84=false:=rfl;have hq2:(2:Int)≠0:=aY;have hlen0:((zeD f).length:Int)≠0:=by rcases rv f with h|h<;>rw[h]<;>decide
 obtain⟨hi0,hix⟩:=qp (zeD f) hlen0 hm.1 [];have hxs:=rG hm.1;have hxa:=rH hm.1;have hxf:=sV hm.1;have er:(H.next == r)=false:=zeq ac;have e41:=zfr f 4 1 L1;have e50:=zfr f 5 0 L1;have e32:=zfr f 3 2 L1;have hwd:IntKind.wrap .i64 ((deep:Int)+1)=((deep+1:Nat):Int):=pW ac;unfold mo;generalize hR:jH (qr f k deep) f L1 c q m=R;rw[jH]at hR;dsimp only[mn,nh,qq];repeat' (first
  |(apply au ?_;clear hK K)|apply Ry.o ?_|(apply aV (fun hb hbp=>?_) (fun hb hbp=>?_)<;>try(cases hb;done))|apply am ?_|(apply zdQ fun K hK=>?_)|(apply zdP 8 [(3,9),(3,11),(6,9),(6,11)] fun K hK=>?_)|(apply zdP 10 [(0,7),(0,10),(0,12),(4,7),(4,10),(4,12)] fun K hK=>?_)|(apply zdP 24 [(3,14),(6,14),(7,14),(11,14),(13,14)] fun K hK=>?_)|(apply zdP 28 [(1,4),(1,6),(5,6)] fun K hK=>?_)|(apply zdU ?_;try intro _)|(apply zdV ?_ ?_<;>clear hK K)|apply aH ?_|apply zd9 rfl ?_|apply aA ?_|apply aB ?_)
 refine bA rfl bE bF ?_;simp only[bB];refine bp ?_ (zgj hG 5 f 0 ac ac lo _ r L1 c hr2 ac);rintro v H4 ⟨⟨cs,rfl,hc1,hc2,hc3⟩,hr4,n4,o4⟩;obtain⟨v0,v1,v2,v3,v4,rfl⟩:=jE hc1;obtain⟨w0,zfp,w2,w3,w4⟩:=sW hc2;have g4:H4.get H.next=some (.cells [.int .i64 0,.str [],.str [],.int .i64 0,.int .i64 0,.int .i64 0,.str [],.int .i64 0,.nilS,.int .i64 0,.int .i64 0,.str [],.int .i64 0,.nilS,.nilS,.nilS,.nilS] 0 true):=by rw[o4 _ ac ac];exact g2
 dsimp only[zd4];repeat' (first
  |(apply au ?_;clear hK K)|apply Rx.o ?_|apply ba ?_|apply am ?_|(apply zdQ fun K hK=>?_)|(apply zdP 8 [(3,9),(3,11),(6,9),(6,11)] fun K hK=>?_)|(apply zdP 10 [(0,7),(0,10),(0,12),(4,7),(4,10),(4,12)] fun K hK=>?_)|(apply zdP 24 [(3,14),(6,14),(7,14),(11,14),(13,14)] fun K hK=>?_)|(apply zdP 28 [(1,4),(1,6),(5,6)] fun K hK=>?_)|(apply zdU ?_;try intro _)|(apply zdV ?_ ?_<;>clear hK K)|apply aH ?_|apply zd9 rfl ?_|apply aA ?_|apply aB ?_)
 .exact eK
 .refine⟨zdZ,_,(by(try simp only[zdX,zd2,Nat.reduceBEq,Nat.reduceAdd,Nat.reduceLeDiff,tyF,zfD,zfI,rI, *]);first|done|with_reducible rfl),?_⟩;try simp only[zdY]
  rw[aE ac]at hR;subst hR;refine uF rfl Na (uD (n:=8+k) 1 _ [] 0 sU ((hc3.up ac).keep2 (fun q _ hq=>ac) dQ fun q h1 h2=>iA) .nilS .nilS .nilS) ?_ ?_ ?_
  .exact hr4.keep dQ fun q hq=>iA
  .simp only[zef];omega
  .intro q h1 h2;rw[bz,ah ac,o4 _ ac h2];exact o2' q h1 h2
set_option maxRecDepth 100000 in
theorem zoz{lG:List En}(hG:GenL lG){k:Nat}{f:Int}{deep lo:Nat}{H H2:Hp}{r:Nat}{L1:List Int}{c q m:Int}{E2:aG}(hst:deep<=2->oE lG k f (deep+1))(hat:AtT f deep lo H H2 r L1 c q m E2)(hn0:¬q<6)(hp0:q<8):zex Tryz.prog (zdW pls lG) 84 156 mn E2 H2 (mo k f deep lo H r L1 c q m):=by
 obtain⟨hd,hrl,hlo,n2,g2,o2',hr2,hL1,hm,hqd,k0,k1,k2,k6,k8,k9,k10⟩:=hat;have hkeep:(zdW pls lG).keep 84=false:=rfl;have hq2:(2:Int)≠0:=aY;have hlen0:((zeD f).length:Int)≠0:=by rcases rv f with h|h<;>rw[h]<;>decide
 obtain⟨hi0,hix⟩:=qp (zeD f) hlen0 hm.1 [];have hxs:=rG hm.1;have hxa:=rH hm.1;have hxf:=sV hm.1;have er:(H.next == r)=false:=zeq ac;have e41:=zfr f 4 1 L1;have e50:=zfr f 5 0 L1;have e32:=zfr f 3 2 L1;have hwd:IntKind.wrap .i64 ((deep:Int)+1)=((deep+1:Nat):Int):=pW ac;unfold mo;generalize hR:jH (qr f k deep) f L1 c q m=R;rw[jH]at hR;dsimp only[mn,nh,qq];repeat' (first
  |(apply au ?_;clear hK K)|apply Ry.o ?_|(apply aV (fun hb hbp=>?_) (fun hb hbp=>?_)<;>try(cases hb;done))|apply am ?_|(apply zdQ fun K hK=>?_)|(apply zdP 8 [(3,9),(3,11),(6,9),(6,11)] fun K hK=>?_)|(apply zdP 10 [(0,7),(0,10),(0,12),(4,7),(4,10),(4,12)] fun K hK=>?_)|(apply zdP 24 [(3,14),(6,14),(7,14),(11,14),(13,14)] fun K hK=>?_)|(apply zdP 28 [(1,4),(1,6),(5,6)] fun K hK=>?_)|(apply zdU ?_;try intro _)|(apply zdV ?_ ?_<;>clear hK K)|apply aH ?_|apply zd9 rfl ?_|apply aA ?_|apply aB ?_)
 refine bA rfl bE bF ?_;simp only[bB];refine bp ?_ (zgj hG 3 f 2 ac ac lo _ r L1 c (hr2.keep (cZ _) fun q hq=>ez) ac);rintro v H4 ⟨⟨al,rfl,ha1,ha2,ha3⟩,hr4,n4,o4⟩;simp only[zea]at n4 o4 ha3;obtain⟨a0,a1,a2,a3,a4,rfl⟩:=jE ha1;obtain⟨u0,u1,u2,u3,u4⟩:=sW ha2;have g4s:H4.get (H.next+1)=some (.cells [.str [97],.str [98]] 0 true):=FO;dsimp only[zd4];repeat' (first
  |(apply au ?_;clear hK K)|apply Rx.o ?_|apply ba ?_|apply am ?_|(apply zdQ fun K hK=>?_)|(apply zdP 8 [(3,9),(3,11),(6,9),(6,11)] fun K hK=>?_)|(apply zdP 10 [(0,7),(0,10),(0,12),(4,7),(4,10),(4,12)] fun K hK=>?_)|(apply zdP 24 [(3,14),(6,14),(7,14),(11,14),(13,14)] fun K hK=>?_)|(apply zdP 28 [(1,4),(1,6),(5,6)] fun K hK=>?_)|(apply zdU ?_;try intro _)|(apply zdV ?_ ?_<;>clear hK K)|apply aH ?_|apply zd9 rfl ?_|apply aA ?_|apply aB ?_)
 refine bA rfl bE bF ?_;simp only[bB];refine bp ?_ (zgj hG 4 f 1 ac ac lo H4 r _ c hr4 ac);rintro v H5 ⟨⟨cs,rfl,hc1,hc2,hc3⟩,hr5,n5,o5⟩;obtain⟨v0,v1,v2,v3,v4,rfl⟩:=jE hc1;obtain⟨w0,zfp,w2,w3,w4⟩:=sW hc2;have g5s:H5.get (H.next+1)=some (.cells [.str [97],.str [98]] 0 true):=by rw[o5 _ ac ac];exact g4s
 have g5:H5.get H.next=some (.cells [.int .i64 0,.str [],.str [],.int .i64 0,.int .i64 0,.int .i64 0,.str [],.int .i64 0,.nilS,.int .i64 0,.int .i64 0,.str [],.int .i64 0,.nilS,.nilS,.nilS,.nilS] 0 true):=by rw[o5 _ ac ac,o4 _ ac ac,zd1,ah ac];exact g2
 dsimp only[zd4];repeat' (first
  |(apply au ?_;clear hK K)|apply Rx.o ?_|apply ba ?_|apply am ?_|(apply zdQ fun K hK=>?_)|(apply zdP 8 [(3,9),(3,11),(6,9),(6,11)] fun K hK=>?_)|(apply zdP 10 [(0,7),(0,10),(0,12),(4,7),(4,10),(4,12)] fun K hK=>?_)|(apply zdP 24 [(3,14),(6,14),(7,14),(11,14),(13,14)] fun K hK=>?_)|(apply zdP 28 [(1,4),(1,6),(5,6)] fun K hK=>?_)|(apply zdU ?_;try intro _)|(apply zdV ?_ ?_<;>clear hK K)|apply aH ?_|apply zd9 rfl ?_|apply aA ?_|apply aB ?_)
 .exact eK
 .refine⟨zdZ,_,(by(try simp only[zdX,zd2,Nat.reduceBEq,Nat.reduceAdd,Nat.reduceLeDiff,tyF,zfD,zfI,rI, *]);first|done|with_reducible rfl),?_⟩;try simp only[zdY]
  rw[ah ac,aE ac]at hR;subst hR;refine uF rfl (by simp only[sF,nT,u0,u1,u2,u3,u4,w0,zfp,w2,w3,w4,l5];rfl) (uD (n:=8+k) 2 _ [] 0 ((ha3.up ac).keep2 (fun q _ hq=>ac) dQ fun q h1 h2=>by rw[bz,ah ac,o5 _ ac ac]) ((hc3.up ac).keep2 (fun q _ hq=>ac) dQ fun q h1 h2=>iA) .nilS .nilS .nilS) ?_ ?_ ?_
  .exact hr5.keep dQ fun q hq=>iA
  .simp only[zef];omega
  .intro q h1 h2;rw[bz,ah ac,o5 _ ac h2,o4 _ ac h2,zd1,ah ac];exact o2' q h1 h2
set_option maxRecDepth 100000 in
theorem ztu{lG:List En}(hG:GenL lG){k:Nat}{f:Int}{deep lo:Nat}{H H2:Hp}{r:Nat}{L1:List Int}{c q m:Int}{E2:aG}(hst:deep<=2->oE lG k f (deep+1))(hat:AtT f deep lo H H2 r L1 c q m E2)(hn0:¬q<6)(hn1:¬q<8)(hn2:¬q<10)(hn3:¬q<12)(hp0:q<14):zex Tryz.prog (zdW pls lG) 84 156 mn E2 H2 (mo k f deep lo H r L1 c q m):=by
 obtain⟨hd,hrl,hlo,n2,g2,o2',hr2,hL1,hm,hqd,k0,k1,k2,k6,k8,k9,k10⟩:=hat;have hkeep:(zdW pls lG).keep 84=false:=rfl;have hq2:(2:Int)≠0:=aY;have hlen0:((zeD f).length:Int)≠0:=by rcases rv f with h|h<;>rw[h]<;>decide
 obtain⟨hi0,hix⟩:=qp (zeD f) hlen0 hm.1 [];have hxs:=rG hm.1;have hxa:=rH hm.1;have hxf:=sV hm.1;have er:(H.next == r)=false:=zeq ac;have e41:=zfr f 4 1 L1;have e50:=zfr f 5 0 L1;have e32:=zfr f 3 2 L1;have hwd:IntKind.wrap .i64 ((deep:Int)+1)=((deep+1:Nat):Int):=pW ac;unfold mo;generalize hR:jH (qr f k deep) f L1 c q m=R;rw[jH]at hR;dsimp only[mn,nh,qq];repeat' (first
  |(apply au ?_;clear hK K)|apply Ry.o ?_|(apply aV (fun hb hbp=>?_) (fun hb hbp=>?_)<;>try(cases hb;done))|apply am ?_|(apply zdQ fun K hK=>?_)|apply aA ?_|apply aB ?_)
 refine bA rfl bE bF ?_;simp only[bB];refine bp ?_ (zgj hG 4 f 1 ac ac lo _ r L1 c hr2 ac);rintro v H4 ⟨⟨cs,rfl,hc1,hc2,hc3⟩,hr4,n4,o4⟩;obtain⟨v0,v1,v2,v3,v4,rfl⟩:=jE hc1;obtain⟨w0,zfp,w2,w3,w4⟩:=sW hc2;have g4:H4.get H.next=some (.cells [.int .i64 0,.str [],.str [],.int .i64 0,.int .i64 0,.int .i64 0,.str [],.int .i64 0,.nilS,.int .i64 0,.int .i64 0,.str [],.int .i64 0,.nilS,.nilS,.nilS,.nilS] 0 true):=by rw[o4 _ ac ac];exact g2
 dsimp only[zd4];repeat' (first
  |(apply au ?_;clear hK K)|apply Rx.o ?_|apply ba ?_|apply am ?_|(apply zdQ fun K hK=>?_)|apply aA ?_|apply aB ?_)
 refine⟨zdZ,_,(by(try simp only[zdX,zd2,Nat.reduceBEq,Nat.reduceAdd,Nat.reduceLeDiff,tyF,zfD,zfI,rI, *]);first|done|with_reducible rfl),?_⟩;try simp only[zdY]
 rw[ah ac,ah ac,ah ac,ah ac,aE ac]at hR;subst hR;refine uF rfl Na (uD (n:=8+k) 5 [] [] 0 sU ((hc3.up ac).keep2 (fun q _ hq=>ac) dQ fun q h1 h2=>iA) .nilS .nilS .nilS) ?_ ?_ ?_
 .exact hr4.keep dQ fun q hq=>iA
 .simp only[zef];omega
 .intro q h1 h2;rw[bz,ah ac,o4 _ ac h2];exact o2' q h1 h2
set_option maxRecDepth 100000 in
theorem zqS{lG:List En}(hG:GenL lG){k:Nat}{f:Int}{deep lo:Nat}{H H2:Hp}{r:Nat}{L1:List Int}{c q m:Int}{E2:aG}(hst:deep<=2->oE lG k f (deep+1))(hat:AtT f deep lo H H2 r L1 c q m E2)(hn0:¬q<6)(hn1:¬q<8)(hn2:¬q<10)(hn3:¬q<12)(hn4:¬q<14)(hn5:¬q<15) : zex Tryz.prog (zdW pls lG) 84 156 mn E2 H2 (mo k f deep lo H r L1 c q m):=by
 obtain⟨hd,hrl,hlo,n2,g2,o2',hr2,hL1,hm,hqd,k0,k1,k2,k6,k8,k9,k10⟩:=hat;have hkeep:(zdW pls lG).keep 84=false:=rfl;have hq2:(2:Int)≠0:=aY;have hlen0:((zeD f).length:Int)≠0:=by rcases rv f with h|h<;>rw[h]<;>decide
 obtain⟨hi0,hix⟩:=qp (zeD f) hlen0 hm.1 [];have hxs:=rG hm.1;have hxa:=rH hm.1;have hxf:=sV hm.1;have er:(H.next == r)=false:=zeq ac;have e41:=zfr f 4 1 L1;have e50:=zfr f 5 0 L1;have e32:=zfr f 3 2 L1;have hwd:IntKind.wrap .i64 ((deep:Int)+1)=((deep+1:Nat):Int):=pW ac;unfold mo;generalize hR:jH (qr f k deep) f L1 c q m=R;rw[jH]at hR;dsimp only[mn,nh,qq];repeat' (first
  |(apply au ?_;clear hK K)|apply Ry.o ?_|apply cD ?_|(apply aV (fun hb hbp=>?_) (fun hb hbp=>?_)<;>try(cases hb;done))|apply am ?_|(apply zdQ fun K hK=>?_)|apply aA ?_|apply zdR ?_|apply aB ?_)
 refine⟨zdZ,_,(by(try simp only[zdX,zd2,Nat.reduceBEq,Nat.reduceAdd,Nat.reduceLeDiff,tyF,zfD,zfI,rI, *]);first|done|with_reducible rfl),?_⟩;try simp only[zdY]
 rw[ah ac,ah ac,ah ac,ah ac,ah ac,ah ac]at hR;subst hR;refine uF rfl rfl (uD (n:=8+k) 7 [] [] _ sU sU .nilS .nilS .nilS) ?_ ?_ ?_
 .exact hr2.keep dQ fun q hq=>iA
 .simp only[zef];omega
 .intro q h1 h2;rw[bz,ah ac];exact o2' q h1 h2
end
section
def tyG5b.tyF:=ad @dC (ad @eU (ad @en (ad @iy (ad @hO (ad @gg (ad @fW (ad @tO (ad @iz (ad @rZ (ad @MQ (ad @rI (ad @yh (ad @MP (ad @MR (@kb6)))))))))))))))
open tyG5b
set_option maxRecDepth 100000 in
theorem zxt{lG:List En}(hG:GenL lG){k:Nat}{f:Int}{deep lo:Nat}{H H2:Hp}{r:Nat}{L1:List Int}{c q m:Int}{E2:aG}(hst:deep<=2->oE lG k f (deep+1))(hat:AtT f deep lo H H2 r L1 c q m E2)(hn0:¬q<6)(hn1:¬q<8)(hp0:q<10):zex Tryz.prog (zdW pls lG) 84 156 mn E2 H2 (mo k f deep lo H r L1 c q m):=by
 obtain⟨hd,hrl,hlo,n2,g2,o2',hr2,hL1,hm,hqd,k0,k1,k2,k6,k8,k9,k10⟩:=hat;have hkeep:(zdW pls lG).keep 84=false:=rfl;have hq2:(2:Int)≠0:=aY;have hlen0:((zeD f).length:Int)≠0:=by rcases rv f with h|h<;>rw[h]<;>decide
 obtain⟨hi0,hix⟩:=qp (zeD f) hlen0 hm.1 [];have hxs:=rG hm.1;have hxa:=rH hm.1;have hxf:=sV hm.1;have er:(H.next == r)=false:=zeq ac;have e41:=zfr f 4 1 L1;have e50:=zfr f 5 0 L1;have e32:=zfr f 3 2 L1;have hwd:IntKind.wrap .i64 ((deep:Int)+1)=((deep+1:Nat):Int):=pW ac;unfold mo;generalize hR:jH (qr f k deep) f L1 c q m=R;rw[jH]at hR;dsimp only[mn,nh,qq];repeat' (first
  |(apply au ?_;clear hK K)|apply Ry.o ?_|(apply aV (fun hb hbp=>?_) (fun hb hbp=>?_)<;>try(cases hb;done))|apply am ?_|(apply zdQ fun K hK=>?_)|apply aA ?_|apply aB ?_)
 refine bA rfl bE bF ?_;simp only[bB];refine bp ?_ (zgj hG 4 f 1 ac ac lo _ r L1 c hr2 ac);rintro v H4 ⟨⟨cs,rfl,hc1,hc2,hc3⟩,hr4,n4,o4⟩;obtain⟨v0,v1,v2,v3,v4,rfl⟩:=jE hc1;obtain⟨w0,zfp,w2,w3,w4⟩:=sW hc2;dsimp only[zd4];repeat' (first
  |(apply au ?_;clear hK K)|apply Rx.o ?_|apply ba ?_|apply am ?_|(apply zdQ fun K hK=>?_)|apply aA ?_|apply aB ?_)
 generalize hHa:Hp.set (Hp.alloc H4 _) H4.next _=Ha
 have na:Ha.next=H4.next+1:=wt
 have oa:∀q,q<H4.next->Ha.get q=H4.get q:=fun q hq=>Nf
 have ga:Ha.get H4.next=some (.cells [.int .i64 3,.str [],.str [],.int .i64 0,.int .i64 0,.int .i64 0,.str [],.int .i64 0,.nilS,v0,v1,v2,v3,v4,.nilS,.nilS,.nilS] 0 true):=wu
 clear hHa;refine bA rfl bE bF ?_;simp only[bB];refine bp ?_ (yD hG (hst ac) 3 ac ac lo Ha r ((zeh f 4 1 L1).2,c) (hr4.keep ac fun q hq=>oa q ac) ro);rintro tv H5 ⟨hrow5,hr5,n5,o5⟩;have hl5:(jF f k (deep+1) 3 ((zeh f 4 1 L1).2,c)).2.1.length<=(zeh f 4 1 L1).2.length:=dr (yB (yC f k (deep+1)) _ _) (zgi _);obtain⟨t1,t2⟩:=hrow5.one;have g5:H5.get H4.next=some (.cells [.int .i64 3,.str [],.str [],.int .i64 0,.int .i64 0,.int .i64 0,.str [],.int .i64 0,.nilS,v0,v1,v2,v3,v4,.nilS,.nilS,.nilS] 0 true):=by rw[o5 _ ac ac];exact ga
 dsimp only[zd4];repeat' (first
  |(apply au ?_;clear hK K)|apply Rx.o ?_|apply ba ?_|apply am ?_|(apply zdQ fun K hK=>?_)|apply aA ?_|apply aB ?_)
 generalize hHb:Hp.set H5 H4.next _=Hb
 have nb:Hb.next=H5.next:=yj
 have ob:∀q,q≠H4.next->Hb.get q=H5.get q:=fun q hq=>by rw[<-hHb,bz,ah hq]
 have gb:Hb.get H4.next=some (.cells [.int .i64 3,.str [],.str [],.int .i64 0,.int .i64 0,.int .i64 0,.str [],.int .i64 0,.nilS,v0,v1,v2,v3,v4,.nilS,tv,.nilS] 0 true):=yc
 clear hHb;refine bA rfl bE bF ?_;simp only[bB];refine bp ?_ (yD hG (hst ac) 2 ac ac lo Hb r (jF f k (deep+1) 3 ((zeh f 4 1 L1).2,c)).2 (hr5.keep ac fun q hq=>ob q ac) ac);rintro uv H6 ⟨hrow6,hr6,n6,o6⟩;obtain⟨p1,p2⟩:=hrow6.one;have g6t:H6.get H4.next=some (.cells [.int .i64 3,.str [],.str [],.int .i64 0,.int .i64 0,.int .i64 0,.str [],.int .i64 0,.nilS,v0,v1,v2,v3,v4,.nilS,tv,.nilS] 0 true):=by rw[o6 _ ac ac];exact gb
 have g6:H6.get H.next=some (.cells [.int .i64 0,.str [],.str [],.int .i64 0,.int .i64 0,.int .i64 0,.str [],.int .i64 0,.nilS,.int .i64 0,.int .i64 0,.str [],.int .i64 0,.nilS,.nilS,.nilS,.nilS] 0 true):=by rw[o6 _ ac ac,ob _ ac,o5 _ ac ac,oa _ ac,o4 _ ac ac];exact g2
 have e46:(H.next == H4.next)=false:=zeq ac;have e64:(H4.next == H.next)=false:=zeq ac;dsimp only[zd4];repeat' (first
  |(apply au ?_;clear hK K)|apply Rx.o ?_|apply ba ?_|apply am ?_|(apply zdQ fun K hK=>?_)|apply aA ?_|apply aB ?_)
 refine⟨zdZ,_,(by(try simp only[zdX,zd2,Nat.reduceBEq,Nat.reduceAdd,Nat.reduceLeDiff,tyF,zfD,zfI,rI, *]);first|done|with_reducible rfl),?_⟩;try simp only[zdY]
 rw[ah ac,ah ac,aE ac]at hR;subst hR;have hk6:∀q,Hb.next<=q->q<H6.next->((H6.set H4.next (.cells [.int .i64 3,.str [],.str [],.int .i64 0,.int .i64 0,.int .i64 0,.str [],.int .i64 0,.nilS,v0,v1,v2,v3,v4,.nilS,tv,uv] 0 true)).set H.next (.cells [.int .i64 3,.str [],.str [],.int .i64 0,.int .i64 0,.int .i64 0,.str [],.int .i64 0,.nilS,v0,v1,v2,v3,v4,.nilS,tv,uv] 0 true)).get q=H6.get q:=fun q h1 h2=>BU
 have hk5:∀q,Ha.next<=q->q<H5.next->((H6.set H4.next (.cells [.int .i64 3,.str [],.str [],.int .i64 0,.int .i64 0,.int .i64 0,.str [],.int .i64 0,.nilS,v0,v1,v2,v3,v4,.nilS,tv,uv] 0 true)).set H.next (.cells [.int .i64 3,.str [],.str [],.int .i64 0,.int .i64 0,.int .i64 0,.str [],.int .i64 0,.nilS,v0,v1,v2,v3,v4,.nilS,tv,uv] 0 true)).get q=H5.get q:=fun q h1 h2=>by rw[bz,ah ac,bz,ah ac,o6 _ ac ac,ob _ ac]
 refine uF rfl (by simp only[sF,nT,w0,zfp,w2,w3,w4,t1,p1,l5];rfl) (uD (n:=8+k) 3 [] [] 0 sU ((hc3.up ac).keep2 (fun q _ hq=>ac) dQ fun q h1 h2=>by rw[bz,ah ac,bz,ah ac,o6 _ ac ac,ob _ ac,o5 _ ac ac,oa _ ac]) .nilS (hrow5.keep (fun q _ hq=>ac) dQ fun q h1 h2=>hk5 q h1 h2).rd (hrow6.keep (fun q _ hq=>ac) dQ fun q h1 h2=>hk6 q h1 h2).rd) ?_ ?_ ?_
 .exact hr6.keep dQ fun q hq=>BU
 .simp only[zef];omega
 .intro q h1 h2;rw[bz,ah ac,bz,ah ac,o6 _ ac h2,ob _ ac,o5 _ ac h2,oa _ ac,o4 _ ac h2];exact o2' q h1 h2
set_option maxRecDepth 100000 in
theorem zoA{lG:List En}(hG:GenL lG){k:Nat}{f:Int}{deep lo:Nat}{H H2:Hp}{r:Nat}{L1:List Int}{c q m:Int}{E2:aG}(hst:deep<=2->oE lG k f (deep+1))(hat:AtT f deep lo H H2 r L1 c q m E2)(hn0:¬q<6)(hn1:¬q<8)(hn2:¬q<10)(hp0:q<12):zex Tryz.prog (zdW pls lG) 84 156 mn E2 H2 (mo k f deep lo H r L1 c q m):=by
 obtain⟨hd,hrl,hlo,n2,g2,o2',hr2,hL1,hm,hqd,k0,k1,k2,k6,k8,k9,k10⟩:=hat;have hkeep:(zdW pls lG).keep 84=false:=rfl;have hq2:(2:Int)≠0:=aY;have hlen0:((zeD f).length:Int)≠0:=by rcases rv f with h|h<;>rw[h]<;>decide
 obtain⟨hi0,hix⟩:=qp (zeD f) hlen0 hm.1 [];have hxs:=rG hm.1;have hxa:=rH hm.1;have hxf:=sV hm.1;have er:(H.next == r)=false:=zeq ac;have e41:=zfr f 4 1 L1;have e50:=zfr f 5 0 L1;have e32:=zfr f 3 2 L1;have hwd:IntKind.wrap .i64 ((deep:Int)+1)=((deep+1:Nat):Int):=pW ac;unfold mo;generalize hR:jH (qr f k deep) f L1 c q m=R;rw[jH]at hR;dsimp only[mn,nh,qq];repeat' (first
  |(apply au ?_;clear hK K)|apply Ry.o ?_|(apply aV (fun hb hbp=>?_) (fun hb hbp=>?_)<;>try(cases hb;done))|apply am ?_|(apply zdQ fun K hK=>?_)|apply aA ?_|apply aB ?_)
 obtain⟨lv,hg,htick⟩:=hr2.tick;have hcw:IntKind.wrap .i64 (c+1)=cq (c+1):=rfl;repeat' (first
  |(apply au ?_;clear hK K)|apply Rx.o ?_|apply ba ?_|apply am ?_|(apply zdQ fun K hK=>?_)|apply aA ?_|apply aB ?_)
 generalize hHt:Hp.set _ r _=Ht;have nt:Ht.next=H.next+1:=by rw[<-hHt];simpa using n2
 have ot:∀q,q≠r->Ht.get q=_:=fun q hq=>by rw[<-hHt,bz,ah hq]
 have hrt:fZ lo Ht r L1 (cq (c+1)):=by rw[<-hHt];exact htick _
 have gt:Ht.get H.next=some (.cells [.int .i64 0,.str [],.str [],.int .i64 0,.int .i64 0,.int .i64 0,.str [],.int .i64 0,.nilS,.int .i64 0,.int .i64 0,.str [],.int .i64 0,.nilS,.nilS,.nilS,.nilS] 0 true):=by rw[ot _ ac];exact g2
 clear hHt;refine bA rfl bE bF ?_;simp only[bB];refine bp ?_ (zgj hG 4 f 1 ac ac lo Ht r L1 _ hrt ac);rintro v H4 ⟨⟨cs,rfl,hc1,hc2,hc3⟩,hr4,n4,o4⟩;obtain⟨v0,v1,v2,v3,v4,rfl⟩:=jE hc1;obtain⟨w0,zfp,w2,w3,w4⟩:=sW hc2;dsimp only[zd4];repeat' (first
  |(apply au ?_;clear hK K)|apply Rx.o ?_|apply ba ?_|apply am ?_|(apply zdQ fun K hK=>?_)|apply aA ?_|apply aB ?_)
 generalize hHa:Hp.set (Hp.alloc H4 _) H4.next _=Ha
 have na:Ha.next=H4.next+1:=wt
 have oa:∀q,q<H4.next->Ha.get q=H4.get q:=fun q hq=>Nf
 have ga:Ha.get H4.next=some (.cells [.int .i64 4,.str [],.str [],.int .i64 0,.int .i64 0,.int .i64 0,.str [],.int .i64 0,.nilS,v0,v1,v2,v3,v4,.nilS,.nilS,.nilS] 0 true):=wu
 clear hHa;refine bA rfl bE bF ?_;simp only[bB];refine bp ?_ (yD hG (hst ac) 3 ac ac lo Ha r ((zeh f 4 1 L1).2,cq (c+1)) (hr4.keep ac fun q hq=>oa q ac) ro);rintro tv H5 ⟨hrow5,hr5,n5,o5⟩;obtain⟨t1,t2⟩:=hrow5.one;have g5:H5.get H4.next=some (.cells [.int .i64 4,.str [],.str [],.int .i64 0,.int .i64 0,.int .i64 0,.str [],.int .i64 0,.nilS,v0,v1,v2,v3,v4,.nilS,.nilS,.nilS] 0 true):=by rw[o5 _ ac ac];exact ga
 have g6:H5.get H.next=some (.cells [.int .i64 0,.str [],.str [],.int .i64 0,.int .i64 0,.int .i64 0,.str [],.int .i64 0,.nilS,.int .i64 0,.int .i64 0,.str [],.int .i64 0,.nilS,.nilS,.nilS,.nilS] 0 true):=by rw[o5 _ ac ac,oa _ ac,o4 _ ac ac];exact gt
 have e46:(H.next == H4.next)=false:=zeq ac;have e64:(H4.next == H.next)=false:=zeq ac;dsimp only[zd4];repeat' (first
  |(apply au ?_;clear hK K)|apply Rx.o ?_|apply ba ?_|apply am ?_|(apply zdQ fun K hK=>?_)|apply aA ?_|apply aB ?_)
 refine⟨zdZ,_,(by(try simp only[zdX,zd2,Nat.reduceBEq,Nat.reduceAdd,Nat.reduceLeDiff,tyF,zfD,zfI,rI, *]);first|done|with_reducible rfl),?_⟩;try simp only[zdY]
 rw[ah ac,ah ac,ah ac,aE ac]at hR;subst hR;have hk5:∀q,Ha.next<=q->q<H5.next->((H5.set H4.next (.cells [.int .i64 4,.str [],.str [],.int .i64 0,.int .i64 0,.int .i64 0,.str [],.int .i64 0,.nilS,v0,v1,v2,v3,v4,.nilS,tv,.nilS] 0 true)).set H.next (.cells [.int .i64 4,.str [],.str [],.int .i64 0,.int .i64 0,.int .i64 0,.str [],.int .i64 0,.nilS,v0,v1,v2,v3,v4,.nilS,tv,.nilS] 0 true)).get q=H5.get q:=fun q h1 h2=>BU
 refine uF rfl (by simp only[sF,nT,w0,zfp,w2,w3,w4,t1,l5];rfl) (uD (n:=8+k) 4 [] [] 0 sU ((hc3.up ac).keep2 (fun q _ hq=>ac) dQ fun q h1 h2=>by rw[bz,ah ac,bz,ah ac,o5 _ ac ac,oa _ ac]) .nilS (hrow5.keep (fun q _ hq=>ac) dQ fun q h1 h2=>hk5 q h1 h2).rd .nilS) ?_ ?_ ?_
 .exact hr5.keep dQ fun q hq=>BU
 .simp only[zef];omega
 .intro q h1 h2;rw[bz,ah ac,bz,ah ac,o5 _ ac h2,oa _ ac,o4 _ ac h2,ot _ h2];exact o2' q h1 h2
set_option maxRecDepth 100000 in
theorem zqT{lG:List En}(hG:GenL lG){k:Nat}{f:Int}{deep lo:Nat}{H H2:Hp}{r:Nat}{L1:List Int}{c q m:Int}{E2:aG}(hst:deep<=2->oE lG k f (deep+1))(hat:AtT f deep lo H H2 r L1 c q m E2)(hn0:¬q<6)(hn1:¬q<8)(hn2:¬q<10)(hn3:¬q<12)(hn4:¬q<14)(hp0:q<15):zex Tryz.prog (zdW pls lG) 84 156 mn E2 H2 (mo k f deep lo H r L1 c q m):=by
 obtain⟨hd,hrl,hlo,n2,g2,o2',hr2,hL1,hm,hqd,k0,k1,k2,k6,k8,k9,k10⟩:=hat;have hkeep:(zdW pls lG).keep 84=false:=rfl;have hq2:(2:Int)≠0:=aY;have hlen0:((zeD f).length:Int)≠0:=by rcases rv f with h|h<;>rw[h]<;>decide
 obtain⟨hi0,hix⟩:=qp (zeD f) hlen0 hm.1 [];have hxs:=rG hm.1;have hxa:=rH hm.1;have hxf:=sV hm.1;have er:(H.next == r)=false:=zeq ac;have e41:=zfr f 4 1 L1;have e50:=zfr f 5 0 L1;have e32:=zfr f 3 2 L1;have hwd:IntKind.wrap .i64 ((deep:Int)+1)=((deep+1:Nat):Int):=pW ac;unfold mo;generalize hR:jH (qr f k deep) f L1 c q m=R;rw[jH]at hR;dsimp only[mn,nh,qq];repeat' (first
  |(apply au ?_;clear hK K)|apply Ry.o ?_|apply cD ?_|(apply aV (fun hb hbp=>?_) (fun hb hbp=>?_)<;>try(cases hb;done))|apply am ?_|(apply zdQ fun K hK=>?_)|(apply zdP 8 [(3,9),(3,11),(6,9),(6,11)] fun K hK=>?_)|(apply zdP 10 [(0,7),(0,10),(0,12),(4,7),(4,10),(4,12)] fun K hK=>?_)|(apply zdP 24 [(3,14),(6,14),(7,14),(11,14),(13,14)] fun K hK=>?_)|(apply zdP 28 [(1,4),(1,6),(5,6)] fun K hK=>?_)|(apply zdU ?_;try intro _)|(apply zdV ?_ ?_<;>clear hK K)|apply aH ?_|apply zd9 rfl ?_|apply aA ?_|apply zdR ?_|apply aB ?_|apply zdT ?_)
 repeat' (first
  |(apply au ?_;clear hK K)|apply Rx.o ?_|apply ba ?_|(apply aT (fun hb hbp=>?_) (fun hb hbp=>?_)<;>try(cases hb;done))|apply am ?_|(apply zdQ fun K hK=>?_)|(apply zdP 8 [(3,9),(3,11),(6,9),(6,11)] fun K hK=>?_)|(apply zdP 10 [(0,7),(0,10),(0,12),(4,7),(4,10),(4,12)] fun K hK=>?_)|(apply zdP 24 [(3,14),(6,14),(7,14),(11,14),(13,14)] fun K hK=>?_)|(apply zdP 28 [(1,4),(1,6),(5,6)] fun K hK=>?_)|(apply zdU ?_;try intro _)|(apply zdV ?_ ?_<;>clear hK K)|apply aH ?_|apply zd9 rfl ?_|apply aA ?_|apply zdR ?_|apply aB ?_|apply zdT ?_)
 .exact eK
 generalize hHa:Hp.set (Hp.alloc (Hp.alloc _ _) _) _ _=Ha;have na:Ha.next=H.next+3:=by rw[<-hHa];simp only[zef,zea];omega
 have oa:∀q,q<H.next->q≠r->Ha.get q=H.get q:=fun q h1 h2=>by
  rw[<-hHa,bz,ah ac,zd1,ah fx,zd1,ah ac];exact o2' q h1 h2
 have gz:Ha.get H.next=some (.cells [.int .i64 0,.str [],.str [],.int .i64 0,.int .i64 0,.int .i64 0,.str [],.int .i64 0,.nilS,.int .i64 0,.int .i64 0,.str [],.int .i64 0,.nilS,.nilS,.nilS,.nilS] 0 true):=by
  rw[<-hHa,bz,ah ac,zd1,ah fx,zd1,ah ac];exact g2
 have hra:fZ lo Ha r L1 c:=by
  rw[<-hHa];exact hr2.keep jB fun q hq=>by rw[bz,ah ac,zd1,ah fx,zd1,ah ac]
 have ga:Ha.get (H.next+2)=some (.cells [.int .i64 6,.str ((zeD f).getD (m.tmod (zeD f).length).toNat []),.str (jX m),.int .i64 0,.int .i64 0,.int .i64 0,.str [],.int .i64 0,.nilS,.int .i64 0,.int .i64 0,.str [],.int .i64 0,.nilS,.nilS,.nilS,.nilS] 0 true):=by rw[<-hHa,bz,aE ac]
 clear hHa;have htm:0<=m.tmod 2/\m.tmod 2<2:=BN hm.1;have hw2:IntKind.wrap .i64 (2-m.tmod 2)=2-m.tmod 2:=zft ac ac;generalize hcnt:(2-m.tmod 2).toNat=cnt at *;have hcn:2-m.tmod 2=(cnt:Int):=ac;rw[hcn]at hw2;refine zeL [0,1,6,9,13] [H.next] 14 cnt (fun j E H'=>∃v es Lj,H'.get (H.next+2)=some (.cells [.int .i64 6,.str ((zeD f).getD (m.tmod (zeD f).length).toNat []),.str (jX m),.int .i64 0,.int .i64 0,.int .i64 0,.str [],.int .i64 0,.nilS,.int .i64 0,.int .i64 0,.str [],.int .i64 0,.nilS,v,.nilS,.nilS] 0 true)/\ze4 (fun q=>H.next+3<=q) 4 H' 5 v (es.map Ex.cells)/\fZ lo H' r Lj c/\(∀q,q<H.next->q≠r->H'.get q=H.get q)/\es.length=j/\Lj.length<=L1.length/\zfH f cnt L1=(es++(zfH f (cnt-j) Lj).1,(zfH f (cnt-j) Lj).2)) eE ⟨.nilS,[],L1,ga,.inl ⟨rfl,rfl⟩,hra,oa,rfl,aM _,aK⟩ ?_;clear ga hra oa g2 hr2 o2';rintro j E3 H3 hj hcE hrH hnH hsI ⟨v,es,Lj,g3,hrow,hr3,o3,hel,hLj,hJ⟩;(try simp only[zec,zeb,aX,zdX,zd2,Nat.reduceBEq,Nat.reduceAdd,Nat.reduceLeDiff,tyF,gz, *]at hcE);(try simp only[zec,zeb,aX,zdX,zd2,Nat.reduceBEq,Nat.reduceAdd,Nat.reduceLeDiff,tyF,gz, *]at hrH);(try simp only[zea,zef,zeB,bT,Nat.reduceAdd]at hnH);have hB0:(H.next == H3.next)=false:=zeq ac;have hC0:(H3.next == H.next)=false:=zeq ac;have hle:H.next+3<=H3.next:=ac
 have e02:(H.next == H.next+2)=false:=zeq ac;have e20:(H.next+2 == H.next)=false:=zeq ac;obtain⟨v1,v2⟩:=hrow.one;repeat' (first
  |(apply au ?_;clear hK K)|apply Rx.o ?_|apply ba ?_|(apply aT (fun hb hbp=>?_) (fun hb hbp=>?_)<;>try(cases hb;done))|apply am ?_|(apply zdQ fun K hK=>?_)|(apply zdP 8 [(3,9),(3,11),(6,9),(6,11)] fun K hK=>?_)|(apply zdP 10 [(0,7),(0,10),(0,12),(4,7),(4,10),(4,12)] fun K hK=>?_)|(apply zdP 24 [(3,14),(6,14),(7,14),(11,14),(13,14)] fun K hK=>?_)|(apply zdP 28 [(1,4),(1,6),(5,6)] fun K hK=>?_)|(apply zdU ?_;try intro _)|(apply zdV ?_ ?_<;>clear hK K)|apply aH ?_|apply zd9 rfl ?_|apply aA ?_|apply zdR ?_|apply aB ?_|apply zdT ?_)
 .have hlt:j<cnt:=by omega
  refine bA rfl bE bF ?_;simp only[bB];refine bp ?_ (zgj hG 3 f 2 ac ac lo H3 r Lj c hr3 ac);rintro v' H4 ⟨⟨cs,rfl,hc1,hc2,hc3⟩,hr4,n4,o4⟩;have hl4:=zfr f 3 2 Lj;have g4:H4.get (H.next+2)=some (.cells [.int .i64 6,.str ((zeD f).getD (m.tmod (zeD f).length).toNat []),.str (jX m),.int .i64 0,.int .i64 0,.int .i64 0,.str [],.int .i64 0,.nilS,.int .i64 0,.int .i64 0,.str [],.int .i64 0,.nilS,v,.nilS,.nilS] 0 true):=by rw[o4 _ ac ac];exact g3
  have g40:H4.get H.next=some (.cells [.int .i64 0,.str [],.str [],.int .i64 0,.int .i64 0,.int .i64 0,.str [],.int .i64 0,.nilS,.int .i64 0,.int .i64 0,.str [],.int .i64 0,.nilS,.nilS,.nilS,.nilS] 0 true):=by rw[o4 _ ac ac];exact hrH
  have kb:=fun H=>FQ H hc1 hc2;have hvq:∀q o m z',v=.sl q o m z'->H.next+3<=q/\q<H3.next:=fun q o m z' e=>by
   rcases hrow with⟨rfl,_⟩|⟨q',imm,rows,rfl,e1,e2,_⟩
   .cases e
   .simp only[AV.sl.injEq]at e;rw[<-e.1];exact⟨e1,e2⟩
  have ob:∀q,q<H4.next->(H4.alloc (.cells cs 0 true)).get q=H4.get q:=fun q hq=>ez
  have hrow4:ze4 (fun q=>H.next+3<=q) 4 (H4.alloc (.cells cs 0 true)) 5 v (es.map Ex.cells):=hrow.keep (fun q _ h=>h) fx fun q h1 h2=>by rw[ob _ ac,o4 q h2 ac]
  have gcs:(H4.alloc (.cells cs 0 true)).get H4.next=some (.cells cs 0 true):=eR
  have g4b:(H4.alloc (.cells cs 0 true)).get (H.next+2)=some (.cells [.int .i64 6,.str ((zeD f).getD (m.tmod (zeD f).length).toNat []),.str (jX m),.int .i64 0,.int .i64 0,.int .i64 0,.str [],.int .i64 0,.nilS,.int .i64 0,.int .i64 0,.str [],.int .i64 0,.nilS,v,.nilS,.nilS] 0 true):=by rw[ob _ ac];exact g4
  obtain⟨v5,H5,a5,s5,n5,f5,q5⟩:=ze4.push (P:=Tryz.prog) (t:=61) Tryz.underlying61 DE IE IF rfl aC hrow4 fx (r:=H4.next) (imm:=0) (row:=cs) (w:=(zeh f 3 2 Lj).1.cells) gcs hc1 hc2 (hc3.keep2 (fun q h1 h2=>⟨ac,fun o m z' e=>by have:=(hvq q o m z' e).2;omega⟩) (cZ _) fun q h1 h2=>ob q h2) BI BI;simp only[zea]at n5 f5;have o5:∀q,q<H4.next->q<H.next+3->H5.get q=H4.get q:=fun q h1 h2=>by rw[f5 q ac (fun o m z' e=>FN),ob q h1]
  have g5:H5.get (H.next+2)=some (.cells [.int .i64 6,.str ((zeD f).getD (m.tmod (zeD f).length).toNat []),.str (jX m),.int .i64 0,.int .i64 0,.int .i64 0,.str [],.int .i64 0,.nilS,.int .i64 0,.int .i64 0,.str [],.int .i64 0,.nilS,v,.nilS,.nilS] 0 true):=by rw[o5 _ ac ac];exact g4
  have n5':H4.next+2<=H5.next:=ac
  obtain⟨p1,p2⟩:=s5.one;clear f5 q5 hrow hrow4 hr3;dsimp only[zd4];repeat' (first
   |(apply au ?_;clear hK K)|apply Rx.o ?_|apply ba ?_|(apply aT (fun hb hbp=>?_) (fun hb hbp=>?_)<;>try(cases hb;done))|apply am ?_|(apply zdQ fun K hK=>?_)|(apply zdP 8 [(3,9),(3,11),(6,9),(6,11)] fun K hK=>?_)|(apply zdP 10 [(0,7),(0,10),(0,12),(4,7),(4,10),(4,12)] fun K hK=>?_)|(apply zdP 24 [(3,14),(6,14),(7,14),(11,14),(13,14)] fun K hK=>?_)|(apply zdP 28 [(1,4),(1,6),(5,6)] fun K hK=>?_)|(apply zdU ?_;try intro _)|(apply zdV ?_ ?_<;>clear hK K)|apply aH ?_|apply zd9 rfl ?_|apply aA ?_|apply zdR ?_|apply aB ?_|apply zdT ?_)
  .exact eK
  .have o6:∀q,q≠H.next+2->(H5.set (H.next+2) (.cells [.int .i64 6,.str ((zeD f).getD (m.tmod (zeD f).length).toNat []),.str (jX m),.int .i64 0,.int .i64 0,.int .i64 0,.str [],.int .i64 0,.nilS,.int .i64 0,.int .i64 0,.str [],.int .i64 0,.nilS,v5,.nilS,.nilS] 0 true)).get q=H5.get q:=fun q hq=>by rw[bz,ah hq]
   have g60:H5.get H.next=some (.cells [.int .i64 0,.str [],.str [],.int .i64 0,.int .i64 0,.int .i64 0,.str [],.int .i64 0,.nilS,.int .i64 0,.int .i64 0,.str [],.int .i64 0,.nilS,.nilS,.nilS,.nilS] 0 true):=by rw[o5 _ ac ac];exact g40
   refine⟨ac,Nb,Nb,eN,Fe,?_⟩;refine⟨v5,es++[(zeh f 3 2 Lj).1],(zeh f 3 2 Lj).2,ft,by rw[pU];exact s5.keep (fun q _ h=>h) dQ fun q h1 h2=>o6 q ac,hr4.keep dQ fun q hq=>by rw[o6 q ac,o5 q ac ac],fun q h1 h2=>by rw[o6 q ac,o5 q ac ac,o4 q ac h2,o3 q h1 h2],by simp[hel],ac,?_⟩;rw[hJ,show cnt-j=(cnt-(j+1))+1 by omega,zfH];simp
 .have hje:j=cnt:=by omega
  subst hje;repeat' (first
   |(apply au ?_;clear hK K)|apply Rx.o ?_|apply ba ?_|(apply aT (fun hb hbp=>?_) (fun hb hbp=>?_)<;>try(cases hb;done))|apply am ?_|(apply zdQ fun K hK=>?_)|(apply zdP 8 [(3,9),(3,11),(6,9),(6,11)] fun K hK=>?_)|(apply zdP 10 [(0,7),(0,10),(0,12),(4,7),(4,10),(4,12)] fun K hK=>?_)|(apply zdP 24 [(3,14),(6,14),(7,14),(11,14),(13,14)] fun K hK=>?_)|(apply zdP 28 [(1,4),(1,6),(5,6)] fun K hK=>?_)|(apply zdU ?_;try intro _)|(apply zdV ?_ ?_<;>clear hK K)|apply aH ?_|apply zd9 rfl ?_|apply aA ?_|apply zdR ?_|apply aB ?_|apply zdT ?_)
  refine⟨zdZ,_,(by(try simp only[zdX,zd2,Nat.reduceBEq,Nat.reduceAdd,Nat.reduceLeDiff,tyF,zfD,zfI,rI, *]);first|done|with_reducible rfl),?_⟩;try simp only[zdY]
  rw[ah ac,ah ac,ah ac,ah ac,ah ac,aE ac,hJ,qJ]at hR;subst hR;simp only[zfH,ll];refine uF rfl (by simp only[sF,nT,v1,l5];rfl) (uD (n:=8+k) 6 _ _ 0 sU sU ((hrow.keep (fun q _ hq=>ac) dQ fun q h1 h2=>iA).rd.up ac) .nilS .nilS) ?_ ?_ ?_
  .exact hr3.keep dQ fun q hq=>iA
  .simp only[zef];omega
  .intro q h1 h2;rw[bz,ah ac];exact o3 q h1 h2
end
section
def tyG5.tyF:=ad @dC (ad @eU (ad @en (ad @iy (ad @hO (ad @gg (ad @fW (ad @tO (ad @iz (ad @MR (@oT))))))))))
open tyG5
set_option maxRecDepth 100000 in
theorem zoB{lG:List En}(hG:GenL lG){k:Nat}{f:Int}{deep:Nat}(hd:deep<=3)(hst:deep<=2->oE lG k f (deep+1)):oE lG (k+1) f deep:=by
 intro lo H r s hrd hL;have hw:Plain (zdW pls lG) 84:=hG.plain ei;have hnx:Plain (zdW pls lG) 40:=hG.plain ei;have hkeep:(zdW pls lG).keep 84=false:=rfl;have hrl:=hrd.1;have hlo:=hrd.2.1;have hq16:(16:Int)≠0:=aY;have hq2:(2:Int)≠0:=aY;have hlen0:((zeD f).length:Int)≠0:=by rcases rv f with h|h<;>rw[h]<;>decide
 rw[zfF,sT];refine zed (M:=156) (rs:=[.cell 6 96]) (hw.call _) hw.ice hw.froz Tryz.func84 rfl rfl qq.2 rfl ?_;dsimp only[qq,zd8,Nat.reduceAdd];repeat' (first
  |(apply au ?_;clear hK K)|apply Rx.o ?_|apply eJ ?_|(apply bQ (fun hg hgp=>?_) (fun hg hgp=>?_)<;>try(cases hg;done))|(apply aT (fun hb hbp=>?_) (fun hb hbp=>?_)<;>try(cases hb;done))|apply am ?_|(apply zdQ fun K hK=>?_)|apply zdR ?_)
 refine bA rfl bE bF ?_;simp only[bB];refine bp ?_ (ym hnx (hrd.keep (cZ _) fun q hq=>ez) hL);rintro v H2 ⟨rfl,hr2,n2,o2⟩;simp only[zea]at n2;have g2:H2.get H.next=some (.cells [.int .i64 0,.str [],.str [],.int .i64 0,.int .i64 0,.int .i64 0,.str [],.int .i64 0,.nilS,.int .i64 0,.int .i64 0,.str [],.int .i64 0,.nilS,.nilS,.nilS,.nilS] 0 true):=by rw[o2 _ ac,zd1,aE rfl]
 have o2':∀q,q<H.next->q≠r->H2.get q=H.get q:=fun q h1 h2=>by rw[o2 q h2,zd1,ah ac]
 have hL1:=zgi s.1;generalize (zes s.1).1=n at *;generalize (zes s.1).2=L1 at *;obtain⟨sL,c⟩:=s;simp only[]at *;have hq:=zfP (n:=n) (m:=16) ac ac;have hm:=zfP (n:=cq (n.tdiv 16)) (m:=1000) ac ac;obtain⟨hi0,hix⟩:=qp (zeD f) hlen0 hm.1 [];have hxs:=rG hm.1;have hxa:=rH hm.1;have hxf:=sV hm.1;clear o2;dsimp only[zd4];repeat' (first
  |(apply au ?_;clear hK K)|apply Rx.o ?_|(apply eu ?_;first|refine Rx.k (Lo hG.nms _ _) ?_|refine Rx.k (zfZ hG.pick _ 1000 aY _) ?_)|apply eJ ?_|(apply bQ (fun hg hgp=>?_) (fun hg hgp=>?_)<;>try(cases hg;done))|(apply aT (fun hb hbp=>?_) (fun hb hbp=>?_)<;>try(cases hb;done))|apply am ?_|(apply zdQ fun K hK=>?_)|apply zdR ?_)
 refine bA rfl bE bF ?_;simp only[bB];refine bp ?_ (zfZ hG.pick n 16 aY _);rintro _ _ ⟨rfl,rfl⟩;dsimp only[zd4];refine Rx.o ?_;refine xw (hK _ _ ?_);clear hK K;dsimp only[lA,tG];generalize zei n 16=q0 at *;generalize zei (cq (n.tdiv 16)) 1000=m at *;obtain⟨lv,hgr,hlen⟩:=hr2.len;rename_i H2;simp only[zen,zel,zeu,zev,Nat.blt,Nat.ble,sc,nP,ee];refine am ?_;refine am ?_;refine zdQ fun K hK0=>?_;have hK:∀E2 H3,(E2.at 0=.ptr r 0/\E2.at 1=.int .i64 f/\E2.at 2=.int .i64 deep/\E2.at 6=.ptr H.next 0/\E2.at 8=fL (zeD f)/\E2.at 9=.int .i64 m/\E2.at 10=.int .i64 q0/\(∃b,E2.at 44=.bool b/\(b=true↔(((2:Int)<deep/\8<=q0/\q0<12)\/(10<=c/\10<=q0))))/\H3=H2)->K E2 H3:=by
  rintro E2 H3 ⟨k0,k1,k2,k6,k8,k9,k10,⟨b,k44,hb⟩,rfl⟩;apply hK0;clear hK0 K;dsimp only[lA,tG];have hqe:uC deep c q0=if ((2:Int)<deep/\8<=q0/\q0<12)\/(10<=c/\10<=q0)then 0 else q0:=rfl
  generalize uC deep c q0=q at *;have hqr:0<=q/\q<16:=by rw[hqe];split<;>omega
  have hqd:8<=q->q<12->deep<=2:=by rw[hqe];split<;>omega
  refine zxq (fun E' H'=>E'.at 0=.ptr r 0/\E'.at 1=.int .i64 f/\E'.at 2=.int .i64 deep/\E'.at 6=.ptr H.next 0/\E'.at 8=fL (zeD f)/\E'.at 9=.int .i64 m/\E'.at 10=.int .i64 q/\H'=H3) ?_ ?_
  .cases b with
   |true=>
    rw[aE (hb.1 rfl)]at hqe;repeat' (first
     |(apply au ?_;clear hK K)|apply Rx.o ?_|apply eJ ?_|(apply bQ (fun hg hgp=>?_) (fun hg hgp=>?_)<;>try(cases hg;done))|(apply aT (fun hb hbp=>?_) (fun hb hbp=>?_)<;>try(cases hb;done))|apply am ?_|(apply zdQ fun K hK=>?_)|apply zdR ?_)
    exact⟨rfl,eE,eE,eE,eE,eE,eE,Nc,rfl⟩
   |false=>
    rw[ah (fun h=>by have:=hb.2 h;cases this)]at hqe;repeat' (first
     |(apply au ?_;clear hK K)|apply Rx.o ?_|apply eJ ?_|(apply bQ (fun hg hgp=>?_) (fun hg hgp=>?_)<;>try(cases hg;done))|(apply aT (fun hb hbp=>?_) (fun hb hbp=>?_)<;>try(cases hb;done))|apply am ?_|(apply zdQ fun K hK=>?_)|apply zdR ?_)
    exact⟨rfl,eE,eE,eE,eE,eE,eE,Nc,rfl⟩
  clear k0 k1 k2 k6 k8 k9 k10 k44 hb hqe hq;rintro E3 H' ⟨k0,k1,k2,k6,k8,k9,k10,rfl⟩;have hat:AtT f deep lo H H' r L1 c q m E3:=⟨hd,hrl,hlo,n2,g2,o2',hr2,ac,hm,hqd,k0,k1,k2,k6,k8,k9,k10⟩;by_cases c1:q<6
  .exact zmV hG hst hat c1
  by_cases c2:q<8
  .exact zoz hG hst hat c1 c2
  by_cases c3:q<10
  .exact zxt hG hst hat c1 c2 c3
  by_cases c4:q<12
  .exact zoA hG hst hat c1 c2 c3 c4
  by_cases c5:q<14
  .exact ztu hG hst hat c1 c2 c3 c4 c5
  by_cases c6:q<15
  .exact zqT hG hst hat c1 c2 c3 c4 c5 c6
  exact zqS hG hst hat c1 c2 c3 c4 c5 c6
 clear hK0;repeat' (first
  |(apply au ?_;clear hK K)|apply Rx.o ?_|apply eJ ?_|(apply bQ (fun hg hgp=>?_) (fun hg hgp=>?_)<;>try(cases hg;done))|apply am ?_|(apply zdQ fun K hK=>?_)|apply zdR ?_)
 all_goals
  refine⟨eE,eE,eE,eE,eE,eE,eE,⟨_,eE,?_⟩,rfl⟩;first
  |exact⟨fun _=>ac,fun _=>rfl⟩
  |exact⟨fun h=>(by cases h),fun h=>(by omega:False).elim⟩
  |exact⟨fun h=>by(have h:=mO h;omega),fun h=>qc ac⟩
theorem Nl{lG:List En}(hG:GenL lG)(f:Int):∀(k deep:Nat),4<=deep+k->deep<=3->oE lG k f deep
 |0,deep,h1,h2=>by omega
 |k+1,deep,h1,h2=>zoB hG h2 fun h=>Nl hG f k (deep+1) ac ac
end
section
def tyG6.tyF:=ad @eI (ad @dC (ad @eU (ad @en (ad @jO (ad @kO (ad @iw (ad @iy (ad @hO (ad @gg (ad @fW (ad @r7 (ad @tO (ad @qO (ad @iz (ad @oT (ad @yh (ad @rV (@xi))))))))))))))))))
open tyG6
noncomputable def Nm:{c:SC // aS 61 (Tryz.f25.body.getD .skip)=c}:=by
 refine⟨?_,?_⟩;rotate_left
 .simp only[Tryz.f25,cj,aS,zen,zel,zeu,zev,Nat.blt,Nat.ble];rfl
def Nn(lG:List En):Prop:=∀(f:Int) (k deep:Nat),4<=deep+k->deep<=3->oE lG k f deep
theorem zch{lG:List En}(hG:GenL lG):Nn lG:=Nl hG
def ib(L:List Int):List St×zeK:=jF 0 4 0 5 ((zes L).2,0)
def jp(L:List Int):Ex×List Int:=zeh 0 4 1 (ib L).2.1
def kC(L:List Int):List St×zeK:=jF 1 3 1 3 ((jp L).2,(ib L).2.2)
def rJ(L:List Int):Ex×List Int:=zeh 1 4 1 (kC L).2.1
def gT(L:List Int):Fu:=⟨[102],[[120],[121]],[[105],[106]],(ib L).1,(jp L).1⟩
def gU(L:List Int):Fu:=⟨[103],[[110]],[[105]],(kC L).1,(rJ L).1⟩
def mr(L:List Int):List Ar:=[⟨[97],1+zei (zes L).1 4⟩,⟨[98],1+zei (cq ((zes L).1.tdiv 4)) 4⟩]
def zeQ(l:List Int):Pr:=⟨mr (l.take 60),[gT (l.take 60),gU (l.take 60)]⟩
structure ProgM (lo n:Nat) (H:Hp) (p:Pr) (ra rf:Nat) (x y:Int) (f g:Fu) (cf cg:List AV):Prop where
 ep:p=⟨[⟨[97],x⟩,⟨[98],y⟩],[f,g]⟩
 ga:H.get ra=some (.cells [.str [97],.int .i64 x,.str [98],.int .i64 y] 0 true)
 gf:H.get rf=some (.cells (cf++cg) 0 true)
 la:lo<=ra/\ra<H.next
 lf:lo<=rf/\rf<H.next
 ne:ra≠rf
 lcf:cf.length=9
 lcg:cg.length=9
 wf:zeA (fun q=>lo<=q/\q≠ra/\q≠rf) n H cf f.cells
 wg:zeA (fun q=>lo<=q/\q≠ra/\q≠rf) n H cg g.cells
theorem ProgM.cells{lo n:Nat}{H:Hp}{p:Pr}{ra rf:Nat}{x y:Int}{f g:Fu}{cf cg:List AV}(h:ProgM lo (n+1) H p ra rf x y f g cf cg):zeA (fun q=>lo<=q) (n+2) H [.sl ra 0 2 2,.sl rf 0 2 9] p.cells:=by
 rw[h.ep];refine .cons ?_ (.cons ?_ .nil)
 .refine rz (n:=n+1) (a:=[[.str [97],.int .i64 x],[.str [98],.int .i64 y]]) (imm:=0) (tip:=true) h.la.1 h.la.2 h.ga aK ⟨⟨rfl,.cons (.str _) (.cons (.int _ _) .nil)⟩,⟨rfl,.cons (.str _) (.cons (.int _ _) .nil)⟩,trivial⟩
 .refine rz (n:=n+1) (a:=[cf,cg]) (imm:=0) (tip:=true) h.lf.1 h.lf.2 (by rw[h.gf];simp) aK ⟨⟨h.lcf,h.wf.keep (fun q hq=>hq.1) (aM _) fun _ _ _=>rfl⟩,⟨h.lcg,h.wg.keep (fun q hq=>hq.1) (aM _) fun _ _ _=>rfl⟩,trivial⟩
theorem No{S:Nat->Prop}{n:Nat}{H:Hp}(nm:List UInt8){p l b:AV}{v:List AV}{f:Fu}(hn:f.name=nm)(h1:fJ S (n+1) H p (fL f.params))(h2:fJ S (n+1) H l (fL f.locals))(h3:fJ S (n+1) H b (.lst (f.body.map St.cells)))(h4:zeA S (n+1) H v f.value.cells):zeA S (n+1) H ([.str nm,p,l,b]++v) f.cells:=by
 have e:f.cells=[.str f.name,fL f.params,fL f.locals,.lst (f.body.map St.cells)]++f.value.cells:=rY;rw[e,hn];exact(zeA.cons (.str _) (.cons h1 (.cons h2 (.cons h3 .nil)))).append h4
theorem BV{S:Nat->Prop}{n:Nat}{H:Hp}{r imm:Nat}{tip:Bool}(l:List (List UInt8))(hS:S r)(hr:r<H.next)(hg:H.get r=some (.cells (l.map .str) imm tip))(hi:imm<=l.length):fJ S (n+2) H (.sl r 0 l.length 1) (fL l):=by
 have:=rz (n:=n+1) (a:=l.map fun s=>[AV.str s]) (z:=1) hS hr (by rw[Am];exact hg) (by rw[Am];simpa using hi) (fb.strs l);rw[dy]at this;exact this
theorem zci(H:Hp):zfn Tryz.prog H 23 0 []=some (.sl H.next 0 0 1,H.alloc (.cells [] 0 true)):=aC
theorem zcj(v:Nat)(n:Nat):zfy Tryz.prog 78 [(0,.sl v 0 n 1)]=some (.agg [.sl v 0 n 1,.int .i64 0]):=aC
theorem zck(s:List UInt8)(n:Int):zfy Tryz.prog 86 [(0,.str s),(1,.int .i64 n)]=some (.agg [.str s,.int .i64 n]):=aC
theorem zcl(H:Hp)(a b:List UInt8)(x y:Int):zfn Tryz.prog H 24 2 [(0,.agg [.str a,.int .i64 x]),(1,.agg [.str b,.int .i64 y])]=some (.sl H.next 0 2 2,H.alloc (.cells [.str a,.int .i64 x,.str b,.int .i64 y] 0 true)):=aC
theorem zcm(r n:Nat):zfy Tryz.prog 49 [(0,.sl r 0 n 2)]=some (.agg [.sl r 0 n 2,.nilS]):=aC
theorem zcn(s:List UInt8)(r n q m:Nat):zfy Tryz.prog 65 [(0,.str s),(1,.sl r 0 n 1),(2,.sl q 0 m 1)]=some (.agg [.str s,.sl r 0 n 1,.sl q 0 m 1,.nilS,.int .i64 0,.int .i64 0,.str [],.int .i64 0,.nilS]):=aC
theorem zco(H:Hp)(a0 a1 a2 a3 a4 a5 a6 a7 a8 b0 b1 b2 b3 b4 b5 b6 b7 b8:AV):zfn Tryz.prog H 47 2 [(0,.agg [a0,a1,a2,a3,a4,a5,a6,a7,a8]),(1,.agg [b0,b1,b2,b3,b4,b5,b6,b7,b8])]=some (.sl H.next 0 2 9,H.alloc (.cells [a0,a1,a2,a3,a4,a5,a6,a7,a8,b0,b1,b2,b3,b4,b5,b6,b7,b8] 0 true)):=aC
theorem Np(H:Hp)(s:List UInt8):zfn Tryz.prog H 59 1 [(0,.str s)]=some (.sl H.next 0 1 1,H.alloc (.cells [.str s] 0 true)):=aC
theorem BW(a b:AV):ze6 2 [a,b]=some (.agg [a,b]):=rfl
theorem ztv(l:List Int):(l.map fun n=>[AV.int .i64 n]).flatten=l.map fun n=>AV.int .i64 n:=by
 induction l with
 |nil=>rfl
 |cons a l ih=>simp only[eF,kK,ih];rfl
theorem zqU{H:Hp}{q:Nat}(l:List Int)(hg:H.get q=some (.cells [] 0 true))(hq:q<H.next)(hl:l.length<=60):
 ∃v H',zeZ Tryz.prog false H 23 23 (.sl q 0 0 1) (.lst (l.map fun n=>[AV.int .i64 n]))=some (v,H')/\(∃b imm,v=.sl b 0 l.length 1/\H'.get b=some (.cells (l.map fun n=>.int .i64 n) imm true)/\b<H'.next/\(b=q\/b=H.next))/\H.next<=H'.next/\∀k,k<H.next->k≠q->H'.get k=H.get k:=by
 have hmr:zfw=70368744177664:=rfl;have hfl:(l.map fun n=>[AV.int .i64 n]).flatten=l.map fun n=>AV.int .i64 n:=ztv l;have hx:zfz H 1 (.lst (l.map fun n=>[AV.int .i64 n]))=some (l.length,l.map fun n=>AV.int .i64 n):=by
  have e:zfz H 1 (.lst (l.map fun n=>[AV.int .i64 n]))=if ((l.map fun n=>[AV.int .i64 n]).all fun row=>row.length == 1)then some ((l.map fun n=>[AV.int .i64 n]).length,(l.map fun n=>[AV.int .i64 n]).flatten)else none:=rfl
  rw[e,aE aK,hfl,dy]
 have hone:(l.map fun n=>AV.int .i64 n).all AV.one=true:=by simp[AV.one]
 cases l with
 |nil=> 
  refine⟨.sl q 0 0 1,H,?_,⟨q,0,rfl,hg,hq,.inl rfl⟩,aM _,fun _ _ _=>rfl⟩
  .simp only[zeZ,Tryz.underlying23,gN,mM,mN,show zfT Tryz.prog 23=true by kernel_rfl,hx,fV]
 |cons a l=>
  simp only[fj]at hx hl;have htr:gW false H 1 (.sl q 0 0 1)=H:=by
   unfold gW;simp only[hg];rfl
  refine⟨.sl H.next 0 (0+(l.length+1)) 1,(H.kill q).alloc (.cells ([]++(a::l).map fun n=>.int .i64 n) (0-0) true),?_,⟨H.next,0,aK,?_,cL _,.inr rfl⟩,cZ _,fun k hk hno=>?_⟩
  .simp only[zeZ,Tryz.underlying23,gN,mM,mN,show zfT Tryz.prog 23=true by kernel_rfl,hx,hone,htr,oR,bN,mF,ja,hg,bT,lY,List.drop_nil,dS,bU];rw[aE ⟨jQ,jQ,aK⟩]
  .show((H.kill q).alloc _).get (H.kill q).next=_
   rw[zd1,aE rfl];simp
  .rw[zd1,ah l8,zfU,ah hno]
theorem zmX(l:List Int):zfW Tryz.prog 23 (.lst (l.map fun n=>[AV.int .i64 n])) none (some (.int .i64 (min (l.length:Int) 60)))=some (.lst ((l.take 60).map fun n=>[AV.int .i64 n])):=by
 have e:min (l.length:Int) 60=((min l.length 60:Nat):Int):=ac;rw[e];simp only[zfW,Tryz.underlying23,gN];show(if 0<=min l.length 60/\min l.length 60<=(l.map fun n=>[AV.int .i64 n]).length then _ else none)=_;rw[aE ⟨dE _,cT⟩];have e2:((l.map fun n=>[AV.int .i64 n]).drop 0).take (min l.length 60-0)=(l.take 60).map fun n=>[AV.int .i64 n]:=by
  rw[gD,w1,<-zo,List.take_eq_take_iff.2];omega
 rw[e2];cases l.take 60 with
 |nil=>rfl
 |cons a l=>rfl
structure AtP (n0 M:Nat) (x y:Int) (H:Hp):Prop where
 lt:n0<M/\M+8<=H.next
 rs:H.get n0=some (.cells [.nilS,.nilS] 0 true)
 ra:H.get (M+1)=some (.cells [.str [97],.int .i64 x,.str [98],.int .i64 y] 0 true)
 t5:H.get (M+2)=some (.cells [.sl (M+1) 0 2 2,.sl (M+7) 0 2 9] 0 true)
 p1:H.get (M+3)=some (.cells [.str [120],.str [121]] 0 true)
 l1:H.get (M+4)=some (.cells [.str [105],.str [106]] 0 true)
 p2:H.get (M+5)=some (.cells [.str [110]] 0 true)
 l2:H.get (M+6)=some (.cells [.str [105]] 0 true)
theorem AtP.keep{n0 M:Nat}{x y:Int}{H H':Hp}(h:AtP n0 M x y H)(hn:H.next<=H'.next)(hg:∀q,(q=n0\/M+1<=q/\q<M+7)->H'.get q=H.get q):AtP n0 M x y H':=by
 obtain⟨⟨lt1,lt2⟩,rs,ra,t5,p1,l1,p2,l2⟩:=h;exact⟨⟨lt1,ac⟩,by rw[hg _ (.inl rfl)];exact rs,by rw[hg _ ac];exact ra,by rw[hg _ ac];exact t5,by rw[hg _ ac];exact p1,by rw[hg _ ac];exact l1,by rw[hg _ ac];exact p2,by rw[hg _ ac];exact l2⟩
set_option maxRecDepth 100000 in
theorem zoC{lG:List En}(hG:GenL lG)(hst:Nn lG)(l:List Int)(hl:l.length<2^63)(H:Hp):
 zd5 Tryz.prog (zdW pls lG) 25 [.lst (l.map fun n=>[AV.int .i64 n])] H fun v H'=>∃ra rf x y cf cg,v=.agg [.sl ra 0 2 2,.sl rf 0 2 9]/\ProgM H.next 14 H' (zeQ l) ra rf x y (gT (l.take 60)) (gU (l.take 60)) cf cg/\H.next<=H'.next/\(∀q,q<H.next->H'.get q=H.get q)/\H.next<ra/\∃pt pf lf bf vf pg lg bg vg,cf=Br [102] pf lf bf vf/\cg=Br [103] pg lg bg vg/\ProgL pt 14 H' ra rf x y (gT (l.take 60)) (gU (l.take 60)) pf lf bf vf pg lg bg vg/\mr (l.take 60)=[⟨[97],x⟩,⟨[98],y⟩]/\∀q,q<H.next->pt q=0:=by
 have hw:Plain (zdW pls lG) 25:=hG.plain ei;have hkeep:(zdW pls lG).keep 25=false:=rfl;have hnx:Plain (zdW pls lG) 40:=hG.plain ei;have hs:=zmX l;have hL60:(l.take 60).length<=60:=pQ;have hq4:(4:Int)≠0:=aY;have hgP:zeQ l=⟨mr (l.take 60),[gT (l.take 60),gU (l.take 60)]⟩:=rfl;generalize zeQ l=P0 at *;refine zed (M:=61) (rs:=[.cell 2 49]) (hw.call _) hw.ice hw.froz Tryz.func25 rfl rfl Nm.2 rfl ?_;dsimp only[Nm,zd8,Nat.reduceAdd];have gh0:=@zci;repeat' (first
  |(apply au ?_;clear hK K)|apply Rx.o ?_|apply ba ?_|apply am ?_|(apply zdQ fun K hK=>?_)|(apply zdP 5 [(1,3),(1,6)] fun K hK=>?_)|(apply zdP 6 [(1,3),(1,6)] fun K hK=>?_)|(apply zdP 7 [(1,3),(1,6)] fun K hK=>?_)|(apply zdP 8 [(1,3),(1,6)] fun K hK=>?_)|(apply zdU ?_;try intro _)|(apply zdV ?_ ?_<;>clear hK K)|apply aH ?_|apply zd9 rfl ?_|apply aB ?_)
 generalize l.take 60=L at *;have gq:((H.alloc (.cells [.nilS,.nilS] 0 true)).alloc (.cells [] 0 true)).get (H.next+1)=some (.cells [] 0 true):=xX;obtain⟨v,H2,a2,⟨b,imm,rfl,gb,hb,hb2⟩,n2,o2⟩:=zqU L gq (cL _) hL60;simp only[zea]at n2 o2 hb2;refine ji eV eV (by rw[hkeep];exact a2) ?_;have gh0:=@zcj;repeat' (first
  |(apply au ?_;clear hK K)|apply Rx.o ?_|apply ba ?_|apply am ?_|(apply zdQ fun K hK=>?_)|(apply zdP 5 [(1,3),(1,6)] fun K hK=>?_)|(apply zdP 6 [(1,3),(1,6)] fun K hK=>?_)|(apply zdP 7 [(1,3),(1,6)] fun K hK=>?_)|(apply zdP 8 [(1,3),(1,6)] fun K hK=>?_)|(apply zdU ?_;try intro _)|(apply zdV ?_ ?_<;>clear hK K)|apply aH ?_|apply zd9 rfl ?_|apply aB ?_)
 have hrd3:fZ (H2.next+1) (H2.alloc (.cells [.sl b 0 L.length 1,.int .i64 0] 0 true)) H2.next L 0:=⟨cL _,aM _,_,eR,.inr ⟨b,0,_,imm,rfl,by rw[zd1,ah ac];exact gb,rfl,ac,ac⟩⟩
 have g3:(H2.alloc (.cells [.sl b 0 L.length 1,.int .i64 0] 0 true)).get H.next=some (.cells [.nilS,.nilS] 0 true):=by rw[zd1,ah ac,o2 _ ac ac,zd1,ah fx,zd1,aE rfl]
 have o3:∀q,q<H.next->(H2.alloc (.cells [.sl b 0 L.length 1,.int .i64 0] 0 true)).get q=H.get q:=fun q hq=>by rw[zd1,ah ac,o2 _ ac ac,zd1,ah fx,zd1,ah ac]
 generalize hH3:H2.alloc (.cells [.sl b 0 L.length 1,.int .i64 0] 0 true)=H3 at *;have n3:H3.next=H2.next+1:=by rw[<-hH3];rfl
 clear hH3 gb hb hb2 a2 gq o2;refine bA rfl bE bF ?_;simp only[bB];refine bp ?_ (ym hnx hrd3 ac);rintro v H4 ⟨rfl,hr4,n4,o4⟩;have g4:H4.get H.next=some (.cells [.nilS,.nilS] 0 true):=by rw[o4 _ ac];exact g3
 have o4':∀q,q<H.next->H4.get q=H.get q:=fun q hq=>by rw[o4 _ ac];exact o3 q hq
 clear o4 o3 g3 hrd3;have hL1:=zgi L;have hA:mr L=[⟨[97],1+zei (zes L).1 4⟩,⟨[98],1+zei (cq ((zes L).1.tdiv 4)) 4⟩]:=rfl;have hp1:=zfP (n:=(zes L).1) (m:=4) ac ac;have hp2:=zfP (n:=cq ((zes L).1.tdiv 4)) (m:=4) ac ac;have hB1:ib L=jF 0 4 0 5 ((zes L).2,0):=rfl;have hV1:jp L=zeh 0 4 1 (ib L).2.1:=rfl;have hB2:kC L=jF 1 3 1 3 ((jp L).2,(ib L).2.2):=rfl;have hV2:rJ L=zeh 1 4 1 (kC L).2.1:=rfl;have hF1:gT L=⟨[102],[[120],[121]],[[105],[106]],(ib L).1,(jp L).1⟩:=rfl;have hF2:gU L=⟨[103],[[110]],[[105]],(kC L).1,(rJ L).1⟩:=rfl;have hl1:(ib L).2.1.length<=(zes L).2.length:=by rw[hB1];exact dr (yB (yC 0 4 0) _ _) (zgi _)
 have hl2:(jp L).2.length<=(ib L).2.1.length:=zfr 0 4 1 _;have hl3:(kC L).2.1.length<=(jp L).2.length:=by rw[hB2];exact dr (yB (yC 1 3 1) _ _) (zgi _)
 generalize ib L=B1 at *;generalize jp L=V1 at *;generalize kC L=B2 at *;generalize rJ L=V2 at *;generalize gT L=Ff at *;generalize gU L=Fg at *;generalize mr L=Aa at *;generalize (zes L).1=n at *;generalize (zes L).2=L1 at *;have hw1:IntKind.wrap .i64 (1+zei n 4)=1+zei n 4:=zft ac ac;have hw2:IntKind.wrap .i64 (1+zei (cq (n.tdiv 4)) 4)=1+zei (cq (n.tdiv 4)) 4:=zft ac ac;have hw3:IntKind.wrap .i64 (n.tdiv 4)=cq (n.tdiv 4):=rfl;dsimp only[zd4];have gh0:=@zck;have gh1:=@zcl;have gh2:=@zcm;have gh3:=@Np;have gh4:=@zcn;have gh5:=@zco;repeat' (first
  |(apply au ?_;clear hK K)|apply Rx.o ?_|apply ba ?_|(apply eu ?_;first|refine Rx.k (zfZ hG.pick _ _ aY _) ?_)|apply am ?_|(apply zdQ fun K hK=>?_)|(apply zdP 5 [(1,3),(1,6)] fun K hK=>?_)|(apply zdP 6 [(1,3),(1,6)] fun K hK=>?_)|(apply zdP 7 [(1,3),(1,6)] fun K hK=>?_)|(apply zdP 8 [(1,3),(1,6)] fun K hK=>?_)|(apply zdU ?_;try intro _)|(apply zdV ?_ ?_<;>clear hK K)|apply aH ?_|apply zd9 rfl ?_|apply aB ?_)
 generalize hx:1+zei n 4=x at *;generalize hy:1+zei (cq (n.tdiv 4)) 4=y at *;rename_i H4;have hne:∀i,(H.next == H2.next+i)=false:=fun i=>zeq ac;have hmn:H.next<H2.next:=ac
 generalize hHs:Hp.set (Hp.alloc _ _) _ _=Hs;have hat:AtP H.next H2.next x y Hs:=by
  rw[<-hHs];refine⟨⟨hmn,jB⟩,?_,?_,?_,?_,?_,?_,?_⟩
  .repeat (first|rw[bz,ah kB]|rw[zd1,ah kB])
   exact g4
  ·(repeat (first|rw[bz,ah kB]|rw[zd1,ah kB]));(first|rw[bz,aE mp]|rw[zd1,aE mp])
  ·(repeat (first|rw[bz,ah kB]|rw[zd1,ah kB]));(first|rw[bz,aE mp]|rw[zd1,aE mp])
  ·(repeat (first|rw[bz,ah kB]|rw[zd1,ah kB]));(first|rw[bz,aE mp]|rw[zd1,aE mp])
  ·(repeat (first|rw[bz,ah kB]|rw[zd1,ah kB]));(first|rw[bz,aE mp]|rw[zd1,aE mp])
  ·(repeat (first|rw[bz,ah kB]|rw[zd1,ah kB]));(first|rw[bz,aE mp]|rw[zd1,aE mp])
  ·(repeat (first|rw[bz,ah kB]|rw[zd1,ah kB]));(first|rw[bz,aE mp]|rw[zd1,aE mp])
 have gf:Hs.get (H2.next+7)=some (.cells [.str [102],.sl (H2.next+3) 0 2 1,.sl (H2.next+4) 0 2 1,.nilS,.int .i64 0,.int .i64 0,.str [],.int .i64 0,.nilS,.str [103],.sl (H2.next+5) 0 1 1,.sl (H2.next+6) 0 1 1,.nilS,.int .i64 0,.int .i64 0,.str [],.int .i64 0,.nilS] 0 true):=by
  rw[<-hHs];(repeat (first|rw[bz,ah kB]|rw[zd1,ah kB]));(first|rw[bz,aE mp]|rw[zd1,aE mp])
 have olds:∀q,q<H2.next+1->Hs.get q=H4.get q:=fun q hq=>by
  rw[<-hHs];repeat (first|rw[bz,ah ac]|rw[zd1,ah kB])
 have hns:Hs.next=H2.next+8:=by rw[<-hHs];simp only[zef,zea];omega
 have hrs:fZ (H2.next+1) Hs H2.next L1 0:=hr4.keep ac olds
 have os:∀q,q<H.next->Hs.get q=H.get q:=fun q hq=>by rw[olds q ac];exact o4' q hq
 clear olds hHs hr4 g4 o4';have h02:(0:Nat)<2:=aY;have h12:(1:Nat)<2:=aY;refine bA rfl bE bF ?_;simp only[bB];refine bp ?_ (yD hG (hst 0 4 0 ac ac) 5 ac ac (H2.next+1) Hs H2.next (L1,0) hrs ro);rintro v1 H5 ⟨hrow1,hr5,n5,o5⟩;rw[<-hB1]at hrow1 hr5;obtain⟨t1,t2⟩:=hrow1.one;have hat5:=hat.keep n5 fun q hq=>o5 q ac ac;have g5t:=hat5.t5;have g5f:H5.get (H2.next+7)=some (.cells [.str [102],.sl (H2.next+3) 0 2 1,.sl (H2.next+4) 0 2 1,.nilS,.int .i64 0,.int .i64 0,.str [],.int .i64 0,.nilS,.str [103],.sl (H2.next+5) 0 1 1,.sl (H2.next+6) 0 1 1,.nilS,.int .i64 0,.int .i64 0,.str [],.int .i64 0,.nilS] 0 true):=by rw[o5 _ ac ac];exact gf
 have gst:=hat.t5;dsimp only[zd4];repeat' (first
  |(apply au ?_;clear hK K)|apply Ry.o ?_|apply cD ?_|apply am ?_|(apply zdQ fun K hK=>?_)|(apply zdP 5 [(1,3),(1,6)] fun K hK=>?_)|(apply zdP 6 [(1,3),(1,6)] fun K hK=>?_)|(apply zdP 7 [(1,3),(1,6)] fun K hK=>?_)|(apply zdP 8 [(1,3),(1,6)] fun K hK=>?_)|(apply zdU ?_;try intro _)|(apply zdV ?_ ?_<;>clear hK K)|apply aH ?_|apply zd9 rfl ?_|apply aB ?_)
 .exact eK
 have n5':=n5;generalize hHa:Hp.set H5 (H2.next+7) _=Ha;have nHa:Ha.next=H5.next:=wt
 have oHa:∀q,q≠H2.next+7->Ha.get q=H5.get q:=fun q hq=>BT
 have gfHa:Ha.get (H2.next+7)=some (.cells [.str [102],.sl (H2.next+3) 0 2 1,.sl (H2.next+4) 0 2 1,v1,.int .i64 0,.int .i64 0,.str [],.int .i64 0,.nilS,.str [103],.sl (H2.next+5) 0 1 1,.sl (H2.next+6) 0 1 1,.nilS,.int .i64 0,.int .i64 0,.str [],.int .i64 0,.nilS] 0 true):=wu;clear hHa;have hatHa:=hat5.keep (qW nHa.symm) fun q hq=>oHa q ac;have gtHa:=hatHa.t5;have hrHa:=hr5.keep (qW nHa.symm) fun q hq=>oHa q ac;have hMl:=hat.lt;repeat' (first
  |(apply au ?_;clear hK K)|apply Ry.o ?_|apply cD ?_|apply am ?_|(apply zdQ fun K hK=>?_)|(apply zdP 5 [(1,3),(1,6)] fun K hK=>?_)|(apply zdP 6 [(1,3),(1,6)] fun K hK=>?_)|(apply zdP 7 [(1,3),(1,6)] fun K hK=>?_)|(apply zdP 8 [(1,3),(1,6)] fun K hK=>?_)|(apply zdU ?_;try intro _)|(apply zdV ?_ ?_<;>clear hK K)|apply aH ?_|apply zd9 rfl ?_|apply aB ?_)
 refine bA rfl bE bF ?_;simp only[bB];refine bp ?_ (zgj hG 4 0 1 ac ac (H2.next+1) Ha H2.next _ _ hrHa ac);rintro _ H6 ⟨⟨cs,rfl,hc1,hc2,hc3⟩,hrH6,nH6,oH6⟩;rw[<-hV1]at hc3 hrH6;obtain⟨p0,p1,p2,p3,p4,rfl⟩:=jE hc1;obtain⟨u0,u1,u2,u3,u4⟩:=sW hc2;have hatH6:=hatHa.keep nH6 fun q hq=>oH6 q ac ac;have gtH6:=hatH6.t5;have gfH6:H6.get (H2.next+7)=some (.cells [.str [102],.sl (H2.next+3) 0 2 1,.sl (H2.next+4) 0 2 1,v1,.int .i64 0,.int .i64 0,.str [],.int .i64 0,.nilS,.str [103],.sl (H2.next+5) 0 1 1,.sl (H2.next+6) 0 1 1,.nilS,.int .i64 0,.int .i64 0,.str [],.int .i64 0,.nilS] 0 true):=by rw[oH6 _ ac ac];exact gfHa
 dsimp only[zd4];repeat' (first
  |(apply au ?_;clear hK K)|apply Ry.o ?_|apply cD ?_|apply am ?_|(apply zdQ fun K hK=>?_)|(apply zdP 5 [(1,3),(1,6)] fun K hK=>?_)|(apply zdP 6 [(1,3),(1,6)] fun K hK=>?_)|(apply zdP 7 [(1,3),(1,6)] fun K hK=>?_)|(apply zdP 8 [(1,3),(1,6)] fun K hK=>?_)|(apply zdU ?_;try intro _)|(apply zdV ?_ ?_<;>clear hK K)|apply aH ?_|apply zd9 rfl ?_|apply aB ?_)
 .exact eK
 generalize hHa:Hp.set H6 (H2.next+7) _=Hb;have nHb:Hb.next=H6.next:=wt
 have oHb:∀q,q≠H2.next+7->Hb.get q=H6.get q:=fun q hq=>BT
 have gfHb:Hb.get (H2.next+7)=some (.cells [.str [102],.sl (H2.next+3) 0 2 1,.sl (H2.next+4) 0 2 1,v1,p0,p1,p2,p3,p4,.str [103],.sl (H2.next+5) 0 1 1,.sl (H2.next+6) 0 1 1,.nilS,.int .i64 0,.int .i64 0,.str [],.int .i64 0,.nilS] 0 true):=wu;clear hHa;have hatHb:=hatH6.keep (qW nHb.symm) fun q hq=>oHb q ac;have gtHb:=hatHb.t5;have hrHb:=hrH6.keep (qW nHb.symm) fun q hq=>oHb q ac;repeat' (first
  |(apply au ?_;clear hK K)|apply Ry.o ?_|apply cD ?_|apply am ?_|(apply zdQ fun K hK=>?_)|(apply zdP 5 [(1,3),(1,6)] fun K hK=>?_)|(apply zdP 6 [(1,3),(1,6)] fun K hK=>?_)|(apply zdP 7 [(1,3),(1,6)] fun K hK=>?_)|(apply zdP 8 [(1,3),(1,6)] fun K hK=>?_)|(apply zdU ?_;try intro _)|(apply zdV ?_ ?_<;>clear hK K)|apply aH ?_|apply zd9 rfl ?_|apply aB ?_)
 refine bA rfl bE bF ?_;simp only[bB];refine bp ?_ (yD hG (hst 1 3 1 ac ac) 3 ac ac (H2.next+1) Hb H2.next (V1.2,B1.2.2) hrHb ro);rintro v2 H7 ⟨hrow2,hrH7,nH7,oH7⟩;rw[<-hB2]at hrow2 hrH7;obtain⟨s1,s2⟩:=hrow2.one;have hatH7:=hatHb.keep nH7 fun q hq=>oH7 q ac ac;have gtH7:=hatH7.t5;have gfH7:H7.get (H2.next+7)=some (.cells [.str [102],.sl (H2.next+3) 0 2 1,.sl (H2.next+4) 0 2 1,v1,p0,p1,p2,p3,p4,.str [103],.sl (H2.next+5) 0 1 1,.sl (H2.next+6) 0 1 1,.nilS,.int .i64 0,.int .i64 0,.str [],.int .i64 0,.nilS] 0 true):=by rw[oH7 _ ac ac];exact gfHb
 dsimp only[zd4];repeat' (first
  |(apply au ?_;clear hK K)|apply Ry.o ?_|apply cD ?_|apply am ?_|(apply zdQ fun K hK=>?_)|(apply zdP 5 [(1,3),(1,6)] fun K hK=>?_)|(apply zdP 6 [(1,3),(1,6)] fun K hK=>?_)|(apply zdP 7 [(1,3),(1,6)] fun K hK=>?_)|(apply zdP 8 [(1,3),(1,6)] fun K hK=>?_)|(apply zdU ?_;try intro _)|(apply zdV ?_ ?_<;>clear hK K)|apply aH ?_|apply zd9 rfl ?_|apply aB ?_)
 .exact eK
 generalize hHa:Hp.set H7 (H2.next+7) _=Hc;have nHc:Hc.next=H7.next:=wt
 have oHc:∀q,q≠H2.next+7->Hc.get q=H7.get q:=fun q hq=>BT
 have gfHc:Hc.get (H2.next+7)=some (.cells [.str [102],.sl (H2.next+3) 0 2 1,.sl (H2.next+4) 0 2 1,v1,p0,p1,p2,p3,p4,.str [103],.sl (H2.next+5) 0 1 1,.sl (H2.next+6) 0 1 1,v2,.int .i64 0,.int .i64 0,.str [],.int .i64 0,.nilS] 0 true):=wu;clear hHa;have hatHc:=hatH7.keep (qW nHc.symm) fun q hq=>oHc q ac;have gtHc:=hatHc.t5;have hrHc:=hrH7.keep (qW nHc.symm) fun q hq=>oHc q ac;repeat' (first
  |(apply au ?_;clear hK K)|apply Ry.o ?_|apply cD ?_|apply am ?_|(apply zdQ fun K hK=>?_)|(apply zdP 5 [(1,3),(1,6)] fun K hK=>?_)|(apply zdP 6 [(1,3),(1,6)] fun K hK=>?_)|(apply zdP 7 [(1,3),(1,6)] fun K hK=>?_)|(apply zdP 8 [(1,3),(1,6)] fun K hK=>?_)|(apply zdU ?_;try intro _)|(apply zdV ?_ ?_<;>clear hK K)|apply aH ?_|apply zd9 rfl ?_|apply aB ?_)
 refine bA rfl bE bF ?_;simp only[bB];refine bp ?_ (zgj hG 4 1 1 ac ac (H2.next+1) Hc H2.next _ _ hrHc ac);rintro _ H8 ⟨⟨ds,rfl,hd1,hd2,hd3⟩,hrH8,nH8,oH8⟩;rw[<-hV2]at hd3 hrH8;obtain⟨w0,zfp,w2,w3,w4,rfl⟩:=jE hd1;obtain⟨z0,z1,z2,z3,z4⟩:=sW hd2;have hatH8:=hatHc.keep nH8 fun q hq=>oH8 q ac ac;have gtH8:=hatH8.t5;have gfH8:H8.get (H2.next+7)=some (.cells [.str [102],.sl (H2.next+3) 0 2 1,.sl (H2.next+4) 0 2 1,v1,p0,p1,p2,p3,p4,.str [103],.sl (H2.next+5) 0 1 1,.sl (H2.next+6) 0 1 1,v2,.int .i64 0,.int .i64 0,.str [],.int .i64 0,.nilS] 0 true):=by rw[oH8 _ ac ac];exact gfHc
 dsimp only[zd4];repeat' (first
  |(apply au ?_;clear hK K)|apply Ry.o ?_|apply cD ?_|apply am ?_|(apply zdQ fun K hK=>?_)|(apply zdP 5 [(1,3),(1,6)] fun K hK=>?_)|(apply zdP 6 [(1,3),(1,6)] fun K hK=>?_)|(apply zdP 7 [(1,3),(1,6)] fun K hK=>?_)|(apply zdP 8 [(1,3),(1,6)] fun K hK=>?_)|(apply zdU ?_;try intro _)|(apply zdV ?_ ?_<;>clear hK K)|apply aH ?_|apply zd9 rfl ?_|apply aB ?_)
 .exact eK
 generalize hHa:Hp.set H8 (H2.next+7) _=Hd;have nHd:Hd.next=H8.next:=wt
 have oHd:∀q,q≠H2.next+7->Hd.get q=H8.get q:=fun q hq=>BT
 have gfHd:Hd.get (H2.next+7)=some (.cells [.str [102],.sl (H2.next+3) 0 2 1,.sl (H2.next+4) 0 2 1,v1,p0,p1,p2,p3,p4,.str [103],.sl (H2.next+5) 0 1 1,.sl (H2.next+6) 0 1 1,v2,w0,zfp,w2,w3,w4] 0 true):=wu;clear hHa;have hatHd:=hatH8.keep (qW nHd.symm) fun q hq=>oHd q ac;have gtHd:=hatHd.t5;have hrHd:=hrH8.keep (qW nHd.symm) fun q hq=>oHd q ac;have gr:=hatHd.rs;have e1:(H2.next+2 == H.next)=false:=zeq ac;have gh0:=@BW;repeat' (first
  |(apply au ?_;clear hK K)|apply Rx.o ?_|apply ba ?_|apply am ?_|(apply zdQ fun K hK=>?_)|(apply zdP 5 [(1,3),(1,6)] fun K hK=>?_)|(apply zdP 6 [(1,3),(1,6)] fun K hK=>?_)|(apply zdP 7 [(1,3),(1,6)] fun K hK=>?_)|(apply zdP 8 [(1,3),(1,6)] fun K hK=>?_)|(apply zdU ?_;try intro _)|(apply zdV ?_ ?_<;>clear hK K)|apply aH ?_|apply zd9 rfl ?_|apply aB ?_)
 refine⟨zdZ,_,(by(try simp only[zdX,zd2,Nat.reduceBEq,Nat.reduceAdd,Nat.reduceLeDiff,tyF,zfD,zfI,BW, *]);first|done|with_reducible rfl),?_⟩;try simp only[zdY]
 have old:∀q,q<H.next->((Hd.set H.next (.cells [.sl (H2.next+1) 0 2 2,.sl (H2.next+7) 0 2 9] 0 true)).get q=H.get q):=fun q hq=>by
  rw[bz,ah ac,oHd _ ac,oH8 _ ac ac,oHc _ ac,oH7 _ ac ac,oHb _ ac,oH6 _ ac ac,oHa _ ac,o5 _ ac ac];exact os q hq
 have hz:=hatHd.keep (H':=Hd.set H.next (.cells [.sl (H2.next+1) 0 2 2,.sl (H2.next+7) 0 2 9] 0 true)) (aM _);refine⟨H2.next+1,H2.next+7,x,y,[.str [102],.sl (H2.next+3) 0 2 1,.sl (H2.next+4) 0 2 1,v1,p0,p1,p2,p3,p4],[.str [103],.sl (H2.next+5) 0 1 1,.sl (H2.next+6) 0 1 1,v2,w0,zfp,w2,w3,w4],rfl,?_,dQ,old,ac,sN H2.next H5.next H6.next H7.next,.sl (H2.next+3) 0 2 1,.sl (H2.next+4) 0 2 1,v1,[p0,p1,p2,p3,p4],.sl (H2.next+5) 0 1 1,.sl (H2.next+6) 0 1 1,v2,[w0,zfp,w2,w3,w4],rfl,rfl,?_,hA,fun q hq=>by unfold sN;rw[aE ac]⟩;all_goals
  have gz:∀q,q≠H.next->(Hd.set H.next (.cells [.sl (H2.next+1) 0 2 2,.sl (H2.next+7) 0 2 9] 0 true)).get q=Hd.get q:=fun q hq=>by rw[bz,ah hq]
  have nz:(Hd.set H.next (.cells [.sl (H2.next+1) 0 2 2,.sl (H2.next+7) 0 2 9] 0 true)).next=Hd.next:=rfl
  generalize (Hd.set H.next (.cells [.sl (H2.next+1) 0 2 2,.sl (H2.next+7) 0 2 9] 0 true))=Hz at *;have hl:=hatHd.lt
 .refine⟨by rw[hgP,hA],by rw[gz _ ac];exact hatHd.ra,by rw[gz _ ac];exact gfHd,⟨ac,ac⟩,⟨ac,ac⟩,ac,rfl,rfl,?_,?_⟩
  .rw[hF1];refine No (n:=13) [102] rfl (BV (n:=12) (imm:=0) (tip:=true) [[120],[121]] ⟨ac,ac,ac⟩ ac (by rw[gz _ ac];exact hatHd.p1) aK) (BV (n:=12) (imm:=0) (tip:=true) [[105],[106]] ⟨ac,ac,ac⟩ ac (by rw[gz _ ac];exact hatHd.l1) aK) ?_ ?_
   .exact(hrow1.keep (fun q _ hq=>⟨ac,ac,ac⟩) ac fun q h1 h2=>Ng).rd.up ac
   .exact(hc3.up ac).keep2 (fun q _ hq=>⟨ac,ac,ac⟩) ac fun q h1 h2=>Nh
  .rw[hF2];refine No (n:=13) [103] rfl (BV (n:=12) (imm:=0) (tip:=true) [[110]] ⟨ac,ac,ac⟩ ac (by rw[gz _ ac];exact hatHd.p2) aK) (BV (n:=12) (imm:=0) (tip:=true) [[105]] ⟨ac,ac,ac⟩ ac (by rw[gz _ ac];exact hatHd.l2) aK) ?_ ?_
   .exact(hrow2.keep (fun q _ hq=>⟨ac,ac,ac⟩) ac fun q h1 h2=>Nk).rd.up ac
   .exact(hd3.up ac).keep2 (fun q _ hq=>⟨ac,ac,ac⟩) ac fun q h1 h2=>by rw[gz _ ac,oHd _ ac]
 .have ls:=hat.lt;refine⟨by rw[gz _ ac];exact hatHd.ra,by rw[gz _ ac,gfHd,hF1,hF2];rfl,ac,ac,ww,ww,⟨hc1,hc2,?_,?_,?_,?_⟩,⟨hd1,hd2,?_,?_,?_,?_⟩⟩
  .rw[hF1];exact Bq (n:=13) [[120],[121]] ww ac (by rw[gz _ ac];exact hatHd.p1)
  .rw[hF1];exact Bq (n:=13) [[105],[106]] ww ac (by rw[gz _ ac];exact hatHd.l1)
  .rw[hF1];exact(hrow1.keep (fun q h1 h2=>zaB ac h1) ac fun q h1 h2=>Ng).up ac
  .rw[hF1];exact(hc3.up ac).keep2 (fun q h1 h2=>zaC ac ac h1) ac fun q h1 h2=>Nh
  .rw[hF2];exact Bq (n:=13) [[110]] ww ac (by rw[gz _ ac];exact hatHd.p2)
  .rw[hF2];exact Bq (n:=13) [[105]] ww ac (by rw[gz _ ac];exact hatHd.l2)
  .rw[hF2];exact(hrow2.keep (fun q h1 h2=>zaD ac ac ac h1) ac fun q h1 h2=>Nk).up ac
  .rw[hF2];exact(hd3.up ac).keep2 (fun q h1 h2=>zaE ac ac ac ac) ac fun q h1 h2=>by rw[gz _ ac,oHd _ ac]
end
end Go.Proofs.YtpbcimfiofmoeaaGreat
