/- Parts: MuQf, MuQ, MutRd, AbArg, Seeds. -/
import Derived.Deep.Slices
import Derived.Test.YtpbcimfiofmoeaaGreatMCU
import Derived.WideKeyArgs
import Derived.WideShapes
set_option linter.unusedSimpArgs false
set_option linter.unusedVariables false
set_option linter.unusedSectionVars false
set_option linter.defProp false
set_option maxHeartbeats 32000000
namespace Go.Ab
set_option maxRecDepth 20000
open Go
theorem TY{P:Prop}(h:P:=by rw[List.length_map,O,show zmr=70368744177664 from rfl];omega):P:=h
theorem EX{P:Prop}(h:P:=by intro e;cases e):P:=h
theorem TZ{P:Prop}(h:P:=by rw[Hp.get_set,if_neg (by have:=V.1;omega)]):P:=h
end Go.Ab
namespace Go.Proofs.YtpbcimfiofmoeaaGreat
set_option maxRecDepth 20000
open Go Go.Ab
section
def tyMuQf.tyF:=ad @ec (ad @cJ (ad @oQ (ad @dd (ad @gY (ad @iQ (ad @fI (ad @fx (ad @em (ad @en (ad @zms (ad @iR (ad @jw (ad @rH (ad @eY (ad @pU (ad @TI (ad @yf (@yg))))))))))))))))))
open tyMuQf
theorem zkq(s:List UInt8)(n:Int):zma Tryz.prog 86 [(0,.str s),(1,.int .i64 n)]=some (.agg [.str s,.int .i64 n]):=SN s n
theorem zkr(H:Hp)(s:List UInt8)(n:Int):zmb Tryz.prog H 24 1 [(0,.agg [.str s,.int .i64 n])]=some (.sl H.next 0 1 2,H.alloc (.cells [.str s,.int .i64 n] 0 true)):=aj
theorem bF1(s:List UInt8):zma Tryz.prog 65 [(0,.str s)]=some (.agg [.str s,.nilS,.nilS,.nilS,.int .i64 0,.int .i64 0,.str [],.int .i64 0,.nilS]):=aj
theorem bF2(s:List UInt8)(a b c d e:AV):zma Tryz.prog 65 [(0,.str s),(4,.agg [a,b,c,d,e])]=some (.agg [.str s,.nilS,.nilS,.nilS,a,b,c,d,e]):=aj
theorem T0(H:Hp)(znw J V j K Z C z Y:AV):zmb Tryz.prog H 47 1 [(0,.agg [znw,J,V,j,K,Z,C,z,Y])]=some (.sl H.next 0 1 9,H.alloc (.cells [znw,J,V,j,K,Z,C,z,Y] 0 true)):=aj
theorem zku(H:Hp)(a b:List UInt8):zmb Tryz.prog H 59 2 [(0,.str a),(1,.str b)]=some (.sl H.next 0 2 1,H.alloc (.cells ([a,b].map .str) 0 true)):=aj
theorem T1{S:Nat->Prop}{n:Nat}{H:Hp}(s:List UInt8)(k x o:Int)(nm:List UInt8):zlJ S (n+1) H [.str s,.nilS,.nilS,.nilS,.int .i64 k,.int .i64 x,.str nm,.int .i64 o,.nilS] (Fu.mk s [] [] [] (.mk k x nm o [])).cells:=
 EC (p:=.nilS) (l:=.nilS) (b:=.nilS) (v:=[.int .i64 k,.int .i64 x,.str nm,.int .i64 o,.nilS]) s rfl .nilS .nilS .nilS (oo k x o nm)
theorem T2{lo P r n N:Nat}{H Hb:Hp}{C:AV}{Z:List Fu}(h:zmf (fun q=>lo<=q/\q≠r/\q≠P) n H 9 C (Z.map Fu.cells))(hlo:lo<=H.next)(Y:P<H.next)(hrl:r<H.next)(hn:H.next<=Hb.next)(o:∀q,q<H.next->Hb.get q=H.get q){t:Nat}{row:List AV}{w:Fu}(hg:Hb.get t=some (.cells row 0 true))(K:row.length=9)(U:row.all AV.one=true)(hw:∀H',zlJ (fun q=>H.next<=q/\q<Hb.next) n H' row w.cells)(O:Z.length=N)(hl:N<2^30):
 ∃H',zmc Tryz.prog false Hb 47 47 C (.sl t 0 1 9)=some (.sl Hb.next 0 (N+1) 9,H')/\H'.next=Hb.next+1/\(∀q,q<H.next->(q<lo\/q=r\/q=P)->H'.get q=H.get q) /\
  ∀M:Hp,M.next=H'.next->(∀q,q≠P->M.get q=H'.get q)->zmf (fun q=>lo<=q/\q≠r/\q≠P) n M 9 (.sl Hb.next 0 (N+1) 9) ((Z++[w]).map Fu.cells):=by
 classical
 have h':zmf (fun q=>(if lo<=q/\q≠r/\q≠P then 1 else 0)=1) n H 9 C (Z.map Fu.cells):=h.keep (fun q _ V=>am V) (aB _) fun _ _ _=>rfl;have I:∃J,zlV Tryz.prog 65=some J/\J.length=9:=⟨_,GL,rfl⟩;obtain⟨J,I,z⟩:=I;obtain⟨H',flat,imm',a1,b1,b2,b3,a2,a3,a4⟩:=A2 (P:=Tryz.prog) (t:=47) Tryz.underlying47 Cw GK I z aj h' hn (fun q m _=>o q m) hg K U TY TY;rw[cp,O]at a1 a4 b1 b2;refine⟨H',a1,a2,fun q h1 h2=>?_,fun M m j=>?_⟩
 .rw[a3 q ac (.inr (by rw[af ac];decide)),o q h1]
 .have:=a4 M P row w.cells ac (fun q h6 _=>j q h6) (by rw[af (fun h=>h.2.2 rfl)];decide) Y (by rw[j _ ac];exact b3) K (hw Hb);rw[l0,dM,mh];refine this.keep (fun q _ V=>?_) (aB _) fun _ _ _=>rfl;by_cases hc:H.next<=q
  .exact⟨ac,ac,ac⟩
  .rw[af hc]at V;by_cases hd:lo<=q/\q≠r/\q≠P
   .exact hd
   .rw[af hd]at V;cases V
theorem J1:∀a b:List Fu,zmv (a++b)=zmv a+zmv b
 |[],b=>by rw[ly,zmv];omega
 |x::a,b=>by rw[lI,zmv,zmv,J1 a b];omega
theorem T3:∀a b:List Ar,zmL (a++b)=zmL a+zmL b
 |[],b=>by rw[ly,zmL];omega
 |x::a,b=>by rw[lI,zmL,zmL,T3 a b];omega
theorem J2{i:Nat}{x y:Int}{f g:Fu}(h1:f.sz<2^24)(h2:g.sz<2^24)(z:qx f)(Y:qx g):(il i x y f g).sz<2^26/\(∀M∈(il i x y f g).funcs,M.name≠pB)/\(∀a∈(il i x y f g).arrays,a.name≠pB)/\∀M∈(il i x y f g).funcs,dt M.body/\d9 M.value:=by
 refine⟨?_,?_,?_,?_⟩
 .cases i<;>simp only[il,sk,A1,Pr.sz,zmL,zmv,mU]<;>omega
 .intro M o;cases i<;>simp only[il,sk,jp]at o <;>rcases o with rfl|rfl<;>first|exact z.1|exact Y.1
 .intro a O;cases i<;>simp only[il,sk,A1,jp]at O<;>rcases O with rfl|rfl<;>(intro e;cases e)
 .intro M o;cases i<;>simp only[il,sk,jp]at o <;>rcases o with rfl|rfl<;>first|exact z.2|exact Y.2
theorem T4{p:Pr}{l:List Fu}(h:p.sz<2^26/\(∀M∈p.funcs,M.name≠pB)/\(∀a∈p.arrays,a.name≠pB)/\∀M∈p.funcs,dt M.body/\d9 M.value)(h1:zmv l<2^20)(h2:∀M∈l,qx M):MutG ⟨p.arrays,p.funcs++l⟩:=by
 refine⟨?_,fun f K=>?_,h.2.2.1,fun f K=>?_⟩
 .have z:=h.1;simp only[Pr.sz,J1]at z⊢;omega
 .rcases mX.1 K with K|K
  .exact h.2.1 f K
  .exact(h2 f K).1
 .rcases mX.1 K with K|K
  .exact h.2.2.2 f K
  .exact(h2 f K).2
theorem zt0{p:Pr}{a:Ar}(h:p.sz<2^26/\(∀M∈p.funcs,M.name≠pB)/\(∀a∈p.arrays,a.name≠pB)/\∀M∈p.funcs,dt M.body/\d9 M.value)(h1:a.name.length<=17)(h2:a.name≠pB):MutG ⟨p.arrays++[a],p.funcs⟩:=by
 refine⟨?_,h.2.1,fun f K=>?_,h.2.2.2⟩
 .have z:=h.1;simp only[Pr.sz,T3,zmL]at z⊢;omega
 .rcases mX.1 K with K|K
  .exact h.2.2.1 f K
  .simp at K;subst K;exact h2
def qB(j:Nat):List Fu:=(List.range j).map fun j=>⟨[104,UInt8.ofNat (97+j)],[],[],[],.mk 1 0 [] 0 []⟩
theorem T5(j:Nat):qB (j+1)=qB j++[⟨[104,UInt8.ofNat (97+j)],[],[],[],.mk 1 0 [] 0 []⟩]:=by simp[qB,zH]
theorem zB5(j:Nat):(qB j).length=j:=by simp[qB]
theorem T6:∀j,zmv (qB j)<=30*j
 |0=>by simp[qB,zmv]
 |j+1=>by
  have:=T6 j;rw[T5,J1];simp only[zmv,Fu.sz,zmd,zld,Ex.sz,zlZ,mU];omega
theorem zkx(j:Nat):∀f∈qB j,qx f:=by
 intro f K;simp only[qB,kV,lZ]at K;obtain⟨k,_,rfl⟩:=K;exact⟨fun e=>by simp[pB]at e,by simp[dt],by simp[d9,zmn,rz]⟩
theorem T7{i:Nat}{x y:Int}{f g:Fu}:(il i x y f g).funcs.length=2:=by cases i<;>rfl
theorem J3{i:Nat}{x y:Int}{f g:Fu}:(il i x y f g).arrays.length=2:=by cases i<;>rfl
set_option maxRecDepth 100000 in
theorem mp6{lG:List En}(hG:MutL lG){i:Nat}{a h k:Int}{lo m P:Nat}{Hs H:Hp}{C I:Nat}{x y:Int}{f g:Fu}{pf lf bf:AV}{vf:List AV}{pg lg bg:AV}{vg:List AV}{E:aw}(hat:AtM i a h k lo m P Hs H C I x y f g pf lf bf vf pg lg bg vg E)(hh:h=6):zlt Tryz.prog (zkY pls lG) 26 285 zm2 E H (mT lo m P Hs):=by
 obtain⟨⟨pt,b,b',hX,hPt⟩,hi,hm,loP,z,gp,old,fs,gs,fn,gn,hpi,k2,k6,k7,k8,k9,k27⟩:=hat;have hkeep:(zkY pls lG).keep 26=false:=rfl;subst hh;obtain⟨v0,v1,v2,v3,v4,rfl⟩:=zmq hX.F.len;obtain⟨w0,zlG,w2,w3,w4,rfl⟩:=zmq hX.G.len;obtain⟨z0,z1,z2,z3,z4⟩:=ji hX.F.one;have ltA:=hX.ltA;have ltF:=hX.ltF;have hlo:=hX.hlo;have hbb:=hX.hb;have lrf:=hX.lrf;have lra:=hX.lra;have J:I≠P:=fun e=>oz;have O:C≠P:=fun e=>nE;have hrr:=hX.ne;have lof:=hX.lo_of (q:=I) ac;have loa:=hX.lo_of (q:=C) ac;have e1:(I == H.next)=false:=zkV ac;have e2:(I == H.next+1)=false:=zkV ac;have e3:(I == H.next+2)=false:=zkV ac;have e4:(H.next == I)=false:=zkV ac;have e5:(I == P)=false:=zkV J;have e6:(P == I)=false:=zkV (Ne.symm J);have e7:(P == H.next)=false:=zkV ac;have e8:(P == H.next+1)=false:=zkV ac;have e9:(C == H.next)=false:=zkV ac;have e10:(C == H.next+1)=false:=zkV ac;have hr:=zmO (n:=k) (m:=5) ac ac;have hr0:=hr.1;have hnm:=uT ym (n:=zla k 5) EF;have hix:=fun r=>uS r 5 hr.1 ac;have hbs:=fun H=>JS H [97] [99] [120] [102] [111,117,116];change ∀H,zmb _ H _ _ _=some (_,H.alloc (.cells (ym.map .str) 0 true))at hbs;have U:=J2 (i:=i) (x:=x) (y:=y) fs gs fn gn;have hA:=(hX.arsP.keep (S':=fun q=>lo<=q/\q=C) (fun q _ V=>⟨ac,V⟩) (aB _) fun _ _ _=>rfl).up (show 14+1<=50 by omega);have hFn:=(hX.fnsP.keep (S':=fun q=>lo<=q/\q≠C/\q≠P) (fun q _ V=>⟨hX.lo_of V.1,V.2,fun e=>V.1 (by rw[e];exact hPt)⟩) (aB _) fun _ _ _=>rfl).up (show 14+1<=50 by omega);have hnl:=uX (l:=ym) aE (zla k 5).toNat;have hnz:=JZ (l:=ym) aE (zla k 5).toNat;generalize hs:ym.getD (zla k 5).toNat []=s at *
 classical
 have h':zmf (fun q=>(if q=C then 1 else 0)=1) 15 H 2 (.sl C 0 2 2) ((il i x y f g).arrays.map Ar.cells):=hX.arsP.keep (fun q _ V=>am V) (aB _) fun _ _ _=>rfl;obtain⟨zz,hz,hzz⟩:∃zz,zlV Tryz.prog 86=some zz/\zz.length=2:=⟨_,Cz,rfl⟩;obtain⟨H',flat,imm',a1,b1,b2,b3,a2,a3,a4⟩:=A2 (P:=Tryz.prog) (t:=24) Tryz.underlying24 zA Cy hz hzz aj h' (Hb:=(H.alloc (.cells (ym.map .str) 0 true)).alloc (.cells [.str s,.int .i64 3] 0 true)) cL (fun q Z _=>EQ) (r:=H.next+1) (row:=[.str s,.int .i64 3]) rX rfl rfl (by rw[cp,J3,show zmr=70368744177664 from rfl];decide +kernel) (by rw[cp,J3,show zmr=70368744177664 from rfl];decide);rw[cp,J3]at a1 a4 b1 b2;simp only[zk9,iE,Nat.reduceAdd]at a1 a2 a3 a4 b3;have fr:∀q,q<H.next->q≠C->H'.get q=H.get q:=fun q Z j=>by
  rw[a3 q ac (.inr (by rw[af j];decide)),zmI cL,zmI Z]
 have gr:=(fr P z (Ne.symm O)).trans gp;rcases hi with rfl|rfl;all_goals
  simp only[oA]at k8;first|have gf:=hX.gf0|have gf:=hX.gf1
  dsimp only[zm2,nG,mS,fW,lR];have gh0:=@zkq;have gh1:=@zkr;repeat' (first
   |(apply ah ?_;clear hK K)|apply Ry.o ?_|apply dG ?_|(apply d7 ?_;first|refine zlc (znn hG.pick k 5 aE _) ?_)|(apply bb (fun hb hbp=>?_) (fun hb hbp=>?_)<;>try(cases hb;done))|apply ak ?_|(apply zkU fun K hK=>?_)|(apply zmm 19 [(1,4),(1,9),(2,4),(2,9),(6,9),(8,9)] fun K hK=>?_)|(apply zlC ?_;try intro _)|(apply zmk ?_ ?_<;>clear hK K)|apply bZ ?_|apply zmK rfl ?_|apply aG ?_|fail)
  .exact zlU
  generalize Y:Hp.set H' P _=o;have n7:o.next=H'.next:=by rw[<-Y];rfl
  have M:∀q,q≠P->o.get q=H'.get q:=fun q V=>by rw[<-Y,aJ,af V]
  have g7:=show o.get P=some _ by rw[<-Y,aJ,am rfl]
  have hA7:=a4 o P [.str s,.int .i64 3] [.str s,.int .i64 3] ac (fun q Z _=>M q Z) (by rw[af (Ne.symm O)];decide) z (by rw[M _ ac];exact b3) rfl (.cons (.str _) (.cons (.int _ _) .nil));clear Y;refine⟨rfl,eE,eE,_,_,⟨(il _ x y f g).arrays++[⟨s,3⟩],(il _ x y f g).funcs⟩,fun q=>H.next<=q\/q=C,g7,ac,⟨ac,?_,?_,zt0 U hnl hnz⟩,?_⟩
  .rw[l0];refine(hA7.keep (fun q Z j=>?_) (aB _) fun _ _ _=>rfl).up ac;by_cases hc:H.next<=q
   .exact⟨ac,.inl hc⟩
   .rw[af hc]at j;by_cases hd:q=C
    .exact⟨ac,.inr hd⟩
    .rw[af hd]at j;cases j
  .exact hFn.keep (fun q Z j=>⟨j.1,fun h=>h.elim (fun h=>ac) j.2.1,j.2.2⟩) ac fun q Z j=>by rw[M q Z.2.2,fr q j Z.2.1]
  .intro q Z;rw[M q ac,fr q ac ac];exact old q Z
set_option maxRecDepth 100000 in
theorem zkz{M:List En}(hG:MutL M){i:Nat}{a h k:Int}{lo m P:Nat}{Hs H:Hp}{Z I:Nat}{x y:Int}{f g:Fu}{pf lf bf:AV}{vf:List AV}{pg lg bg:AV}{vg:List AV}{E:aw}(hat:AtM i a h k lo m P Hs H Z I x y f g pf lf bf vf pg lg bg vg E)(hh:h=17):zlt Tryz.prog (zkY pls M) 26 285 zm2 E H (mT lo m P Hs):=by
 obtain⟨⟨pt,b,b',hX,hPt⟩,hi,hm,loP,z,gp,old,fs,gs,fn,gn,hpi,k2,k6,k7,k8,k9,k27⟩:=hat;have hkeep:(zkY pls M).keep 26=false:=rfl;subst hh;obtain⟨v0,v1,v2,v3,v4,rfl⟩:=zmq hX.F.len;obtain⟨w0,zlG,w2,w3,w4,rfl⟩:=zmq hX.G.len;obtain⟨z0,z1,z2,z3,z4⟩:=ji hX.F.one;have ltA:=hX.ltA;have ltF:=hX.ltF;have hlo:=hX.hlo;have hbb:=hX.hb;have lrf:=hX.lrf;have lra:=hX.lra;have J:I≠P:=fun e=>oz;have raP:Z≠P:=fun e=>nE;have hrr:=hX.ne;have lof:=hX.lo_of (q:=I) ac;have loa:=hX.lo_of (q:=Z) ac;have e1:(I == H.next)=false:=zkV ac;have e2:(I == H.next+1)=false:=zkV ac;have e3:(I == H.next+2)=false:=zkV ac;have e4:(H.next == I)=false:=zkV ac;have e5:(I == P)=false:=zkV J;have e6:(P == I)=false:=zkV (Ne.symm J);have e7:(P == H.next)=false:=zkV ac;have e8:(P == H.next+1)=false:=zkV ac;have e9:(Z == H.next)=false:=zkV ac;have e10:(Z == H.next+1)=false:=zkV ac;have hr:=zmO (n:=k) (m:=2) ac ac;have hr0:=hr.1;have hnm:=uT yn (n:=zla k 2) (by show _<2;omega);have hix:=fun r=>uS r 2 hr.1 ac;have hbs:=fun H=>zku H [102] [104];change ∀H,zmb _ H _ _ _=some (_,H.alloc (.cells (yn.map .str) 0 true))at hbs;have j:=J2 (i:=i) (x:=x) (y:=y) fs gs fn gn;have hA:=(hX.arsP.keep (S':=fun q=>lo<=q/\q=Z) (fun q _ V=>⟨ac,V⟩) (aB _) fun _ _ _=>rfl).up (show 14+1<=50 by omega);have hFn:=(hX.fnsP.keep (S':=fun q=>lo<=q/\q≠Z/\q≠P) (fun q _ V=>⟨hX.lo_of V.1,V.2,fun e=>V.1 (by rw[e];exact hPt)⟩) (aB _) fun _ _ _=>rfl).up (show 14+1<=50 by omega);have hnl:=uX (l:=yn) aE (zla k 2).toNat;have hnz:=JZ (l:=yn) aE (zla k 2).toNat;generalize hs:yn.getD (zla k 2).toNat []=s at *;obtain⟨H',a1,a2,U,a4⟩:=T2 hFn hlo z ltA (Hb:=(H.alloc (.cells (yn.map .str) 0 true)).alloc (.cells [.str s,.nilS,.nilS,.nilS,.int .i64 0,.int .i64 0,.str [],.int .i64 0,.nilS] 0 true)) cL (fun q Y=>by rw[zmI cL,zmI Y]) (t:=H.next+1) (row:=[.str s,.nilS,.nilS,.nilS,.int .i64 0,.int .i64 0,.str [],.int .i64 0,.nilS]) (w:=⟨s,[],[],[],.mk 0 0 [] 0 []⟩) rX rfl rfl (fun H'=>T1 (n:=49) s 0 0 0 []) T7 ac;simp only[zk9,iE,Nat.reduceAdd]at a1 a2 U a4;have gr:=(U P z (.inr (.inr rfl))).trans gp;rcases hi with rfl|rfl;all_goals
  simp only[oA]at k8;first|have gf:=hX.gf0|have gf:=hX.gf1
  dsimp only[zm2,nG,mS,fW,lR];have gh0:=@bF1;have gh1:=@T0;repeat' (first
   |(apply ah ?_;clear hK K)|apply Ry.o ?_|apply dG ?_|(apply d7 ?_;first|refine zlc (znn hG.pick k 2 aE _) ?_)|(apply bb (fun hb hbp=>?_) (fun hb hbp=>?_)<;>try(cases hb;done))|apply ak ?_|(apply zkU fun K hK=>?_)|(apply zmm 52 [(1,4),(1,9),(2,4),(2,9),(6,9),(8,9)] fun K hK=>?_)|(apply zlC ?_;try intro _)|(apply zmk ?_ ?_<;>clear hK K)|apply bZ ?_|apply zmK rfl ?_|apply aG ?_|fail)
  .exact zlU
  generalize C:Hp.set H' P _=O;have n7:O.next=H'.next:=by rw[<-C];rfl
  have o7:∀q,q≠P->O.get q=H'.get q:=fun q V=>by rw[<-C,aJ,af V]
  have g7:=show O.get P=some _ by rw[<-C,aJ,am rfl]
  have hF7:=a4 O n7 o7;clear C;refine⟨rfl,eE,eE,_,_,⟨(il _ x y f g).arrays,(il _ x y f g).funcs++[⟨s,[],[],[],.mk 0 0 [] 0 []⟩]⟩,fun q=>q=Z,g7,ac,⟨Ne.symm raP,?_,hF7,T4 j (by simp only[zmv,Fu.sz,zmd,zld,Ex.sz,zlZ,eW];omega) (by intro f' o;simp at o;subst o;exact⟨hnz,by simp[dt],by simp[d9,zmn,rz]⟩)⟩,?_⟩
  .exact hA.keep (fun _ _ h=>h) ac fun q Y h2=>by rw[o7 q ac,U q h2 (.inr (.inl Y.2))]
  .intro q Y;rw[o7 q ac,U q ac (.inl Y)];exact old q Y
set_option maxRecDepth 100000 in
theorem zkA{lG:List En}(hG:MutL lG){i:Nat}{a h k:Int}{lo m P:Nat}{Hs H:Hp}{C I:Nat}{x y:Int}{f g:Fu}{pf lf bf:AV}{vf:List AV}{pg lg bg:AV}{vg:List AV}{E:aw}(hat:AtM i a h k lo m P Hs H C I x y f g pf lf bf vf pg lg bg vg E)(hh:h=18):zlt Tryz.prog (zkY pls lG) 26 285 zm2 E H (mT lo m P Hs):=by
 obtain⟨⟨pt,b,b',hX,hPt⟩,hi,hm,loP,ltP,gp,old,fs,gs,fn,gn,hpi,k2,k6,k7,k8,k9,k27⟩:=hat;have hkeep:(zkY pls lG).keep 26=false:=rfl;subst hh;obtain⟨v0,v1,v2,v3,v4,rfl⟩:=zmq hX.F.len;obtain⟨w0,zlG,w2,w3,w4,rfl⟩:=zmq hX.G.len;obtain⟨z0,z1,z2,z3,z4⟩:=ji hX.F.one;have ltA:=hX.ltA;have ltF:=hX.ltF;have hlo:=hX.hlo;have hbb:=hX.hb;have lrf:=hX.lrf;have lra:=hX.lra;have rfP:I≠P:=fun e=>oz;have raP:C≠P:=fun e=>nE;have hrr:=hX.ne;have lof:=hX.lo_of (q:=I) ac;have loa:=hX.lo_of (q:=C) ac;have e1:(I == H.next)=false:=zkV ac;have e2:(I == H.next+1)=false:=zkV ac;have e3:(I == H.next+2)=false:=zkV ac;have e4:(H.next == I)=false:=zkV ac;have e5:(I == P)=false:=zkV rfP;have e6:(P == I)=false:=zkV (Ne.symm rfP);have e7:(P == H.next)=false:=zkV ac;have e8:(P == H.next+1)=false:=zkV ac;have e9:(C == H.next)=false:=zkV ac;have e10:(C == H.next+1)=false:=zkV ac;have hpr:=zmO (n:=k) (m:=8) ac ac;obtain⟨M,hM⟩:∃M:Nat,zla k 8=(M:Int):=⟨(zla k 8).toNat,ac⟩;have hMl:M<8:=ac;have kp:=fun H=>znn hG.pick k 8 aE H;rw[hM]at kp;have z:=J2 (i:=i) (x:=x) (y:=y) fs gs fn gn;have hA:=(hX.arsP.keep (S':=fun q=>lo<=q/\q=C) (fun q _ V=>⟨ac,V⟩) (aB _) fun _ _ _=>rfl).up (show 14+1<=50 by omega);have hFn:=(hX.fnsP.keep (S':=fun q=>lo<=q/\q≠C/\q≠P) (fun q _ V=>⟨hX.lo_of V.1,V.2,fun e=>V.1 (by rw[e];exact hPt)⟩) (aB _) fun _ _ _=>rfl).up (show 14+1<=50 by omega);have gp0:=gp;clear gp;rcases hi with rfl|rfl;all_goals
  simp only[oA]at k8;first|have gf:=hX.gf0|have gf:=hX.gf1
  dsimp only[zm2,nG,mS,fW,lR];have gp:=gp0;repeat' (first
   |(apply ah ?_;clear hK K)|apply Ry.o ?_|(apply bb (fun o U=>?_) (fun o U=>?_)<;>try(cases o;done))|apply ak ?_|(apply zkU fun K hK=>?_)|apply aG ?_|fail)
  refine zlL [2,6,7,8,9] [] 16 M (fun j E Y=>∃vb,Y.get P=some (.cells [.sl C 0 2 2,vb] 0 true)/\zmf (fun q=>lo<=q/\q≠C/\q≠P) 50 Y 9 vb (((il _ x y f g).funcs++qB j).map Fu.cells)/\(∀q,q<H.next->(q<lo\/q=C)->Y.get q=H.get q)) eE ⟨.sl I 0 2 9,gp,by rw[show(il _ x y f g).funcs++qB 0=(il _ x y f g).funcs from bj _];exact hFn,fun _ _ _=>rfl⟩ ?_;rintro j E Y hj hcE hrH hnH hsI ⟨vb,gp3,J,O⟩;(try simp only[zlm,zlb,aR,zk1,Nat.reduceBEq, *]at hcE);(try simp only[zlb, *]at hrH);(try simp only[zk9,zli,zlI,bL,Nat.reduceAdd]at hnH);clear gp;have hnx:H.next<=Y.next:=Bb
  have f1:(I == Y.next)=false:=zkV ac;have f2:(I == Y.next+1)=false:=zkV ac;have f3:(I == Y.next+2)=false:=zkV ac;have f4:(P == Y.next)=false:=zkV ac;have f5:(P == Y.next+1)=false:=zkV ac;obtain⟨o1,o2⟩:=J.one;repeat' (first
   |(apply ah ?_;clear hK K)|apply Ry.o ?_|(apply d7 ?_;first|refine zlc (kp _) ?_)|(apply bb (fun o U=>?_) (fun o U=>?_)<;>try(cases o;done))|apply ak ?_|(apply zkU fun K hK=>?_)|apply aG ?_|apply zk3 ?_|apply zlu ?_)
  .have hlt:j<M:=by omega
   have hw97:IntKind.wrap .i64 (97+(j:Int))=97+(j:Int):=znj ac ac;have hcv:=fun H=>pU H .i64 (97+(j:Int));generalize hmm:IntKind.wrap .u8 (97+(j:Int))=mm at hcv;have hmc:UInt8.ofNat mm.toNat=UInt8.ofNat (97+j):=by rw[<-hmm];exact TH ac
   have hg3:(Y.alloc (.cells [.int .u8 mm] 0 true)).get Y.next=some (.cells [.int .u8 mm] 0 true):=gH
   have hcu:=EV hg3;rw[hmc]at hcu;have hcat:∀D t,zmt Tryz.prog D .add t (.str [104]) (.str [UInt8.ofNat (97+j)])=some (.str [104,UInt8.ofNat (97+j)]):=fun D t=>Lq (by simp[zmr]);obtain⟨H',a1,a2,a3,a4⟩:=T2 J ac ac ac (Hb:=(Y.alloc (.cells [.int .u8 mm] 0 true)).alloc (.cells [.str [104,UInt8.ofNat (97+j)],.nilS,.nilS,.nilS,.int .i64 1,.int .i64 0,.str [],.int .i64 0,.nilS] 0 true)) cL (fun q Z=>EQ) (t:=Y.next+1) (row:=[.str [104,UInt8.ofNat (97+j)],.nilS,.nilS,.nilS,.int .i64 1,.int .i64 0,.str [],.int .i64 0,.nilS]) (w:=⟨[104,UInt8.ofNat (97+j)],[],[],[],.mk 1 0 [] 0 []⟩) rX rfl rfl (fun H'=>T1 (n:=49) [104,UInt8.ofNat (97+j)] 1 0 0 []) (by rw[fj,T7,zB5]) ac;simp only[zk9,iE,Nat.reduceAdd]at a1 a2 a3 a4;have gr:=(a3 P ac (.inr (.inr rfl))).trans gp3;have zlQ:Y.next<=H'.next:=ac
   have gh0:=@bF2;have gh1:=@T0;repeat' (first
    |(apply ah ?_;clear hK K)|apply Rx.o ?_|apply bS ?_|(apply zkU fun K hK=>?_)|fail)
   refine⟨ac,zk8,zk8,zlF,yj,?_⟩;refine⟨_,gQ,?_,?_⟩
   .rw[T5,<-i8];exact a4 _ rfl (fun q V=>by rw[aJ,af V])
   .intro q Z h2;rw[aJ,af ac,a3 q ac ac];exact O q Z h2
  .have hje:j=M:=by omega
   subst hje;refine⟨rfl,eE,eE,_,_,⟨(il _ x y f g).arrays,(il _ x y f g).funcs++qB j⟩,fun q=>q=C,gp3,ac,⟨Ne.symm raP,?_,J,T4 z (by have:=T6 j;omega) (zkx j)⟩,?_⟩
   .exact hA.keep (fun _ _ h=>h) hnx fun q Z h2=>O q h2 (.inr Z.2)
   .intro q Z;rw[O q ac (.inl Z)];exact old q Z
end
section
def tyMuQ.tyF:=ad @ec (ad @cJ (ad @oQ (ad @dd (ad @gY (ad @iQ (ad @fI (ad @fx (ad @em (ad @en (ad @zms (ad @iR (ad @jw (ad @rH (ad @eY (ad @pU (ad @qK (@JI)))))))))))))))))
open tyMuQ
theorem T8{V:List En}(Z:MutL V){i:Nat}{a h k:Int}{lo m P:Nat}{C H:Hp}{ra rf:Nat}{x y:Int}{f g:Fu}{pf lf bf:AV}{vf:List AV}{pg lg bg:AV}{vg:List AV}{E:aw}(U:AtM i a h k lo m P C H ra rf x y f g pf lf bf vf pg lg bg vg E):zlt Tryz.prog (zkY pls V) 26 285 zm2 E H (mT lo m P C):=by
 by_cases c1:h=1
 .exact mp1 Z U c1
 by_cases c2:h=2
 .exact mp2 Z U c2
 by_cases c3:h=3
 .exact mp3 Z U c3
 by_cases c4:h=4
 .exact mp4 Z U c4
 by_cases c5:h=5
 .exact mp5 Z U c5
 by_cases c6:h=6
 .exact mp6 Z U c6
 by_cases c7:h=7
 .exact mp7 Z U c7
 by_cases c8:h=8
 .exact mp8 Z U c8
 by_cases c9:h=9
 .exact mp9 Z U c9
 by_cases z:h=10
 .exact zke Z U z
 by_cases j:h=11
 .exact zkf Z U j
 by_cases Y:h=12
 .exact Bg Z U ⟨ac,ac⟩
 by_cases o:h=13
 .exact Bg Z U ⟨ac,ac⟩
 by_cases I:h=14
 .exact Bg Z U ⟨ac,ac⟩
 by_cases J:h=15
 .exact Bg Z U ⟨ac,ac⟩
 by_cases K:h=16
 .exact Bg Z U ⟨ac,ac⟩
 by_cases M:h=17
 .exact zkz Z U M
 by_cases O:h=18
 .exact zkA Z U O
 refine zj9 Z U ?_;simp only[Ct,DJ,false_implies,implies_true,aR];exact⟨c1,c2,c3,c4,c5,c6,c7,c8,c9,z,j,Y,o,I,J,K,M,O⟩
theorem T9{i:Nat}{pt:Nat->Nat}{lo b U m P:Nat}{C I:Nat}{x y a:Int}{f g:Fu}{Z K bf:AV}{M:List AV}{O V j:AV}{vg:List AV}{Y:Hp}(h:ProgX i (fun q=>if Y.next<=q then 0 else pt q) lo b U 14 ((Y.alloc (.cells [.nilS,.nilS] 0 true)).set Y.next (.cells [.sl C 0 2 2,.sl I 0 2 9] 0 true)) C I x y f g Z K bf M O V j vg)(hi:i=0\/i=1)(J:P=Y.next)(hlo:lo<=Y.next)(fs:f.sz<2^24)(gs:g.sz<2^24)(fn:qx f)(gn:qx g)(o:zla a 2=i)(hm:m<lo){E:aw}{hh k:Int}
 (k2:E.at 2=.int .i64 a) (k6:E.at 6=.ptr m 0) (k7:E.at 7=.ptr P 0) (k8:E.at 8=.ptr I (9*i)) (k9:E.at 9=.int .i64 k) (z:E.at 27=.int .i64 hh) :
 AtM i a hh k lo m P ((Y.alloc (.cells [.nilS,.nilS] 0 true)).set Y.next (.cells [.sl C 0 2 2,.sl I 0 2 9] 0 true)) ((Y.alloc (.cells [.nilS,.nilS] 0 true)).set Y.next (.cells [.sl C 0 2 2,.sl I 0 2 9] 0 true)) C I x y f g Z K bf M O V j vg E:=
 ⟨⟨_,b,U,h,by rw[J,am (aB _)]⟩,hi,hm,ac,by rw[J];exact cE _,by rw[J,aJ,am rfl],fun _ _=>rfl,fs,gs,fn,gn,o,k2,k6,k7,k8,k9,z⟩
theorem zkB(r:Nat):zlO Tryz.prog 47 (.sl r 0 2 9) (.int .i64 0)=some (.ptr r 0):=aj
theorem zkC(r:Nat):zlO Tryz.prog 47 (.sl r 0 2 9) (.int .i64 1)=some (.ptr r 9):=aj
set_option maxRecDepth 100000 in
theorem zlA{C:List En}(O:MutL C)(hst:JG C)(l:List Int)(hl:l.length<2^63)(hL:js l)(z a:Int)(H:Hp):
 zk5 Tryz.prog (zkY pls C) 26 [.lst (l.map fun n=>[AV.int .i64 n]),.int .i64 z,.int .i64 a] H fun v H'=>∃va vb p R P,v=.agg [va,vb]/\MutR (H.next+1) P 50 H' va vb p R/\H.next<=H'.next/\∀q,q<H.next->H'.get q=H.get q:=by
 have hw:Plain (zkY pls C) 26:=zml O.plm.1 O.plm.2;have hkeep:(zkY pls C).keep 26=false:=rfl;have hsz:=zw8 l;have j:=zBX hL;have hq24:(24:Int)≠0:=aE;have hpr:=zmO (n:=a) (m:=2) ac ac;have kp2:=znn O.pick a 2 aE;refine zlf (M:=285) (rs:=[.cell 6 49]) (hw.call _) hw.ice hw.froz Tryz.func26 rfl rfl lR.2 rfl ?_;dsimp only[lR,zD,Nat.reduceAdd];repeat' (first
  |(apply ah ?_;clear hK K)|apply Rx.o ?_|apply ak ?_|(apply zkU fun K hK=>?_)|fail)
 refine aZ rfl bc bi ?_;simp only[bj];refine aS ?_ (zrn O.toGenL hst l hl _);rintro _ Y ⟨ra,rf,x,y,cf,cg,rfl,_,hnx,I,hra,pt,pf,lf,bf,vf,pg,lg,bg,vg,rfl,rfl,hP,hA,U⟩;simp only[zk9]at hnx I hra U;have hm0:Y.get H.next=some (.cells [.nilS,.nilS] 0 true):=by rw[I _ ac,zkZ,am rfl]
 have ltA:=hP.ltA;have ltF:=hP.ltF;obtain⟨X0,X1⟩:=hP.toX (lo:=H.next+1) ac (fun q hq=>U q hq);have o:(iL (l.take 60)).sz<2^24/\(iM (l.take 60)).sz<2^24:=by
  rw[fE]at hsz;simp only[Pr.sz,zmv]at hsz;omega
 dsimp only[zk6];rcases(by omega:zla a 2=0\/zla a 2=1)with hi|hi;all_goals
  rw[hi]at kp2;have gh0:=@zkB;have gh1:=@zkC;repeat' (first
   |(apply ah ?_;clear hK K)|apply Rx.o ?_|apply bS ?_|(apply eM ?_;first|refine zlc (kp2 _) ?_)|apply ak ?_|(apply zkU fun K hK=>?_)|(apply zmm 2 [(1,3),(1,6)] fun K hK=>?_)|(apply zlC ?_;try intro _)|(apply zmk ?_ ?_<;>clear hK K)|apply bZ ?_|fail)
  .exact zlU
  refine aZ rfl bc bi ?_;simp only[bj];refine aS ?_ (znn O.pick z 24 aE _);rintro _ _ ⟨rfl,rfl⟩;dsimp only[zk6];refine w7 (hK _ _ ?_);clear hK K;dsimp only[lF,pR];first
  |refine w6 (fun x E' H' h=>?_) (T8 O (T9 (m:=H.next) (X0.mv0 (H':=(Y.alloc (.cells [.nilS,.nilS] 0 true)).set Y.next (.cells [.sl ra 0 2 2,.sl rf 0 2 9] 0 true)) iI (fun q _ V=>by rw[aJ,af ac,zmI V])) (P:=Y.next) (a:=a) (.inl rfl) rfl ac o.1 o.2 ⟨EX,j _ ee⟩ ⟨EX,j _ (el _ ee)⟩ hi (cE _) eE eE eE eE eE eE))
  |refine w6 (fun x E' H' h=>?_) (T8 O (T9 (m:=H.next) (X1.mv0 (H':=(Y.alloc (.cells [.nilS,.nilS] 0 true)).set Y.next (.cells [.sl ra 0 2 2,.sl rf 0 2 9] 0 true)) iI (fun q _ V=>by rw[aJ,af ac,zmI V])) (P:=Y.next) (a:=a) (.inr rfl) rfl ac o.2 o.1 ⟨EX,j _ (el _ ee)⟩ ⟨EX,j _ ee⟩ hi (cE _) eE eE eE eE eE eE))
  obtain⟨rfl,k6,k7,va,vb,p,R,hgP,hPl,J,Z⟩:=h;have hm1:H'.get H.next=some (.cells [.nilS,.nilS] 0 true):=by
   rw[Z _ ac,aJ,af ac,zmI ac];exact hm0
  dsimp only[lF,pR];have e1:(Y.next == H.next)=false:=zkV ac;have e2:(H.next == Y.next)=false:=zkV ac;have o1:AV.one va=true:=by
   rcases J.ars with⟨rfl,_⟩|⟨q,imm,rows,rfl,_⟩<;>rfl
  have o2:AV.one vb=true:=by
   rcases J.fns with⟨rfl,_⟩|⟨q,imm,rows,rfl,_⟩<;>rfl
  repeat' (first
   |(apply ah ?_;clear hK K)|apply Rx.o ?_|apply bS ?_|apply ak ?_|(apply zkU fun K hK=>?_)|apply aF ?_|fail)
  refine⟨eI,_,(by(try simp only[zk1,zk7,Nat.reduceBEq,tyF,zlX,zl1, *]);first|done|with_reducible rfl),?_⟩;try simp only[zkX]
  refine⟨va,vb,p,R,Y.next,rfl,⟨J.ne,J.ars.keep (fun _ _ h=>h) (aB _) fun q V _=>TZ,J.fns.keep (fun _ _ h=>h) (aB _) fun q V _=>TZ,J.good⟩,by rw[zli];omega,fun q V=>?_⟩;rw[aJ,af ac,Z q ac,aJ,af ac,zmI ac,I q ac,zmI V]
end
theorem MutR.rd{lo P n:Nat}{H:Hp}{J C:AV}{p:Pr}{R:Nat->Prop}(h:MutR lo P n H J C p R):zlJ (fun q=>lo<=q/\q≠P/\q<H.next) (n+1) H [J,C] p.cells:=by
 have e:p.cells=[.lst (p.arrays.map Ar.cells),.lst (p.funcs.map Fu.cells)]:=by cases p;rfl
 rw[e];exact .cons (h.ars.rd.keep2 (fun k m j=>⟨j.1,fun e=>h.ne (by rw[<-e];exact j.2),m⟩) (aB _) fun _ _ _=>rfl) (.cons (h.fns.rd.keep2 (fun k m j=>⟨j.1,j.2.2,m⟩) (aB _) fun _ _ _=>rfl) .nil)
theorem MutR.one{lo P n:Nat}{H:Hp}{J C:AV}{p:Pr}{R:Nat->Prop}(h:MutR lo P n H J C p R):AV.one J=true/\AV.one C=true:=⟨h.ars.one.1,h.fns.one.1⟩
end Go.Proofs.YtpbcimfiofmoeaaGreat
namespace Go.Ab
set_option maxRecDepth 20000
open Go Go.WideShapes Go.Deep Go.RowKit Go.ChangeShapes
def Bh(W:World):Nat->Nat->Option Value:=fun b o=>W.cell? ⟨b,o,none⟩
theorem zB6(W:World):∀b o v,Bh W b o=some v->W.cell? ⟨b,o,none⟩=some v:=fun _ _ _ h=>h
section
variable {H:Type} {enc:TypeId × Value -> H} {P:Program} {W:World}
theorem zt1{r:Reach}{b0:Nat}{t e:TypeId}{k:IntKind}{v:Value}{d:DataW H}{ps:List MemPlace}{sp:Nat->Bool}{K:Bool}(ht:P.underlying t=some (.slice e))(he:P.underlying e=some (.int k))(hc:P.cellsOf e=1)(Y:Value.okWide P W r b0 t v)(hd:DataW.Trod enc P W 0 sp K t v d ps)(β:Nat->Option (Nat×Nat×Nat))(ρ:Nat->Int):
 ∃l:List Int,VR ⟨β,Bh W,ρ⟩ (.lst (l.map fun n=>[AV.int k n])) v/\l.length<=maxLen/\∀n∈l,(Lit.int k n).wf=true:=by
 obtain⟨znw,pq,O,rfl⟩:=okWide_slice ht Y;obtain⟨fuel,hf⟩:=hd;rcases open_slice1 ht hc hf with⟨h,_⟩|⟨a,len,cap,m,n,V,D,Pl,h,hb,hl,hm,hmm,hx,hV⟩
 .simp[Value.cells]at h;obtain⟨rfl,rfl,rfl⟩:=h;exact⟨[],.lst0 _ _,dm _,fun _ h=>absurd h ax⟩
 .simp[Value.cells]at h;obtain⟨rfl,rfl,rfl⟩:=h;have hlm:pq<=m:=by rw[hmm];split<;>omega
  have hint:∀i,∃n:Int,i<pq->V i=.int k n/\(Lit.int k n).wf=true:=fun i=>by
   by_cases I:i<pq
   .obtain⟨n',h1,_,h2⟩:=DataW.trod_int he (hV i ac).2;simp at h1;exact⟨n',fun _=>⟨h1,h2⟩⟩
   .exact⟨0,fun h=>absurd h I⟩
  obtain⟨N,C⟩:=Classical.axiomOfChoice hint;have hN:∀i,i<pq->V i=.int k (N i):=fun i h=>(C i h).1;refine⟨(List.range pq).map N,?_,b9,fun n hn=>by
   obtain⟨i,I,rfl⟩:=kV.1 hn;exact(C i (lZ.1 I)).2⟩
  by_cases h0:pq=0
  .subst h0;exact .lst0 _ _
  obtain⟨ab,ao,M⟩:=a;have U:M=none:=by
   have:=(hV 0 ac).1;simp only[Addr.add,dB,World.cell?]at this;split at this
   .split at this
    .cases this
    .rename_i hn;cases M with
     |none=>rfl
     |some s=>simp at hn
   .cases this
  subst U;have J:(((List.range pq).map N).map fun n=>[AV.int k n]).length=pq:=ax;have key:=VR.lst (G:=⟨β,Bh W,ρ⟩) (xs:=((List.range pq).map N).map fun n=>[AV.int k n]) (b:=ab) (o:=ao) (cap:=O) (z:=1) (fun i _=>V i) ?_ ?_ ?_ (by rw[J];omega)
  .rw[J]at key;exact key
  .intro i row hr;rw[eS]at hr;cases hq:((List.range pq).map N)[i]? with
   |none=>rw[hq]at hr;simp at hr
   |some q=>rw[hq]at hr;simp only[pM]at hr;rw[<-hr];rfl
  .intro i j I hj;rw[J]at I;have h2:=(hV i ac).1;show W.cell? ⟨ab,ao+i*1+j,none⟩=some (V i);have hj0:j=0:=ac;subst hj0;rw[<-h2]
   congr 1
   unfold Addr.add;split
   .rename_i h;subst h;rfl
   .simp
  .intro i j row c hr Z;rw[eS,eS]at hr;by_cases I:i<pq
   .rw[Fz I]at hr;simp only[pM]at hr;subst hr;cases j with
    |zero=>
     simp only[sR,aL]at Z;subst Z;show VR _ _ (V i);rw[hN i I];exact .int k _
    |succ j=>simp at Z
   .rw[lD b9]at hr;simp at hr
theorem zt2{t:TypeId}(M:laidOutB P=true)(hr:P.readableRec t=true)(K:t<P.types.size){Z:World}{v:Value}{d:DataW H}{ps U:List MemPlace}
 (h:DataW.Trod enc P W 0 (fun _=>true) true t v d ps) (Y:Below W.heap.size W Z) (C:∀p∈U,p.block<W.heap.size) (J:∀p∈ps,p∈U) {z:Nat->Bool} (j:∀p∈U,z p.block=true) :
 DataW.Trod enc P Z 0 z true t v d ps:=
 WideElems.Trod_stays M hr K h (fun x hx=>Y.same (C x (J x hx))) fun x hx=>j x (J x hx)
end
end Go.Ab
namespace Go.Proofs.YtpbcimfiofmoeaaGreat
set_option maxRecDepth 20000
open Go Go.Ab
def J4(l:List Int):AV:=.lst (l.map fun n=>[.int .i64 n])
theorem znH(l:List Int):fJ (J4 l):=.map fun n _=>.cons (.int _ _) .nil
theorem zt3{n:Nat}(h:n<=maxLen):n<2^63:=wl h aE
theorem cells_int:Tryz.prog.cellsOf 3=1:=aj
set_option maxRecDepth 100000 in
theorem zrq{H:Type}{enc:TypeId×Value->H}{W:World}{J:Value}{r:Reach}{Z:Nat}(k0:Value.okWide Tryz.prog W r Z 23 J){d:DataW H}{ps:List MemPlace}{z:Nat->Bool}{K:Bool}(Y:DataW.Trod enc Tryz.prog W 0 z K 23 J d ps):∃l:List Int,VR ⟨fun _=>none,Bh W,fun _=>0⟩ (J4 l) J/\l.length<2^63/\∀n∈l,-9223372036854775808<=n/\n<9223372036854775808:=by
 obtain⟨l,U,M,hr⟩:=zt1 Tryz.underlying23 Tryz.underlying3 cells_int k0 Y (fun _=>none) (fun _=>0);refine⟨l,U,zt3 M,fun n V=>?_⟩;have h:=hr n V;have m:IntKind.min .i64=-9223372036854775808:=aE;have O:IntKind.max .i64=9223372036854775807:=aE;simp only[Lit.wf,lW,m,O]at h;omega
end Go.Proofs.YtpbcimfiofmoeaaGreat
