/- Lemmas for the last file. -/
import Derived.Test.YtpbcimfiofmoeaaGreatWEU
set_option linter.all false
set_option maxHeartbeats 32000000
namespace Go.Ab
set_option maxRecDepth 20000
open Go
variable{qe:Prop}
def UF(h:qe:=by rw[List.length_map,Y,show ee=70368744177664 from rfl];omega):=h
def Gp(h:qe:=by intro e;cases e):=h
def UG(h:qe:=by rw[Hp.get_set,if_neg (by have:=V.1;omega)]):=h
def KK(h:qe:=by have:=h.nS k z;omega):=h
end Go.Ab
namespace Go.Proofs.YtpbcimfiofmoeaaGreat
set_option maxRecDepth 20000
open Go Go.Ab Proofs.Tryz
variable{S:Nat->Prop}{n lo P r i Y Z z:Nat}{H H':Hp}{O M J j v U:AV}{x y a h k:Int}{f g:Fu}{E:aq}{l:qy}{s:Bd}{tb:qC}{c:Cx}
section
def tyMuQf.tyF:=ad @dQ (ad @cr (ad @oV (ad @cK (ad @fW (ad @gh (ad @eL (ad @et (ad @dV (ad @dR (ad @dD (ad @jb (ad @jx (ad @sO (ad @eh (ad @pS (ad @Uq (ad @zf (@nI))))))))))))))))))
open tyMuQf
def zgZ(s:qA)(n:Int):dd prog 86 [(0,.aj s),(1,.int .i64 n)]=some (.agg [.aj s,.int .i64 n]):=Tz s n
def zg0(H:Hp)(s:qA)(n:Int):de prog H 24 1 [(0,.agg [.aj s,.int .i64 n])]=some (.sl H.next 0 1 2,H.alloc (.cells [.aj s,.int .i64 n] 0 true)):=ax
def zg1(s:qA):dd prog 65 [(0,.aj s)]=some (.agg [.aj s,.ag,.ag,.ag,.int .i64 0,.int .i64 0,.aj [],.int .i64 0,.ag]):=ax
def zg2(s:qA)(a b c d e:AV):dd prog 65 [(0,.aj s),(4,.agg [a,b,c,d,e])]=some (.agg [.aj s,.ag,.ag,.ag,a,b,c,d,e]):=ax
def UH(H:Hp)(kV O Y J m Z V U j:AV):de prog H 47 1 [(0,.agg [kV,O,Y,J,m,Z,V,U,j])]=some (.sl H.next 0 1 9,H.alloc (.cells [kV,O,Y,J,m,Z,V,U,j] 0 true)):=ax
def zg3(H:Hp)(a b:qA):de prog H 59 2 [(0,.aj a),(1,.aj b)]=some (.sl H.next 0 2 1,H.alloc (.cells ([a,b].map .aj) 0 true)):=ax
def UI(s:qA)(k x o:Int)(nm:qA):b9 S (n+1) H [.aj s,.ag,.ag,.ag,.int .i64 k,.int .i64 x,.aj nm,.int .i64 o,.ag] (Fu.mk s [] [] [] (.mk k x nm o [])).cells:=
 FO (p:=.ag) (l:=.ag) (b:=.ag) (v:=[.int .i64 k,.int .i64 x,.aj nm,.int .i64 o,.ag]) s rfl .ag .ag .ag (pp k x o nm)
def UJ{N:Nat}{Hb:Hp}{fs:qN}(h:cU (fun q=>lo<=q/\q≠r/\q≠P) n H 9 O (fs.map Fu.cells))(hlo:lo<=H.next)(I:P<H.next)(hrl:r<H.next)(hn:H.next<=Hb.next)(z:∀q,q<H.next->Hb.get q=H.get q){t:Nat}{row:qu}{w:Fu}(hg:Hb.get t=some (.cells row 0 true))(j:row.length=9)(U:row.all AV.one=true)(hw:∀H',b9 (fun q=>H.next<=q/\q<Hb.next) n H' row w.cells)(Y:fs.length=N)(hl:N<2^30):
 ∃H',cD prog false Hb 47 47 O (.sl t 0 1 9)=some (.sl Hb.next 0 (N+1) 9,H')/\H'.next=Hb.next+1/\(∀q,q<H.next->(q<lo\/q=r\/q=P)->H'.get q=H.get q) /\
  ∀m:Hp,m.next=H'.next->(∀q,q≠P->m.get q=H'.get q)->cU (fun q=>lo<=q/\q≠r/\q≠P) n m 9 (.sl Hb.next 0 (N+1) 9) ((fs++[w]).map Fu.cells):=by
 classical
 have h':cU (fun q=>(if lo<=q/\q≠r/\q≠P then 1 else 0)=1) n H 9 O (fs.map Fu.cells):=h.keep (fun q _ Z=>ai Z) (ay _) fun _ _ _=>rfl;have C:∃V,cQ prog 65=some V/\V.length=9:=⟨_,MT,rfl⟩;obtain⟨V,C,M⟩:=C;obtain⟨H',flat,imm',a1,b1,b2,b3,a2,a3,a4⟩:=BS (P:=prog) (t:=47) underlying47 Ie MS C M ax h' hn (fun q J _=>z q J) hg j U UF UF;rw[dx,Y]at a1 a4 b1 b2;refine⟨H',a1,a2,fun q h1 h2=>?_,fun m J h5=>?_⟩
 .rw[a3 q ac (.inr (by rw[af ac];decide)),z q h1]
 .have:=a4 m P row w.cells ac (fun q h6 _=>h5 q h6) (by rw[af (fun h=>h.2.2 rfl)];decide) I (by rw[h5 _ ac];exact b3) j (hw Hb);rw[oP,eK,ym];refine this.keep (fun q _ Z=>?_) (ay _) fun _ _ _=>rfl;by_cases hc:H.next<=q
  .exact⟨ac,ac,ac⟩
  .rw[af hc]at Z;by_cases hd:lo<=q/\q≠r/\q≠P
   .exact hd
   .rw[af hd]at Z;cases Z
theorem KL:∀a b:qN,dO (a++b)=dO a+dO b
 |[],b=>by rw[lL,dO];omega
 |x::a,b=>by rw[lw,dO,dO,KL a b];omega
theorem UK:∀a b:List Ar,eA (a++b)=eA a+eA b
 |[],b=>by rw[lL,eA];omega
 |x::a,b=>by rw[lw,eA,eA,UK a b];omega
def KM(h1:f.sz<2^24)(h2:g.sz<2^24)(Y:rv f)(V:rv g):(ir i x y f g).sz<2^26/\(∀Z∈(ir i x y f g).funcs,Z.name≠pB)/\(∀a∈(ir i x y f g).aa,a.name≠pB)/\∀Z∈(ir i x y f g).funcs,cz Z.body/\dA Z.value:=by
 refine⟨?_,?_,?_,?_⟩
 .cases i<;>simp only[ir,tp,BR,Pr.sz,eA,dO,l8]<;>omega
 .intro Z C;cases i<;>simp only[ir,tp,jh]at C <;>rcases C with rfl|rfl<;>first|exact Y.1|exact V.1
 .intro a O;cases i<;>simp only[ir,tp,BR,jh]at O<;>rcases O with rfl|rfl<;>(intro e;cases e)
 .intro Z C;cases i<;>simp only[ir,tp,jh]at C <;>rcases C with rfl|rfl<;>first|exact Y.2|exact V.2
def UL{p:Pr}{l:qN}(h:p.sz<2^26/\(∀C∈p.funcs,C.name≠pB)/\(∀a∈p.aa,a.name≠pB)/\∀C∈p.funcs,cz C.body/\dA C.value)(h1:dO l<2^20)(h2:∀C∈l,rv C):MutG ⟨p.aa,p.funcs++l⟩:=by
 refine⟨?_,fun f j=>?_,h.2.2.1,fun f j=>?_⟩
 .have Z:=h.1;simp only[Pr.sz,KL]at Z⊢;omega
 .rcases nT.1 j with j|j
  .exact h.2.1 f j
  .exact(h2 f j).1
 .rcases nT.1 j with j|j
  .exact h.2.2.2 f j
  .exact(h2 f j).2
def zg4{p:Pr}{a:Ar}(h:p.sz<2^26/\(∀C∈p.funcs,C.name≠pB)/\(∀a∈p.aa,a.name≠pB)/\∀C∈p.funcs,cz C.body/\dA C.value)(h1:a.name.length<=17)(h2:a.name≠pB):MutG ⟨p.aa++[a],p.funcs⟩:=by
 refine⟨?_,h.2.1,fun f j=>?_,h.2.2.2⟩
 .have Z:=h.1;simp only[Pr.sz,UK,eA]at Z⊢;omega
 .rcases nT.1 j with j|j
  .exact h.2.2.1 f j
  .simp at j;subst j;exact h2
def rz(j:Nat):qN:=(List.range j).map fun j=>⟨[104,UInt8.ofNat (97+j)],[],[],[],.mk 1 0 [] 0 []⟩
def UM(j:Nat):rz (j+1)=rz j++[⟨[104,UInt8.ofNat (97+j)],[],[],[],.mk 1 0 [] 0 []⟩]:=by simp[rz,AJ]
def zg5(j:Nat):(rz j).length=j:=by simp[rz]
theorem UN:∀j,dO (rz j)<=30*j
 |0=>by simp[rz,dO]
 |j+1=>by
  have:=UN j;rw[UM,KL];simp only[dO,Fu.sz,cP,bi,Ex.sz,cy,l8];omega
def zg6(j:Nat):∀f∈rz j,rv f:=by
 intro f Z;simp only[rz,mh,rI]at Z;obtain⟨k,_,rfl⟩:=Z;exact⟨fun e=>by simp[pB]at e,by simp[cz],by simp[dA,dt,sr]⟩
theorem UO:(ir i x y f g).funcs.length=2:=by cases i<;>rfl
theorem KN:(ir i x y f g).aa.length=2:=by cases i<;>rfl
set_option maxRecDepth 100000 in
theorem zg7{lG:qC}(hG:zf2 lG){m:Nat}{Hs:Hp}{V:Nat}{pf lf bf:AV}{vf:qu}{pg lg bg:AV}{vg:qu}(hat:AtM i a h k lo m P Hs H Y V x y f g pf lf bf vf pg lg bg vg E)(hh:h=6):bS prog (au pls lG) 26 285 gE E H (mP lo m P Hs):=by
 obtain⟨⟨pt,b,b',hX,hPt⟩,hi,hm,loP,M,gp,old,fs,gs,fn,gn,hpi,k2,k6,k7,k8,k9,k27⟩:=hat;have hkeep:(au pls lG).keep 26=false:=rfl;subst hh;obtain⟨v0,v1,v2,v3,v4,rfl⟩:=dW hX.F.len;obtain⟨w0,cm,w2,w3,w4,rfl⟩:=dW hX.G.len;obtain⟨z0,z1,z2,z3,z4⟩:=ji hX.F.one;have ltA:=hX.dc;have ltF:=hX.cw;have hlo:=hX.dm;have hbb:=hX.hb;have lrf:=hX.bP;have lra:=hX.cI;have z:V≠P:=fun e=>oH;have C:Y≠P:=fun e=>nJ;have hrr:=hX.ne;have lof:=hX.aK (q:=V) ac;have loa:=hX.aK (q:=Y) ac;have e1:(V == H.next)=false:=ak ac;have e2:(V == H.next+1)=false:=ak ac;have e3:(V == H.next+2)=false:=ak ac;have e4:(H.next == V)=false:=ak ac;have e5:(V == P)=false:=ak z;have e6:(P == V)=false:=ak (Ne.symm z);have e7:(P == H.next)=false:=ak ac;have e8:(P == H.next+1)=false:=ak ac;have e9:(Y == H.next)=false:=ak ac;have e10:(Y == H.next+1)=false:=ak ac;have hr:=fE (n:=k) (m:=5) ac ac;have hr0:=hr.1;have hnm:=vY zk (n:=bc k 5) FU;have hix:=fun r=>vX r 5 hr.1 ac;have hbs:=fun H=>KC H [97] [99] [120] [102] [111,117,116];change ∀H,de _ H _ _ _=some (_,H.alloc (.cells (zk.map .aj) 0 true))at hbs;have O:=KM (i:=i) (x:=x) (y:=y) fs gs fn gn;have hA:=(hX.eP.keep (S':=fun q=>lo<=q/\q=Y) (fun q _ U=>⟨ac,U⟩) (ay _) fun _ _ _=>rfl).up (show 14+1<=50 by omega);have hFn:=(hX.eX.keep (S':=fun q=>lo<=q/\q≠Y/\q≠P) (fun q _ U=>⟨hX.aK U.1,U.2,fun e=>U.1 (by rw[e];exact hPt)⟩) (ay _) fun _ _ _=>rfl).up (show 14+1<=50 by omega);have hnl:=wa (l:=zk) aH (bc k 5).toNat;have hnz:=KI (l:=zk) aH (bc k 5).toNat;generalize hs:zk.getD (bc k 5).toNat []=s at *
 classical
 have h':cU (fun q=>(if q=Y then 1 else 0)=1) 15 H 2 (.sl Y 0 2 2) ((ir i x y f g).aa.map Ar.cells):=hX.eP.keep (fun q _ U=>ai U) (ay _) fun _ _ _=>rfl;obtain⟨zz,hz,hzz⟩:∃zz,cQ prog 86=some zz/\zz.length=2:=⟨_,ye,rfl⟩;obtain⟨H',flat,imm',a1,b1,b2,b3,a2,a3,a4⟩:=BS (P:=prog) (t:=24) underlying24 wR yd hz hzz ax h' (Hb:=(H.alloc (.cells (zk.map .aj) 0 true)).alloc (.cells [.aj s,.int .i64 3] 0 true)) cB (fun q Z _=>by rw[ed cB,ed Z]) (r:=H.next+1) (row:=[.aj s,.int .i64 3]) te rfl rfl (by rw[dx,KN,show ee=70368744177664 from rfl];decide +kernel) (by rw[dx,KN,show ee=70368744177664 from rfl];decide);rw[dx,KN]at a1 a4 b1 b2;simp only[aU,iH,Nat.reduceAdd]at a1 a2 a3 a4 b3;have fr:∀q,q<H.next->q≠Y->H'.get q=H.get q:=fun q Z j=>by
  rw[a3 q ac (.inr (by rw[af j];decide)),ed cB,ed Z]
 have gr:=(fr P M (Ne.symm C)).trans gp;rcases hi with rfl|rfl;all_goals
  simp only[oI]at k8;first|have gf:=hX.dt|have gf:=hX.dr
  dsimp only[gE,mO,fR,lH];have gh0:=@zgZ;have gh1:=@zg0;repeat' (first
   |(apply aj ?_;clear hK K)|apply Ry.o ?_|apply iS ?_|(apply iz ?_;first|refine bK (jE hG.pick k 5 aH _) ?_)|(apply bu (fun hb hbp=>?_) (fun hb hbp=>?_)<;>try(cases hb;done))|apply cW ?_|(apply am fun K hK=>?_)|(apply ci 19 [(1,4),(1,9),(2,4),(2,9),(6,9),(8,9)] fun K hK=>?_)|(apply bD ?_;try intro _)|(apply ch ?_ ?_<;>clear hK K)|apply eP ?_|apply jL rfl ?_|apply dX ?_|fail)
  .exact cn
  generalize J:Hp.set H' P _=H7;have n7:H7.next=H'.next:=by rw[<-J];rfl
  have I:∀q,q≠P->H7.get q=H'.get q:=fun q U=>by rw[<-J,aM,af U]
  have g7:=show H7.get P=some _ by rw[<-J,aM,ai rfl]
  have hA7:=a4 H7 P [.aj s,.int .i64 3] [.aj s,.int .i64 3] ac (fun q Z _=>I q Z) (by rw[af (Ne.symm C)];decide) M (by rw[I _ ac];exact b3) rfl (.cons (.aj _) (.cons (.int _ _) .nil));clear J;refine⟨rfl,eE,eE,_,_,⟨(ir _ x y f g).aa++[⟨s,3⟩],(ir _ x y f g).funcs⟩,fun q=>H.next<=q\/q=Y,g7,ac,⟨ac,?_,?_,zg4 O hnl hnz⟩,?_⟩
  .rw[oP];refine(hA7.keep (fun q Z j=>?_) (ay _) fun _ _ _=>rfl).up ac;by_cases hc:H.next<=q
   .exact⟨ac,.inl hc⟩
   .rw[af hc]at j;by_cases hd:q=Y
    .exact⟨ac,.inr hd⟩
    .rw[af hd]at j;cases j
  .exact hFn.keep (fun q Z j=>⟨j.1,fun h=>h.elim (fun h=>ac) j.2.1,j.2.2⟩) ac fun q Z j=>by rw[I q Z.2.2,fr q j Z.2.1]
  .intro q Z;rw[I q ac,fr q ac ac];exact old q Z
set_option maxRecDepth 100000 in
theorem zg8{lG:qC}(hG:zf2 lG){m:Nat}{Hs:Hp}{pf lf bf:AV}{vf:qu}{pg lg bg:AV}{vg:qu}(hat:AtM i a h k lo m P Hs H Y Z x y f g pf lf bf vf pg lg bg vg E)(hh:h=17):bS prog (au pls lG) 26 285 gE E H (mP lo m P Hs):=by
 obtain⟨⟨pt,b,b',hX,hPt⟩,hi,hm,loP,M,gp,old,fs,gs,fn,gn,hpi,k2,k6,k7,k8,k9,k27⟩:=hat;have hkeep:(au pls lG).keep 26=false:=rfl;subst hh;obtain⟨v0,v1,v2,v3,v4,rfl⟩:=dW hX.F.len;obtain⟨w0,cm,w2,w3,w4,rfl⟩:=dW hX.G.len;obtain⟨z0,z1,z2,z3,z4⟩:=ji hX.F.one;have ltA:=hX.dc;have ltF:=hX.cw;have hlo:=hX.dm;have hbb:=hX.hb;have lrf:=hX.bP;have lra:=hX.cI;have z:Z≠P:=fun e=>oH;have raP:Y≠P:=fun e=>nJ;have hrr:=hX.ne;have lof:=hX.aK (q:=Z) ac;have loa:=hX.aK (q:=Y) ac;have e1:(Z == H.next)=false:=ak ac;have e2:(Z == H.next+1)=false:=ak ac;have e3:(Z == H.next+2)=false:=ak ac;have e4:(H.next == Z)=false:=ak ac;have e5:(Z == P)=false:=ak z;have e6:(P == Z)=false:=ak (Ne.symm z);have e7:(P == H.next)=false:=ak ac;have e8:(P == H.next+1)=false:=ak ac;have e9:(Y == H.next)=false:=ak ac;have e10:(Y == H.next+1)=false:=ak ac;have hr:=fE (n:=k) (m:=2) ac ac;have hr0:=hr.1;have hnm:=vY zl (n:=bc k 2) (by show _<2;omega);have hix:=fun r=>vX r 2 hr.1 ac;have hbs:=fun H=>zg3 H [102] [104];change ∀H,de _ H _ _ _=some (_,H.alloc (.cells (zl.map .aj) 0 true))at hbs;have V:=KM (i:=i) (x:=x) (y:=y) fs gs fn gn;have hA:=(hX.eP.keep (S':=fun q=>lo<=q/\q=Y) (fun q _ U=>⟨ac,U⟩) (ay _) fun _ _ _=>rfl).up (show 14+1<=50 by omega);have hFn:=(hX.eX.keep (S':=fun q=>lo<=q/\q≠Y/\q≠P) (fun q _ U=>⟨hX.aK U.1,U.2,fun e=>U.1 (by rw[e];exact hPt)⟩) (ay _) fun _ _ _=>rfl).up (show 14+1<=50 by omega);have hnl:=wa (l:=zl) aH (bc k 2).toNat;have hnz:=KI (l:=zl) aH (bc k 2).toNat;generalize hs:zl.getD (bc k 2).toNat []=s at *;obtain⟨H',a1,a2,I,a4⟩:=UJ hFn hlo M ltA (Hb:=(H.alloc (.cells (zl.map .aj) 0 true)).alloc (.cells [.aj s,.ag,.ag,.ag,.int .i64 0,.int .i64 0,.aj [],.int .i64 0,.ag] 0 true)) cB (fun q O=>by rw[ed cB,ed O]) (t:=H.next+1) (row:=[.aj s,.ag,.ag,.ag,.int .i64 0,.int .i64 0,.aj [],.int .i64 0,.ag]) (w:=⟨s,[],[],[],.mk 0 0 [] 0 []⟩) te rfl rfl (fun H'=>UI (n:=49) s 0 0 0 []) UO ac;simp only[aU,iH,Nat.reduceAdd]at a1 a2 I a4;have gr:=(I P M (.inr (.inr rfl))).trans gp;rcases hi with rfl|rfl;all_goals
  simp only[oI]at k8;first|have gf:=hX.dt|have gf:=hX.dr
  dsimp only[gE,mO,fR,lH];have gh0:=@zg1;have gh1:=@UH;repeat' (first
   |(apply aj ?_;clear hK K)|apply Ry.o ?_|apply iS ?_|(apply iz ?_;first|refine bK (jE hG.pick k 2 aH _) ?_)|(apply bu (fun hb hbp=>?_) (fun hb hbp=>?_)<;>try(cases hb;done))|apply cW ?_|(apply am fun K hK=>?_)|(apply ci 52 [(1,4),(1,9),(2,4),(2,9),(6,9),(8,9)] fun K hK=>?_)|(apply bD ?_;try intro _)|(apply ch ?_ ?_<;>clear hK K)|apply eP ?_|apply jL rfl ?_|apply dX ?_|fail)
  .exact cn
  generalize J:Hp.set H' P _=j;have n7:j.next=H'.next:=by rw[<-J];rfl
  have o7:∀q,q≠P->j.get q=H'.get q:=fun q U=>by rw[<-J,aM,af U]
  have g7:=show j.get P=some _ by rw[<-J,aM,ai rfl]
  have hF7:=a4 j n7 o7;clear J;refine⟨rfl,eE,eE,_,_,⟨(ir _ x y f g).aa,(ir _ x y f g).funcs++[⟨s,[],[],[],.mk 0 0 [] 0 []⟩]⟩,fun q=>q=Y,g7,ac,⟨Ne.symm raP,?_,hF7,UL V (by simp only[dO,Fu.sz,cP,bi,Ex.sz,cy,fq];omega) (by intro f' C;simp at C;subst C;exact⟨hnz,by simp[cz],by simp[dA,dt,sr]⟩)⟩,?_⟩
  .exact hA.keep (fun _ _ h=>h) ac fun q O h2=>by rw[o7 q ac,I q h2 (.inr (.inl O.2))]
  .intro q O;rw[o7 q ac,I q ac (.inl O)];exact old q O
set_option maxRecDepth 100000 in
theorem zg9{lG:qC}(hG:zf2 lG){m:Nat}{Hs:Hp}{pf lf bf:AV}{vf:qu}{pg lg bg:AV}{vg:qu}(hat:AtM i a h k lo m P Hs H Y Z x y f g pf lf bf vf pg lg bg vg E)(hh:h=18):bS prog (au pls lG) 26 285 gE E H (mP lo m P Hs):=by
 obtain⟨⟨pt,b,b',hX,hPt⟩,hi,hm,loP,ltP,gp,old,fs,gs,fn,gn,hpi,k2,k6,k7,k8,k9,k27⟩:=hat;have hkeep:(au pls lG).keep 26=false:=rfl;subst hh;obtain⟨v0,v1,v2,v3,v4,rfl⟩:=dW hX.F.len;obtain⟨w0,cm,w2,w3,w4,rfl⟩:=dW hX.G.len;obtain⟨z0,z1,z2,z3,z4⟩:=ji hX.F.one;have ltA:=hX.dc;have ltF:=hX.cw;have hlo:=hX.dm;have hbb:=hX.hb;have lrf:=hX.bP;have lra:=hX.cI;have rfP:Z≠P:=fun e=>oH;have raP:Y≠P:=fun e=>nJ;have hrr:=hX.ne;have lof:=hX.aK (q:=Z) ac;have loa:=hX.aK (q:=Y) ac;have e1:(Z == H.next)=false:=ak ac;have e2:(Z == H.next+1)=false:=ak ac;have e3:(Z == H.next+2)=false:=ak ac;have e4:(H.next == Z)=false:=ak ac;have e5:(Z == P)=false:=ak rfP;have e6:(P == Z)=false:=ak (Ne.symm rfP);have e7:(P == H.next)=false:=ak ac;have e8:(P == H.next+1)=false:=ak ac;have e9:(Y == H.next)=false:=ak ac;have e10:(Y == H.next+1)=false:=ak ac;have hpr:=fE (n:=k) (m:=8) ac ac;obtain⟨M,hM⟩:∃M:Nat,bc k 8=(M:Int):=⟨(bc k 8).toNat,ac⟩;have hMl:M<8:=ac;have kp:=fun H=>jE hG.pick k 8 aH H;rw[hM]at kp;have C:=KM (i:=i) (x:=x) (y:=y) fs gs fn gn;have hA:=(hX.eP.keep (S':=fun q=>lo<=q/\q=Y) (fun q _ O=>⟨ac,O⟩) (ay _) fun _ _ _=>rfl).up (show 14+1<=50 by omega);have hFn:=(hX.eX.keep (S':=fun q=>lo<=q/\q≠Y/\q≠P) (fun q _ O=>⟨hX.aK O.1,O.2,fun e=>O.1 (by rw[e];exact hPt)⟩) (ay _) fun _ _ _=>rfl).up (show 14+1<=50 by omega);have gp0:=gp;clear gp;rcases hi with rfl|rfl;all_goals
  simp only[oI]at k8;first|have gf:=hX.dt|have gf:=hX.dr
  dsimp only[gE,mO,fR,lH];have gp:=gp0;repeat' (first
   |(apply aj ?_;clear hK K)|apply Ry.o ?_|(apply bu (fun hb hbp=>?_) (fun hb hbp=>?_)<;>try(cases hb;done))|apply cW ?_|(apply am fun K hK=>?_)|apply dX ?_|fail)
  refine cl [2,6,7,8,9] [] 16 M (fun j E V=>∃vb,V.get P=some (.cells [.sl Y 0 2 2,vb] 0 true)/\cU (fun q=>lo<=q/\q≠Y/\q≠P) 50 V 9 vb (((ir _ x y f g).funcs++rz j).map Fu.cells)/\(∀q,q<H.next->(q<lo\/q=Y)->V.get q=H.get q)) eE ⟨.sl Z 0 2 9,gp,by rw[show(ir _ x y f g).funcs++rz 0=(ir _ x y f g).funcs from aS _];exact hFn,fun _ _ _=>rfl⟩ ?_;rintro j E V hj hcE hrH z hsI ⟨vb,gp3,J,I⟩;(try simp only[bC,aZ,aW,aG,Nat.reduceBEq, *]at hcE);(try simp only[aZ, *]at hrH);(try simp only[aU,bq,ce,bR,Nat.reduceAdd]at z);clear gp;have hnx:H.next<=V.next:=by simpa using z
  have f1:(Z == V.next)=false:=ak ac;have f2:(Z == V.next+1)=false:=ak ac;have f3:(Z == V.next+2)=false:=ak ac;have f4:(P == V.next)=false:=ak ac;have f5:(P == V.next+1)=false:=ak ac;obtain⟨o1,o2⟩:=J.one;repeat' (first
   |(apply aj ?_;clear hK K)|apply Ry.o ?_|(apply iz ?_;first|refine bK (kp _) ?_)|(apply bu (fun hb hbp=>?_) (fun hb hbp=>?_)<;>try(cases hb;done))|apply cW ?_|(apply am fun K hK=>?_)|apply dX ?_|apply fA ?_|apply iT ?_)
  .have hlt:j<M:=by omega
   have hw97:IntKind.wrap .i64 (97+(j:Int))=97+(j:Int):=kR ac ac;have hcv:=fun H=>pS H .i64 (97+(j:Int));generalize hmm:IntKind.wrap .u8 (97+(j:Int))=mm at hcv;have hmc:UInt8.ofNat mm.toNat=UInt8.ofNat (97+j):=by rw[<-hmm];exact Up ac
   have hg3:(V.alloc (.cells [.int .u8 mm] 0 true)).get V.next=some (.cells [.int .u8 mm] 0 true):=fc
   have hcu:=Gm hg3;rw[hmc]at hcu;have hcat:∀D t,eD prog D .add t (.aj [104]) (.aj [UInt8.ofNat (97+j)])=some (.aj [104,UInt8.ofNat (97+j)]):=fun D t=>Mv (by simp[ee]);obtain⟨H',a1,a2,a3,a4⟩:=UJ J ac ac ac (Hb:=(V.alloc (.cells [.int .u8 mm] 0 true)).alloc (.cells [.aj [104,UInt8.ofNat (97+j)],.ag,.ag,.ag,.int .i64 1,.int .i64 0,.aj [],.int .i64 0,.ag] 0 true)) cB (fun q U=>by rw[ed cB,ed U]) (t:=V.next+1) (row:=[.aj [104,UInt8.ofNat (97+j)],.ag,.ag,.ag,.int .i64 1,.int .i64 0,.aj [],.int .i64 0,.ag]) (w:=⟨[104,UInt8.ofNat (97+j)],[],[],[],.mk 1 0 [] 0 []⟩) te rfl rfl (fun H'=>UI (n:=49) [104,UInt8.ofNat (97+j)] 1 0 0 []) (by rw[iR,UO,zg5]) ac;simp only[aU,iH,Nat.reduceAdd]at a1 a2 a3 a4;have gr:=(a3 P ac (.inr (.inr rfl))).trans gp3;have cS:V.next<=H'.next:=ac
   have gh0:=@zg2;have gh1:=@UH;repeat' (first
    |(apply aj ?_;clear hK K)|apply Rx.o ?_|apply jc ?_|(apply am fun K hK=>?_)|fail)
   refine⟨ac,a0,a0,ca,zh,?_⟩;refine⟨_,fO,?_,?_⟩
   .rw[UM,<-mV];exact a4 _ rfl (fun q O=>by rw[aM,af O])
   .intro q U h2;rw[aM,af ac,a3 q ac ac];exact I q U h2
  .have hje:j=M:=by omega
   subst hje;refine⟨rfl,eE,eE,_,_,⟨(ir _ x y f g).aa,(ir _ x y f g).funcs++rz j⟩,fun q=>q=Y,gp3,ac,⟨Ne.symm raP,?_,J,UL C (by have:=UN j;omega) (zg6 j)⟩,?_⟩
   .exact hA.keep (fun _ _ h=>h) hnx fun q U h2=>I q h2 (.inr U.2)
   .intro q U;rw[I q ac (.inl U)];exact old q U
end
section
def tyMuQ.tyF:=ad @dQ (ad @cr (ad @oV (ad @cK (ad @fW (ad @gh (ad @eL (ad @et (ad @dV (ad @dR (ad @dD (ad @jb (ad @jx (ad @sO (ad @eh (ad @pS (ad @u7 (@Kn)))))))))))))))))
open tyMuQ
def UP{lG:qC}(U:zf2 lG){m:Nat}{Hs:Hp}{ra rf:Nat}{pf lf bf:AV}{vf:qu}{pg lg bg:AV}{vg:qu}(j:AtM i a h k lo m P Hs H ra rf x y f g pf lf bf vf pg lg bg vg E):bS prog (au pls lG) 26 285 gE E H (mP lo m P Hs):=by
 by_cases c1:h=1
 .exact zgJ U j c1
 by_cases c2:h=2
 .exact zgK U j c2
 by_cases c3:h=3
 .exact zgL U j c3
 by_cases c4:h=4
 .exact zgM U j c4
 by_cases c5:h=5
 .exact zgU U j c5
 by_cases c6:h=6
 .exact zg7 U j c6
 by_cases c7:h=7
 .exact zgV U j c7
 by_cases c8:h=8
 .exact zgQ U j c8
 by_cases c9:h=9
 .exact zgR U j c9
 by_cases I:h=10
 .exact zgN U j I
 by_cases Z:h=11
 .exact zgO U j Z
 by_cases Y:h=12
 .exact B3 U j ⟨ac,ac⟩
 by_cases z:h=13
 .exact B3 U j ⟨ac,ac⟩
 by_cases C:h=14
 .exact B3 U j ⟨ac,ac⟩
 by_cases V:h=15
 .exact B3 U j ⟨ac,ac⟩
 by_cases J:h=16
 .exact B3 U j ⟨ac,ac⟩
 by_cases M:h=17
 .exact zg8 U j M
 by_cases O:h=18
 .exact zg9 U j O
 refine zgI U j ?_;simp only[AB,EG,false_implies,implies_true,aW];exact⟨c1,c2,c3,c4,c5,c6,c7,c8,c9,I,Z,Y,z,C,V,J,M,O⟩
def UQ{pt:Nat->Nat}{b O m:Nat}{bf:AV}{I:qu}{lg bg:AV}{vg:qu}{z:Hp}(h:zd3 i (fun q=>if z.next<=q then 0 else pt q) lo b O 14 ((z.alloc qh).set z.next (.cells [.sl Y 0 2 2,.sl Z 0 2 9] 0 true)) Y Z x y f g M J bf I j lg bg vg)(hi:i=0\/i=1)(U:P=z.next)(hlo:lo<=z.next)(fs:f.sz<2^24)(gs:g.sz<2^24)(fn:rv f)(gn:rv g)(V:bc a 2=i)(hm:m<lo){hh:Int}
 (k2:E.at 2=.int .i64 a) (k6:E.at 6=.ptr m 0) (k7:E.at 7=.ptr P 0) (k8:E.at 8=.ptr Z (9*i)) (k9:E.at 9=.int .i64 k) (C:E.at 27=.int .i64 hh) :
 AtM i a hh k lo m P ((z.alloc qh).set z.next (.cells [.sl Y 0 2 2,.sl Z 0 2 9] 0 true)) ((z.alloc qh).set z.next (.cells [.sl Y 0 2 2,.sl Z 0 2 9] 0 true)) Y Z x y f g M J bf I j lg bg vg E:=
 ⟨⟨_,b,O,h,by rw[U,ai (ay _)]⟩,hi,hm,ac,by rw[U];exact bT _,by rw[U,aM,ai rfl],fun _ _=>rfl,fs,gs,fn,gn,V,k2,k6,k7,k8,k9,C⟩
def zha(r:Nat):el prog 47 (.sl r 0 2 9) (.int .i64 0)=some (.ptr r 0):=ax
def zhb(r:Nat):el prog 47 (.sl r 0 2 9) (.int .i64 1)=some (.ptr r 9):=ax
set_option maxRecDepth 100000 in
theorem zhc{C:qC}(J:zf2 C)(hst:Km C)(l:qy)(hl:l.length<2^63)(hL:js l)(how a:Int)(H:Hp):
 aR prog (au pls C) 26 [.az (l.map fun n=>[AV.int .i64 n]),.int .i64 how,.int .i64 a] H fun v H'=>∃va vb p R P,v=.agg [va,vb]/\ziq (H.next+1) P 50 H' va vb p R/\H.next<=H'.next/\∀q,q<H.next->H'.get q=H.get q:=by
 have hw:zd0 (au pls C) 26:=ei J.plm.1 J.plm.2;have hkeep:(au pls C).keep 26=false:=rfl;have hsz:=Kq l;have j:=Ug hL;have hq24:(24:Int)≠0:=aH;have hpr:=fE (n:=a) (m:=2) ac ac;have kp2:=jE J.pick a 2 aH;refine bp (M:=285) (rs:=[.cell 6 49]) (hw.call _) hw.aG hw.aB func26 rfl rfl lH.2 rfl ?_;dsimp only[lH,bm,Nat.reduceAdd];repeat' (first
  |(apply aj ?_;clear hK K)|apply Rx.o ?_|apply cW ?_|(apply am fun K hK=>?_)|fail)
 refine qc ?_;refine aF ?_ (TA J.tozf6 hst l hl _);rintro _ z ⟨ra,rf,x,y,cf,cg,rfl,_,hnx,Z,hra,pt,pf,lf,bf,vf,pg,lg,bg,vg,rfl,rfl,hP,hA,O⟩;simp only[aU]at hnx Z hra O;have hm0:z.get H.next=some qh:=by rw[Z _ ac,aD,ai rfl]
 have ltA:=hP.dc;have ltF:=hP.cw;obtain⟨X0,X1⟩:=hP.toX (lo:=H.next+1) ac (fun q hq=>O q hq);have U:(iO (l.take 60)).sz<2^24/\(iP (l.take 60)).sz<2^24:=by
  rw[eT]at hsz;simp only[Pr.sz,dO]at hsz;omega
 dsimp only[aC];rcases(by omega:bc a 2=0\/bc a 2=1)with hi|hi;all_goals
  rw[hi]at kp2;have gh0:=@zha;have gh1:=@zhb;repeat' (first
   |(apply aj ?_;clear hK K)|apply Rx.o ?_|apply jc ?_|(apply eu ?_;first|refine bK (kp2 _) ?_)|apply cW ?_|(apply am fun K hK=>?_)|(apply ci 2 [(1,3),(1,6)] fun K hK=>?_)|(apply bD ?_;try intro _)|(apply ch ?_ ?_<;>clear hK K)|apply eP ?_|fail)
  .exact cn
  refine qc ?_;refine aF ?_ (jE J.pick how 24 aH _);rintro _ _ ⟨rfl,rfl⟩;dsimp only[aC];refine x8 (hK _ _ ?_);clear hK K;dsimp only[lP,pR];first
  |refine x7 (fun x E' H' h=>?_) (UP J (UQ (m:=H.next) (X0.mv0 (H':=(z.alloc qh).set z.next (.cells [.sl ra 0 2 2,.sl rf 0 2 9] 0 true)) iX (fun q _ V=>by rw[aM,af ac,ed V])) (P:=z.next) (a:=a) (.inl rfl) rfl ac U.1 U.2 ⟨Gp,j _ eg⟩ ⟨Gp,j _ (en _ eg)⟩ hi (bT _) eE eE eE eE eE eE))
  |refine x7 (fun x E' H' h=>?_) (UP J (UQ (m:=H.next) (X1.mv0 (H':=(z.alloc qh).set z.next (.cells [.sl ra 0 2 2,.sl rf 0 2 9] 0 true)) iX (fun q _ V=>by rw[aM,af ac,ed V])) (P:=z.next) (a:=a) (.inr rfl) rfl ac U.2 U.1 ⟨Gp,j _ (en _ eg)⟩ ⟨Gp,j _ eg⟩ hi (bT _) eE eE eE eE eE eE))
  obtain⟨rfl,k6,k7,va,vb,p,R,hgP,hPl,I,Y⟩:=h;have hm1:H'.get H.next=some qh:=by
   rw[Y _ ac,aM,af ac,ed ac];exact hm0
  dsimp only[lP,pR];have e1:(z.next == H.next)=false:=ak ac;have e2:(H.next == z.next)=false:=ak ac;have o1:AV.one va=true:=by
   rcases I.fy with⟨rfl,_⟩|⟨q,imm,rows,rfl,_⟩<;>rfl
  have o2:AV.one vb=true:=by
   rcases I.gq with⟨rfl,_⟩|⟨q,imm,rows,rfl,_⟩<;>rfl
  repeat' (first
   |(apply aj ?_;clear hK K)|apply Rx.o ?_|apply jc ?_|apply cW ?_|(apply am fun K hK=>?_)|apply gJ ?_|fail)
  refine⟨aB,_,(by(try simp only[aG,aY,Nat.reduceBEq,tyF,cF,cR, *]);first|done|with_reducible rfl),?_⟩;try simp only[aA]
  refine⟨va,vb,p,R,z.next,rfl,⟨I.ne,I.fy.keep (fun _ _ h=>h) (ay _) fun q V _=>UG,I.gq.keep (fun _ _ h=>h) (ay _) fun q V _=>UG,I.fw⟩,by rw[bq];omega,fun q V=>?_⟩;rw[aM,af ac,Y q ac,aM,af ac,ed ac,Z q ac,ed V]
end
section
def ziq.rd{V:AV}{p:Pr}{R:Nat->Prop}(h:ziq lo P n H V O p R):b9 (fun q=>lo<=q/\q≠P/\q<H.next) (n+1) H [V,O] p.cells:=by
 have e:p.cells=[.az (p.aa.map Ar.cells),.az (p.funcs.map Fu.cells)]:=by cases p;rfl
 rw[e];exact .cons (h.fy.rd.aO (fun k m j=>⟨j.1,fun e=>h.ne (by rw[<-e];exact j.2),m⟩) (ay _) fun _ _ _=>rfl) (.cons (h.gq.rd.aO (fun k m j=>⟨j.1,j.2.2,m⟩) (ay _) fun _ _ _=>rfl) .nil)
def ziq.one{lo P n:Nat}{H:Hp}{V O:AV}{p:Pr}{R:Nat->Prop}(h:ziq lo P n H V O p R):AV.one V=true/\AV.one O=true:=⟨h.fy.one.1,h.gq.one.1⟩
structure Qx where
 p:Pr
 b:Nat
 nv:AV
 ns:List bG
def bO(X:Qx)(s:Bd)(M vv:AV):qu:=[.az (X.p.aa.map Ar.cells),.az (X.p.funcs.map Fu.cells),M,X.nv,vv,.int .i64 s.ab,.int .i64 s.loops]
structure zd2 (X:Qx) (H:Hp) (S:Nat->Prop) (s:Bd) (lv vv:AV):Prop where
 m:H.get X.b=some (.cells (bO X s lv vv) 0 true)
 nm:ej H X.nv X.ns 0
 aL:cU S 2 H 3 lv (s.l.map Nd.cells)
 vars:gK H vv s.vars 0
 o5:X.b<H.next
 nS:∀k,aN X.nv k->X.b<k/\k<H.next/\¬S k/\¬aN vv k
 sS:∀k,S k->X.b<k/\k<H.next/\¬aN vv k
 vS:∀k,aN vv k->X.b<k/\k<H.next
structure FrQ (X:Qx) (S:Nat->Prop) (vv:AV) (H:Hp) (S':Nat->Prop) (vv':AV) (H':Hp):Prop where
 next:H.next<=H'.next
 get:∀k,k<H.next->k≠X.b->¬S k->¬aN vv k->H'.get k=H.get k
 sub:∀k,S' k->S k\/H.next<=k
 own:∀k,aN vv' k->aN vv k\/H.next<=k
def FrQ.refl(X:Qx)(S:Nat->Prop)(vv:AV)(H:Hp):FrQ X S vv H S vv H:=⟨ay _,fun _ _ _ _ _=>rfl,fun _ h=>.inl h,fun _ h=>.inl h⟩
def fy:=@FrQ.refl
def FrQ.trans{X:Qx}{S' I:Nat->Prop}{m:Hp}(h:FrQ X S v H S' j H')(k:FrQ X S' j H' I J m):FrQ X S v H I J m where
 next:=dw h.next k.next
 get r h1 h2 h4 h5:=by
  rw[k.get r (lh h1 h.next) h2 (fun e=>?_) (fun e=>?_)]
  .exact h.get r h1 h2 h4 h5
  .rcases h.sub r e with e|e
   .exact h4 e
   .omega
  .rcases h.own r e with e|e
   .exact h5 e
   .omega
 sub r e:=by
  rcases k.sub r e with e|e
  .exact h.sub r e
  .exact .inr (dw h.next e)
 own r e:=by
  rcases k.own r e with e|e
  .exact h.own r e
  .exact .inr (dw h.next e)
section
variable {X:Qx} {H H':Hp} {S:Nat -> Prop} {s:Bd} {lv vv:AV}
def zd2.keep(h:zd2 X H S s lv vv)(J:H.next<=H'.next)(hg:∀k,k<H.next->(k<=X.b\/S k\/aN vv k\/aN X.nv k)->H'.get k=H.get k):zd2 X H' S s lv vv:=by
 have U:=h.o5;refine⟨PI,h.nm.keep J fun k z=>hg k (h.nS k z).2.1 (.inr (.inr (.inr z))),h.aL.keep (fun _ _ h=>h) J fun k z Z=>hg k Z (.inr (.inl z)),h.vars.keep J fun k z=>hg k (h.vS k z).2 (.inr (.inr (.inl z))),ac,fun k z=>?_,fun k z=>?_,fun k z=>?_⟩
 .have:=h.nS k z
  grind
 .have:=h.sS k z
  grind
 .have:=h.vS k z;omega
def zd2.alloc(h:zd2 X H S s lv vv)(b:HB):zd2 X (H.alloc b) S s lv vv:=h.keep (cG _) fun k z _=>em
def FrQ.alloc{z:Nat->Prop}{bt:Hp}(h:FrQ X z U bt S vv H)(b:HB):FrQ X z U bt S vv (H.alloc b):=h.trans ⟨cG _,fun k Z _ _ _=>em,fun _ h=>.inl h,fun _ h=>.inl h⟩
def zd2.setS(h:zd2 X H S s lv vv)(x:Int):zd2 X (H.set X.b (.cells (bO X {s with ab:=x} lv vv) 0 true)) S {s with ab:=x} lv vv/\FrQ X S vv H S vv (H.set X.b (.cells (bO X {s with ab:=x} lv vv) 0 true)):=by
 have U:=h.o5;have hg:∀k,k≠X.b->(H.set X.b (.cells (bO X {s with ab:=x} lv vv) 0 true)).get k=H.get k:=fun k z=>ju;refine⟨⟨fO,h.nm.keep (ay _) fun k z=>hg k KK,h.aL.keep (fun _ _ h=>h) (ay _) fun k z Z=>hg k yE,h.vars.keep (ay _) fun k z=>hg k EF,U,h.nS,h.sS,h.vS⟩,⟨ay _,fun k _ j _ _=>hg k j,fun _ h=>.inl h,fun _ h=>.inl h⟩⟩
def zd2.dP(h:zd2 X H S s lv vv)(x:Nat):zd2 X (H.set X.b (.cells (bO X {s with loops:=x} lv vv) 0 true)) S {s with loops:=x} lv vv/\FrQ X S vv H S vv (H.set X.b (.cells (bO X {s with loops:=x} lv vv) 0 true)):=by
 have U:=h.o5;have hg:∀k,k≠X.b->(H.set X.b (.cells (bO X {s with loops:=x} lv vv) 0 true)).get k=H.get k:=fun k z=>ju;refine⟨⟨fO,h.nm.keep (ay _) fun k z=>hg k KK,h.aL.keep (fun _ _ h=>h) (ay _) fun k z Z=>hg k yE,h.vars.keep (ay _) fun k z=>hg k EF,U,h.nS,h.sS,h.vS⟩,⟨ay _,fun k _ j _ _=>hg k j,fun _ h=>.inl h,fun _ h=>.inl h⟩⟩
def zd2.setV(h:zd2 X H S s lv vv)(I:i<s.vars.length)(x:Int):∃r,el prog 23 vv (.int .i64 (i:Int))=some (.ptr r i)/\gX prog H 3 (.ptr r i)=some (.int .i64 (s.vars.getD i 0)) /\
 ∃H',lW prog H 3 (.ptr r i) (.int .i64 x)=some H'/\X.b<r/\r<H.next/\aN vv r/\zd2 X H' S {s with vars:=s.vars.set i x} lv vv/\FrQ X S vv H S vv H'/\(∀k,k≠r->H'.get k=H.get k)/\H'.next=H.next:=by
 rcases h.vars with⟨_,j⟩|⟨r,Y,hg,Z,hr⟩
 .simp_all
 .have V:aN vv r:=⟨_,Y⟩;have M:=(h.vS r V).1;refine⟨r,?_,?_,H.set r (.cells ((s.vars.set i x).map (.int .i64)) 0 true),?_,M,hr,V,?_,⟨ay _,fun k _ _ _ U=>?_,fun _ h=>.inl h,fun _ h=>.inl h⟩,fun k z=>ju,rfl⟩
  .rw[Y,wI underlying23 j5 I];simp
  .rw[Au underlying3 rfl hg,eI,gU,bj I];rfl
  .rw[NQ hg bb,wN]
  .have J:=h.o5;have z:∀k,k≠r->(H.set r (.cells ((s.vars.set i x).map (.int .i64)) 0 true)).get k=H.get k:=fun k z=>ju;refine⟨by rw[z _ ac];exact h.m,h.nm.keep (ay _) fun k O=>z k fun e=>(h.nS k O).2.2.2 Bj,h.aL.keep (fun _ _ h=>h) (ay _) fun k hS _=>z k fun e=>(h.sS k hS).2.2 Bj,.inr ⟨r,bb,fO,Z,hr⟩,J,h.nS,h.sS,h.vS⟩
  .rw[aM,af (fun e=>U Bj)]
def zd2.swapV(h:zd2 X H S s lv vv){vw:AV}(M:gK H vw l 0)(h1:∀k,aN vw k->X.b<k/\k<H.next/\¬S k/\¬aN X.nv k):zd2 X (H.set X.b (.cells (bO X {s with vars:=l} lv vw) 0 true)) S {s with vars:=l} lv vw:=by
 have U:=h.o5;have hg:∀k,k≠X.b->(H.set X.b (.cells (bO X {s with vars:=l} lv vw) 0 true)).get k=H.get k:=fun k z=>ju;exact⟨fO,h.nm.keep (ay _) fun k z=>hg k KK,h.aL.keep (fun _ _ h=>h) (ay _) fun k z Z=>hg k yE,M.keep (ay _) fun k z=>hg k (by have:=h1 k z;omega),U,fun k z=>⟨(h.nS k z).1,(h.nS k z).2.1,(h.nS k z).2.2.1,fun e=>(h1 k e).2.2.2 z⟩,fun k z=>⟨(h.sS k z).1,(h.sS k z).2.1,fun e=>(h1 k e).2.2.1 z⟩,fun k z=>⟨(h1 k z).1,(h1 k z).2.1⟩⟩
end
def su(X:Qx)(S:Nat->Prop)(vv:AV)(H:Hp)(r:Int×Bd)(v:AV)(H':Hp):Prop:=v=.int .i64 r.1/\∃m z,zd2 X H' m r.2 z vv/\FrQ X S vv H m vv H'
def pC(X:Qx)(S:Nat->Prop)(vv:AV)(H:Hp)(r:Bd)(v:AV)(H':Hp):Prop:=∃m z Z,zd2 X H' m r z Z/\FrQ X S vv H m Z H'
def zhd(X:Qx)(S:Nat->Prop)(vv:AV)(H:Hp)(r:Bd)(v:AV)(H':Hp):Prop:=∃m z,zd2 X H' m r z vv/\FrQ X S vv H m vv H'
def zd2.new{X:Qx}{vv:AV}(h:zd2 X H S s M vv)(hr:H.next<=r):¬S r/\¬aN vv r/\X.b<r:=⟨fun e=>by have:=(h.sS r e).2.1;omega,fun e=>by have:=(h.vS r e).2;omega,by have:=h.o5;omega⟩
def su.db{X:Qx}{Z:Nat->Prop}{vv:AV}{bt:Hp}{r:Int×Bd}(h:su X S vv H r v H')(j:FrQ X Z vv bt S vv H):su X Z vv bt r v H':=by
 obtain⟨m,Y,z,V,C⟩:=h;exact⟨m,Y,z,V,j.trans C⟩
def pC.db{X:Qx}{Y:Nat->Prop}{vv:AV}{bt:Hp}{r:Bd}(h:pC X S vv H r v H')(j:FrQ X Y U bt S vv H):pC X Y U bt r v H':=by
 obtain⟨m,z,Z,V,C⟩:=h;exact⟨m,z,Z,V,j.trans C⟩
def FrQ.box{X:Qx}{U z:Hp}{j:Nat->Prop}{vv Z:AV}(I:zd2 X U S s M vv){b:HB}(h:FrQ X S vv (U.alloc b) j Z z):z.get U.next=some b:=by
 have n:=I.new (ay _);rw[h.get _ (bT _) (by have:=n.2.2;omega) n.1 n.2.1,aD,ai rfl]
def fS:=@FrQ.box
def zd2.atV{X:Qx}{vv:AV}(h:zd2 X H S s M vv)(I:s.vars[i]?=some x):∃r,el prog 23 vv (.int .i64 (i:Int))=some (.ptr r i)/\gX prog H 3 (.ptr r i)=some (.int .i64 x):=by
 have J:i<s.vars.length:=by
  by_cases c:i<s.vars.length
  .exact c
  .rw[sH ac]at I;cases I
 obtain⟨r,m,j,_⟩:=h.setV J 0;simp_all
def tySnC.tyF:=ad @dQ (ad @cr (ad @fP (@sN)))
open tySnC
noncomputable def Gq:{c:SC // aE 45 (f67.body.getD .skip)=c}:=by
 refine⟨?_,?_⟩;rotate_left
 .simp only[f67,bN,aE,bH,bw,bM,bJ,Nat.blt,Nat.ble];rfl
def sw(x:Nd×Nd):qu:=[.agg x.1.cells,.agg x.2.cells]
def UR(x y:Nd×Nd)(h:sw x=sw y):x=y:=by
 simp only[sw,eJ,AV.agg.injEq,aW]at h;exact ub (Nd.inj h.1) (Nd.inj h.2)
def zo(x:Nd×Nd):Prop:=x.1.ao.length<2^60
def zhe{s w:qy}(O:s.length=w.length)(I:i<s.length):decide (s.drop i=w.drop i)=(decide (s.getD i 0=w.getD i 0)&&decide (s.drop (i+1)=w.drop (i+1))):=by
 rw[gI I,gI (l:=w) ac];rw[gU,gU,bj I,bj (by omega:i<w.length)];simp only[bN,eJ,Bool.decide_and]
def US(ρ:Nat->Int)(x:Nd×Nd)(hx:zo x):bX prog ρ 67 (sw x) (.bool (decide (x.1=x.2))):=fB fit (pls:=pls) (l:=[]) trivial (.cons (.agg (Nd.pure _)) (.cons (.agg (Nd.pure _)) .nil)) (.bool _) (by
 obtain⟨⟨o1,i1,s⟩,⟨o2,i2,w⟩⟩:=x;have Z:=iB 67;unfold zo at hx;rw[sw];simp only[Nd.cells]at hx⊢;have hd:decide ((⟨o1,i1,s⟩:Nd)=⟨o2,i2,w⟩)=(decide (o1=o2)&&decide (i1=i2)&&decide (s=w)):=by
  simp[Bool.decide_and,AK]
 rw[hd];by_cases O:w.length=s.length
 .clear hd;refine bp (M:=45) (rs:=[.tmp 4]) (Z.call _) Z.aG Z.aB func67 rfl rfl Gq.2 rfl ?_;dsimp only[Gq,bm,Nat.reduceAdd];repeat' (first
   |(apply aj ?_;clear hK K)|apply bQ ?_|(apply jy ?_ ?_<;>(intro hg hgp;try(cases hg;done)))|(apply bu ?_ ?_<;>(intro hb hbp;try(cases hb;done)))|(apply am fun K hK=>?_)|fail)
  all_goals first
   |(refine⟨aB,_,Nn,?_⟩;try simp only[aA]
     simp_all;done)
   |skip
  refine cl [2,3] [0,1] 5 s.length (fun i E H=>decide (s=w)=decide (s.drop i=w.drop i)) eE aw ?_;rintro i E z hi V j m hsI U;(try simp only[bC,aZ,aW,aG,aY,Nat.reduceBEq, *]at V);(try simp only[bC,aZ,aW,aG,aY,Nat.reduceBEq, *]at j);(try simp only[aU,ce,bR,Nat.reduceAdd]at m);have hB0:(0 == z.next)=false:=ak ac;have hC0:(z.next == 0)=false:=ak ac;have hB1:(1 == z.next)=false:=ak ac;have hC1:(z.next == 1)=false:=ak ac;repeat' (first
   |(apply aj ?_;clear hK K)|apply aV ?_|(apply bz ?_ ?_<;>(intro hb hbp;try(cases hb;done)))|(apply am fun K hK=>?_)|(apply ci 6 [(1,11),(4,11),(6,11),(9,11)] fun K hK=>?_)|(apply bD ?_;try intro _)|fail)
  .have Y:i<s.length:=by simpa using hb
   have C:s[i]?=some s[i]:=bj Y;have I:w[i]?=some (w[i]' ac):=bj ac;have J:=zhe O.symm Y;rw[gU,gU,C,I]at J;simp only[bN]at J;generalize s[i]=x at *;generalize w[i]' ac=y at *;refine Vj ?_ (fun hb hbp=>?_) (fun hb hbp=>?_)
   .exact cn
   .all_goals refine qq ?_
    rw[U,J];simp_all
   .refine⟨ac,a0,a0,ca,IA,?_⟩;rw[U,J];simp_all
  .refine jG ?_;all_goals refine qq ?_
   rw[U,show i=s.length by simp at hb;omega,iJ,<-O,iJ];simp_all
 .have hne:¬s=w:=fun e=>O oO;have hl2:¬(s.length:Int)=w.length:=ac;clear hd;refine bp (M:=45) (rs:=[.tmp 4]) (Z.call _) Z.aG Z.aB func67 rfl rfl Gq.2 rfl ?_;dsimp only[Gq,bm,Nat.reduceAdd];repeat' (first
   |(apply aj ?_;clear hK K)|apply bQ ?_|(apply jy ?_ ?_<;>(intro hg hgp;try(cases hg;done)))|(apply bu ?_ ?_<;>(intro hb hbp;try(cases hb;done)))|(apply am fun K hK=>?_)|fail)
  all_goals
   refine⟨aB,_,Nn,?_⟩;try simp only[aA]
   rw[rV hne,xe])
noncomputable def B4:En:=⟨67,false,co zo sw fun x=>.bool (decide (x.1=x.2))⟩
def zhf(ρ:Nat->Int):dI prog ρ B4:=dT fun x hx=>US ρ x hx
def zhg{l:qC}(O:∀J,dE l 67 J=B4.sp J)(a b:Nd)(h:a.ao.length<2^60)(H:Hp):aR prog (au pls l) 67 [.agg a.cells,.agg b.cells] H fun v H'=>v=.bool (decide (a=b))/\H'=H:=
 cV (enc:=sw) (ok:=zo) (out:=fun x=>.bool (decide (x.1=x.2))) UR (x:=(a,b)) (O _) h
end
variable{X:Qx}
section
def tyQaB.tyF:=ad @dQ (ad @cr (ad @jn (ad @fP (ad @eL (ad @et (ad @sN (ad @tX (ad @cK (ad @fW (ad @gh (ad @jx (@zc7))))))))))))
open tyQaB
noncomputable def UT:{c:SC // aE 52 (f53.body.getD .skip)=c}:=by
 refine⟨?_,?_⟩;rotate_left
 .simp only[f53,bN,aE,bH,bw,bM,bJ,Nat.blt,Nat.ble];rfl
noncomputable def UU:{c:SC // aE 25 (f91.body.getD .skip)=c}:=by
 refine⟨?_,?_⟩;rotate_left
 .simp only[f91,bN,aE,bH,bw,bM,bJ,Nat.blt,Nat.ble];rfl
noncomputable def UV:{c:SC // aE 28 (f92.body.getD .skip)=c}:=by
 refine⟨?_,?_⟩;rotate_left
 .simp only[f92,bN,aE,bH,bw,bM,bJ,Nat.blt,Nat.ble];rfl
def KO(H:Hp):de prog H 23 0 []=some (.sl H.next 0 0 1,H.alloc qf):=ax
theorem UW{z:Nat}:∀{rows:List qu}{i:Nat}{r:qu},(∀x∈rows,x.length=z)->rows[i]?=some r->rows.flatten.drop (i*z)=r++(rows.drop (i+1)).flatten
 |[],i,r,_,e=>by simp at e
 |a::rows,0,r,h,e=>by
  simp_all
 |a::rows,i+1,r,h,e=>by
  have O:=h a eg;have ih:=UW (rows:=rows) (i:=i) (r:=r) (fun x hx=>h x (en _ hx)) AE;have m:(i+1)*z=a.length+i*z:=aX;rw[jl,m,Kv,ih];rfl
def zhh{rows:List qu}{r:qu}(h:∀x∈rows,x.length=z)(e:rows[i]?=some r):cq z (rows.flatten.drop (i*z))=some (.agg r):=by
 have hr:=h r (li e);rw[UW h e];unfold cq;simp_all
def KP(f:FuncId):Bool:=Nat.beq f 53||Nat.beq f 91||Nat.beq f 92||Nat.beq f 94||Nat.beq f 93||Nat.beq f 55||Nat.beq f 165||Nat.beq f 54||Nat.beq f 90||Nat.beq f 139
noncomputable def Gs:En:=⟨67,true,co zo sw fun x=>.bool (decide (x.1=x.2))⟩
def zhi(ρ:Nat->Int):dI prog ρ Gs:=dT fun x hx=>US ρ x hx
structure zd8 (tb:qC):Prop where
 pl:∀f,KP f=true->(∀ar,dE tb f ar=none)/\iA tb f=false
 sn:∀ar,dE tb 67 ar=(oZ Gs).sp ar
 sni:iA tb 67=true
 ff:∀ar,dE tb 108 ar=yw.sp ar
def zd8.plain(h:zd8 tb){f:FuncId}(j:KP f=true):zd0 (au pls tb) f:=ei (h.pl f j).1 (h.pl f j).2
theorem zhj(y:Nd×Nd):(sw y).any (pZ 90)=false:=by obtain⟨⟨a,b,c⟩,⟨d,e,f⟩⟩:=y;rfl
def zhk(U:zd8 tb){cs Z:qu}{x y:Nd}(J:n<57)(M:b9 S n H cs x.cells)(hd:b9 S n H Z y.cells)(m:x.ao.length<2^60):
 aR prog (au pls tb) 67 [.agg cs,.agg Z] H fun w H'=>w=.bool (decide (x=y))/\Icy S H H':=by
 obtain⟨O,Y,j⟩:b9 S (n+1) H [.agg cs,.agg Z] (sw (x,y)):=.cons (.agg M) (.cons (.agg hd) .nil);exact AT (x:=((x,y):Nd×Nd)) (enc:=sw) (ok:=zo) (out:=fun x=>.bool (decide (x.1=x.2))) UR (fun V=>by rw[U.sn];rfl) U.sni zhj m ac Y (j 60 ac)
def cU.get{ws:List qu}(h:cU S n H z v ws){w:qu}(V:ws[i]?=some w):∃(q Z:Nat) (rows:List qu) (I:qu),v=.sl q 0 ws.length z/\S q/\q<H.next/\H.get q=some (.cells rows.flatten Z true)/\rows[i]?=some I/\I.length=z/\(∀x∈rows,x.length=z)/\b9 (fun k=>S k/\k≠q) n H I w:=by
 rcases h with⟨_,j⟩|⟨q,Z,rows,e,m,j,U,h4,Y⟩
 .subst j;simp at V
 .have M:=cp.len Y;have J:i<ws.length:=by
   grind
  have hr:rows[i]?=some rows[i]:=bj ac;obtain⟨O,C⟩:=cp.get Y hr V;exact⟨q,Z,rows,_,by rw[e,M],m,j,U,hr,O,di.len Y,C⟩
def zhl{q:Nat}(h:i<n):el prog 22 (.sl q 0 n 3) (.int .i64 (i:Int))=some (.ptr q (i*3)):=by rw[wI underlying22 AD h];simp
def zd2.dj{Z:Nat->Prop}{vv:AV}(h:zd2 X H S s M vv)(I:Icy Z H H')(hd:∀k,Z k->k<H.next->X.b<k/\¬aN vv k/\¬aN X.nv k):zd2 X H' S s M vv:=by
 have hg:∀k,k<H.next->(k<=X.b\/aN vv k\/aN X.nv k)->H'.get k=H.get k:=fun k z hc=>I.out k fun e=>by
  grind
 have J:=I.next
 refine⟨by rw[hg _ h.o5 (.inl (ay _))];exact h.m,h.nm.keep ac fun k z=>hg k (h.nS k z).2.1 (.inr (.inr z)),h.aL.fv ac fun k _ _=>I.same k,h.vars.keep ac fun k z=>hg k (h.vS k z).2 (.inr (.inl z)),by rw[J];exact h.o5,fun k z=>?_,fun k z=>?_,fun k z=>?_⟩
 .rw[J];exact h.nS k z
 .rw[J];exact h.sS k z
 .rw[J];exact h.vS k z
def KQ(O:fY H v l lo)(hl:l.length<2^38):∃Z H',cD prog false (H.alloc qf) 23 23 (.sl H.next 0 0 1) v=some (Z,H')/\gK H' Z l H.next/\H.next+1<=H'.next/\(∀k,k<H.next->H'.get k=H.get k):=by
 have z:∀k,k<H.next->(H.alloc qf).get k=H.get k:=fun k z=>em
 have J:vr (H.alloc qf) (.sl H.next 0 0 1) [] H.next:=⟨H.next,rfl,dZ,ay _,bT _⟩
 have Y:fY (H.alloc qf) v l lo:=O.keep (cG _) fun k h=>z k (O.lt h).2;by_cases U:l=[]
 .subst U;refine⟨_,_,?_,.inr J,ay _,z⟩;rcases Y with⟨rfl,_⟩|⟨r,V,rfl,j,_⟩
  .simp only[cD,underlying23,j5,oT,oU,show gN prog 23=true by kernel_rfl,fk]
  .have M:=sU j;simp only[fq]at M;simp only[cD,underlying23,j5,oT,oU,show gN prog 23=true by kernel_rfl,fq,M]
 .have hx:fk (H.alloc qf) 1 v=some (l.length,l.map (.int .i64)):=by
   rcases Y with⟨_,h⟩|⟨r,V,rfl,j,_⟩
   .exact(U h).elim
   .exact sU j
  obtain⟨Z,H',m,j,C,I,_⟩:=D5 (v:=.sl H.next 0 0 1) (l:=[]) (lo:=H.next) (.inr J) bb hx U cb;rw[lL]at j;simp only[aU]at C;exact⟨Z,H',m,.inr j,ac,fun k h=>by rw[I k h,z k h]⟩
def pD(i:Nat)(l:List bG)(s:bG):Nat:=if bE l s=true then i+bV l s else 0
def UX(l:List bG)(s:bG):bV l s=pD 0 l s:=by
 unfold pD;split
 .omega
 .rename_i h;exact Sz l s mR
theorem UY(i:Nat)(l:List bG)(s:bG):pD i (s::l) s=i:=by
 have h:bE (s::l) s=true:=by simp[bE]
 rw[pD,ai h,bV,ai rfl];rfl
def UZ{a:bG}{l:List bG}{s:bG}(h:a≠s):pD i (a::l) s=pD (i+1) l s:=by
 have e:bE (a::l) s=bE l s:=by simp[bE,h]
 unfold pD;rw[e,bV,af h]
 grind
def zhm(hG:zd8 tb){lv vv:AV}(I:zd2 X H S s lv vv)(nm:bG)(hl:X.ns.length<2^40):
 aR prog (au pls tb) 91 [.ptr X.b 0,.aj nm] H fun v H'=>v=.int .i64 ((bV X.ns nm:Nat):Int)/\H'=H:=by
 have O:zd0 (au pls tb) 91:=hG.plain cM;have bZ:=I.m;unfold bO at bZ;have C:∀H',gO prog H' 59 X.nv=some (.int .i64 X.ns.length):=fun H'=>by
  rcases I.nm with⟨e,h⟩|h
  .rw[e,h];exact Do underlying59
  .exact h.len
 rw[UX];refine bp (M:=25) (rs:=[.tmp 4]) (O.call _) O.aG O.aB func91 rfl rfl UU.2 rfl ?_;dsimp only[UU,bm,Nat.reduceAdd];refine jH ?_;refine cl [0,1] [] 5 X.ns.length (fun i E Z=>Z=H/\pD 0 X.ns nm=pD i (X.ns.drop i) nm) eE ⟨rfl,aw⟩ ?_;rintro i E Z hi Y j m hsI ⟨V,U⟩;(try simp only[bC,aZ,aW,aG,aY,Nat.reduceBEq, *]at Y);(try simp only[aZ, *]at j);(try simp only[aU,bq,ce,bR,Nat.reduceAdd]at m);subst V;by_cases J:i<X.ns.length
 .have z:(i:Int)<X.ns.length:=by omega
  have hB:dU Z X.nv X.ns 0:=by
   rcases I.nm with⟨e,h⟩|h
   .simp_all
   .exact h
  obtain⟨r,hix,hld⟩:=hB.at J;rw[gI J]at U;generalize X.ns[i]=a at *;by_cases he:a=nm
  .subst he;rw[UY]at U;refine wd (fun hb hbp=>?_);all_goals refine qq ?_
   simp_all
  .rw[UZ he]at U;refine wd (fun hb hbp=>?_);refine⟨ac,a0,a0,ca,(by simp only[aG,Nat.reduceBEq, *];exact hZ (n:=X.ns.length) ac ac),?_⟩;exact⟨rfl,U⟩
 .have z:¬(i:Int)<X.ns.length:=by omega
  have hd:X.ns.drop i=[]:=mH ac;rw[hd]at U;refine wd (fun hb hbp=>?_);all_goals refine qq ?_
  refine⟨?_,trivial⟩;rw[U];simp[pD,bE]
def zhn(C:zd8 tb){lv vv:AV}(hR:zd2 X H S s lv vv)(nm:bG)(hl:X.p.aa.length<2^40):
 aR prog (au pls tb) 92 [.ptr X.b 0,.aj nm] H fun v H'=>v=.int .i64 ((bV (X.p.aa.map (·.name)) nm:Nat):Int)/\H'=H:=by
 have V:zd0 (au pls tb) 92:=C.plain cM;have bZ:=hR.m;unfold bO at bZ;rw[UX];refine bp (M:=28) (rs:=[.tmp 4]) (V.call _) V.aG V.aB func92 rfl rfl UV.2 rfl ?_;dsimp only[UV,bm,Nat.reduceAdd];refine jH ?_;refine cl [0,1] [] 5 X.p.aa.length (fun i E O=>O=H/\pD 0 (X.p.aa.map (·.name)) nm=pD i ((X.p.aa.drop i).map (·.name)) nm) eE ⟨rfl,aw⟩ ?_;rintro i E O hi Z j m hsI ⟨Y,U⟩;(try simp only[bC,aZ,aW,aG,aY,Nat.reduceBEq, *]at Z);(try simp only[aZ, *]at j);(try simp only[aU,bq,ce,bR,Nat.reduceAdd]at m);subst Y;by_cases J:i<X.p.aa.length
 .have z:(i:Int)<X.p.aa.length:=by omega
  have hgx:X.p.aa[i]?=some X.p.aa[i]:=bj J;rw[gI J,eK]at U;generalize X.p.aa[i]=a at *;by_cases I:a.name=nm
  .rw[<-I]at U;rw[UY]at U;refine wd (fun hb hbp=>?_);all_goals refine qq ?_
   simp_all
  .rw[UZ I]at U;refine wd (fun hb hbp=>?_);refine⟨ac,a0,a0,ca,(by simp only[aG,Nat.reduceBEq, *];exact hZ (n:=X.p.aa.length) ac ac),?_⟩;exact⟨rfl,U⟩
 .have z:¬(i:Int)<X.p.aa.length:=by omega
  have hd:X.p.aa.drop i=[]:=mH ac;rw[hd]at U;refine wd (fun hb hbp=>?_);all_goals refine qq ?_
  refine⟨?_,trivial⟩;rw[U];simp[pD,bE]
set_option maxRecDepth 100000 in
theorem Gt(hG:zd8 tb){lv vv kv:AV}(I:zd2 X H S s lv vv)(n:Nd)(z:fY H kv n.ao lo)(hF:Fin (ah n s).2):
 aR prog (au pls tb) 53 [.ptr X.b 0,.int .i64 n.op,.int .i64 n.aP,kv] H (su X S vv H (ah n s)):=by
 have hw:zd0 (au pls tb) 53:=hG.plain cM;have hkeep:(au pls tb).keep 53=false:=rfl;have hr:=hF.r;have hn:NdR n:=hr n (rZ.2 (.inr rfl));have hnl:=hn.len;have hlen:s.l.length<2^36:=ur (sZ s.l n).length_le hF.l;have o5:=I.o5;obtain⟨C,O,a5,s5,n5,f5⟩:=KQ z ac;have hb3:=Qr s5.n n.op n.aP;have hone0:=s5.n.one;refine bp (M:=52) (rs:=[.tmp 8]) (hw.call _) hw.aG hw.aB func53 rfl rfl UT.2 rfl ?_;dsimp only[UT,bm,Nat.reduceAdd];have gh0:=@KO;refine dJ ?_;generalize j:Hp.set (Hp.alloc O _) _ _=Hb;have nb:Hb.next=O.next+1:=by rw[<-j];rfl
 have gb:Hb.get O.next=some (.cells [.int .i64 n.op,.int .i64 n.aP,C] 0 true):=by rw[<-j,aM,ai rfl]
 have ob:∀k,k<O.next->Hb.get k=O.get k:=fun k z=>by rw[<-j,aM,af ac,aD,af ac]
 have oo:∀k,k<H.next->Hb.get k=H.get k:=fun k z=>aX
 clear j;have R1:zd2 X Hb S s lv vv:=I.keep ac fun k z _=>oo k z;have hv5:fY Hb C n.ao H.next:=s5.n.keep ac fun k z=>ob k (s5.n.lt z).2
 have hone:=hv5.one;have V:∀k,aN C k->H.next<=k/\k<O.next:=fun k z=>⟨(s5.n.lt z).1,(s5.n.lt z).2⟩
 clear a5 s5 f5 ob;refine cl [0,9] [] 10 s.l.length (fun i E Z=>zd2 X Z S s lv vv/\Z.get O.next=some (.cells [.int .i64 n.op,.int .i64 n.aP,C] 0 true)/\fY Z C n.ao H.next/\(∀k,k<H.next->¬S k->Z.get k=H.get k)/\fK s.l n=i+fK (s.l.drop i) n) eE ⟨R1,gb,hv5,fun k Y _=>oo k Y,aw⟩ ?_;clear gb hv5 R1;rintro i E Z hi hcE hrH hnH hsI ⟨J,gi,vi,oi,U⟩;(try simp only[bC,aZ,aW,aG,aY,Nat.reduceBEq, *]at hcE);(try simp only[aZ, *]at hrH);(try simp only[aU,bq,ce,bR,Nat.reduceAdd]at hnH);have ni:Hb.next<=Z.next:=hnH
 have mi:=J.m;have hll:∀H',gO prog H' 22 lv=some (.int .i64 s.l.length):=fun H'=>by
  have:=J.aL.len (P:=prog) (t:=22) (H':=H') underlying22;simp_all
 unfold bO at mi;by_cases hlt:i<s.l.length
 .have hlt':(i:Int)<s.l.length:=by omega
  have hgx:s.l[i]?=some s.l[i]:=bj hlt;have hxr:NdR s.l[i]:=hr _ (rZ.2 (.inl (dm hlt)));rw[gI hlt,PB]at U;generalize s.l[i]=x at *;have hxl:=hxr.len;obtain⟨q,imm,rows,row,hlv,hq1,hq2,hq3,hr1,hr2,hr3,hr4⟩:=J.aL.get (i:=i) (w:=x.cells) bb;rw[dx]at hlv;subst hlv;have hixa:=zhl (q:=q) hlt;have hag:=zhh hr3 hr1;have hld:gX prog Z 67 (.ptr q (i*3))=some (.agg row):=by
   rw[Av,hq3];exact hag
  have hnd:=JM (S:=fun k=>S k\/aN C k) n.op n.aP vi fun k z=>.inr z;have hcx:b9 (fun k=>S k\/aN C k) 2 Z row x.cells:=hr4.keep (fun k z=>.inl z.1) (ay _) fun _ _ _=>rfl;repeat' (first
   |(apply aj ?_;clear hK K)|apply bQ ?_|(apply bu ?_ ?_<;>(intro hb hbp;try(cases hb;done)))|(apply am fun K hK=>?_)|(apply ci 5 [(3,8),(6,8),(7,8)] fun K hK=>?_)|(apply bD ?_;try intro _)|fail)
  refine qd ?_;refine aF ?_ (zhk hG (n:=2) ac hcx hnd ac);rintro _ Hj ⟨rfl,hI⟩;have Rj:=J.dj hI fun k Y h2=>by
   rcases Y with Y|Y
   .exact⟨(J.sS k Y).1,(J.sS k Y).2.2,fun e=>(J.nS k e).2.2.1 Y⟩
   .have:=V k Y;exact⟨ac,fun e=>by have:=(I.vS k e).2;omega,fun e=>by have:=(I.nS k e).2.1;omega⟩
  have mj:=Rj.m;have vj:=vi.dj hI;have gj:Hj.get O.next=some (.cells [.int .i64 n.op,.int .i64 n.aP,C] 0 true):=by
   rw[hI.out _ (fun e=>by
    rcases e with e|e
    .have:=(I.sS _ e).2.1;omega
    grind)]
   exact gi
  have oj:∀k,k<H.next->¬S k->Hj.get k=H.get k:=fun k Y h2=>by
   rw[hI.out _ (fun e=>by
    grind)]
   exact oi k Y h2
  have hldj:gX prog Hj 67 (.ptr q (i*3))=some (.agg row):=by
   rcases hI.same q with e|⟨cs,a,b,tip,e1,e2,_⟩
   .rw[Av,<-e,hq3];exact hag
   .rw[hq3]at e1;simp only[aQ,HB.cells.injEq]at e1;obtain⟨rfl,rfl,rfl⟩:=e1;rw[Av,e2];exact hag
  have nj:=hI.next
  unfold bO at mj;dsimp only[aC];by_cases he:x=n
  .rw[ai he]at U;refine K2 ?_ ?_
   .exact cn
   all_goals refine qq ?_
   have e1:ah n s=(((fK s.l n:Nat):Int),s):=by rw[ah,i7,ai ac]
   rw[su,e1,U];exact⟨aw,S,_,Rj,⟨ac,fun k Y _ h3 _=>oj k Y h3,fun k h=>.inl h,fun k h=>.inl h⟩⟩
  .rw[af he]at U;refine K2 ?_ ?_
   .exact cn
   refine⟨ac,a0,a0,ca,(by simp only[aG,Nat.reduceBEq, *];exact hZ (n:=s.l.length) ac ac),?_⟩
   grind
 .have hlt':¬(i:Int)<s.l.length:=by omega
  have hd:s.l.drop i=[]:=mH ac;rw[hd]at U;have hi0:fK [] n=0:=rfl;have hixl:fK s.l n=s.l.length:=ac;have hadd:i7 s.l n=s.l++[n]:=by rw[i7,af ac]
  have hpo:ah n s=(((fK s.l n:Nat):Int),{s with l:=s.l++[n] }):=by rw[ah,hadd]
  have hSk:∀k,S k->X.b<k/\k<H.next:=fun k h=>⟨(I.sS k h).1,(I.sS k h).2.1⟩
  have hlS:∀k o m z',lv=.sl k o m z'->S k:=fun k o m z' e=>by
   rcases J.aL with⟨Y,_⟩|⟨q,im,rows,Y,h2,_⟩
   .rw[Y]at e;cases e
   simp_all
  have hbs:∀H,de prog H 22 1 [(0,.agg [.int .i64 n.op,.int .i64 n.aP,C])]=some (.sl H.next 0 1 3,H.alloc (.cells [.int .i64 n.op,.int .i64 n.aP,C] 0 true)):=fun H=>Qf H rfl EV;have g4:∀k,k<Z.next->(Z.alloc (.cells [.int .i64 n.op,.int .i64 n.aP,C] 0 true)).get k=Z.get k:=fun k z=>em
  obtain⟨H6,a6,s6,n6,q6⟩:=EU (P:=prog) (t:=22) underlying22 AD If Ig rfl ax (S':=fun k=>S k\/aN C k\/k=Z.next+1)
   (J.aL.keep (S':=S) (H':=Z.alloc (.cells [.int .i64 n.op,.int .i64 n.aP,C] 0 true)) (fun _ _ h=>h) (cG _) fun k z h6=>g4 k h6)
   (fun k _ h=>.inl h) (.inr (.inr rfl)) (r:=Z.next) (imm:=0) (row:=[.int .i64 n.op,.int .i64 n.aP,C]) (w:=n.cells) fc rfl EV
   (JM n.op n.aP (lo:=H.next) (vi.keep (cG _) fun k z=>g4 k (vi.lt z).2) fun k hk2=>⟨.inr (.inl hk2),fun o m z' e=>aX⟩)
   oC oC
  rw[dx]at a6 s6;simp only[aU]at a6 s6 n6 q6;have hno:∀k,¬S k->∀o m z',lv≠.sl k o m z':=fun k z o m z' e=>z (hlS k o m z' e);have m4:(Z.alloc (.cells [.int .i64 n.op,.int .i64 n.aP,C] 0 true)).get X.b=some (.cells (bO X s lv vv) 0 true):=by rw[g4 _ J.o5];exact J.m
  have ge4:(Z.alloc (.cells [.int .i64 n.op,.int .i64 n.aP,C] 0 true)).get O.next=some (.cells [.int .i64 n.op,.int .i64 n.aP,C] 0 true):=aX
  have lo6:∀k,k<Z.next->¬S k->H6.get k=Z.get k:=fun k Y h2=>aX
  have m6:H6.get X.b=some (.cells (bO X s lv vv) 0 true):=aX;have ge6:H6.get O.next=some (.cells [.int .i64 n.op,.int .i64 n.aP,C] 0 true):=aX
  have ew:IntKind.wrap .i64 (((s.l.length+1:Nat):Int)-1)=s.l.length:=EX;have fin:su X S vv H (ah n s) (.int .i64 s.l.length) (H6.set X.b (.cells (bO X {s with l:=s.l++[n] } (.sl (Z.next+1) 0 (s.l.length+1) 3) vv) 0 true)):=by
   rw[su,hpo,hixl];have g6:∀k,k≠X.b->(H6.set X.b (.cells (bO X {s with l:=s.l++[n] } (.sl (Z.next+1) 0 (s.l.length+1) 3) vv) 0 true)).get k=H6.get k:=fun k z=>ju;refine⟨rfl,fun k=>S k\/aN C k\/k=Z.next+1,_,⟨fO,J.nm.keep eC fun k z=>?_,?_,J.vars.keep eC fun k z=>?_,eC,fun k z=>?_,?_,fun k z=>?_⟩,⟨eC,fun k Y h2 h3 h4=>?_,?_,fun k h=>.inl h⟩⟩
   .have:=J.nS k z;rw[g6 k ac,lo6 k this.2.1 this.2.2.1]
   .have e:(s.l++[n]).map Nd.cells=s.l.map Nd.cells++[n.cells]:=by simp
    rw[e];refine s6.keep (fun _ _ h=>h) (ay _) fun k z _=>g6 k ?_;rcases z with z|z|z
    .have:=hSk k z;omega
    .have:=V k z;omega
    .have:=J.o5;omega
   .have h9:=J.vS k z;rw[g6 k ac,lo6 k h9.2 fun e=>(J.sS k e).2.2 z]
   .have h9:=J.nS k z;have h8:=I.nS k z;refine⟨h9.1,eC,?_,h9.2.2.2⟩;rintro(e|e|e)
    .exact h9.2.2.1 e
    .have:=V k e;omega
    .omega
   .rintro k (z|z|z)
    .have h9:=J.sS k z;exact⟨h9.1,eC,h9.2.2⟩
    .have h8:=V k z;exact⟨ac,eC,fun e=>by have:=(I.vS k e).2;omega⟩
    .refine⟨by have:=J.o5;omega,eC,fun e=>?_⟩;have:=(J.vS k e).2;omega
   .have:=J.vS k z;simp only[bq];omega
   .rw[g6 k h2,lo6 k ac h3];exact oi k Y h3
   grind
  unfold bO at m4 m6 fin;clear s6 lo6 g4 q6 hno hlS;repeat' (first
   |(apply aj ?_;clear hK K)|apply bQ ?_|(apply bu ?_ ?_<;>(intro hb hbp;try(cases hb;done)))|(apply am fun K hK=>?_)|(apply ci 7 [(4,7),(5,7),(6,7)] fun K hK=>?_)|(apply bD ?_;try intro _)|(apply ch ?_ ?_<;>clear hK K)|fail)
  all_goals first
   |exact cn
   |skip
  all_goals refine qq ?_
  exact fin
def lI(U:zd8 tb){vv:AV}(I:zd2 X H S s M vv)(n:Nd){m:Nat}(Y:n.ao.length=m)(hg:H.get r=some (.cells (n.ao.map (.int .i64)) 0 true))(C:r<H.next)(O:Fin (ah n s).2){op imm:Int}(Z:n.op=op)(J:n.aP=imm):
 aR prog (au pls tb) 53 [.ptr X.b 0,.int .i64 op,.int .i64 imm,.sl r 0 m 1] H (su X S vv H (ah n s)):=by
 subst Y;subst Z;subst J;exact Gt (lo:=0) U I n (.inr ⟨r,0,rfl,hg,cZ _,cZ _,C⟩) O
def tw(U:zd8 tb){vv:AV}(I:zd2 X H S s M vv)(op imm:Int)(O:Fin (ah ⟨op,imm,[]⟩ s).2):
 aR prog (au pls tb) 53 [.ptr X.b 0,.int .i64 op,.int .i64 imm,.ag] H (su X S vv H (ah ⟨op,imm,[]⟩ s)):=
 Gt (lo:=0) U I ⟨op,imm,[]⟩ (.inl ⟨rfl,rfl⟩) O
end
section
def tyQaC.tyF:=ad @cr (ad @cK (ad @jn (ad @fP (ad @fW (ad @gh (ad @eL (ad @et (ad @jx (ad @tX (ad @E6 (@uz)))))))))))
open tyQaC
noncomputable def Gu:{c:SC // aE 19 (f94.body.getD .skip)=c}:=by
 refine⟨?_,?_⟩;rotate_left
 .simp only[f94,bN,aE,bH,bw,bM,bJ,Nat.blt,Nat.ble];rfl
noncomputable def U0:{c:SC // aE 35 (f93.body.getD .skip)=c}:=by
 refine⟨?_,?_⟩;rotate_left
 .simp only[f93,bN,aE,bH,bw,bM,bJ,Nat.blt,Nat.ble];rfl
def zp(U:zd8 tb){Y vv:AV}(I:zd2 X H S s Y vv)(c a b:Int)(O:Fin (bA c a b s).2):
 aR prog (au pls tb) 94 [.ptr X.b 0,.int .i64 c,.int .i64 a,.int .i64 b] H (su X S vv H (bA c a b s)):=by
 have Z:zd0 (au pls tb) 94:=U.plain cM;by_cases h:a=b
 .subst h;have e:bA c a a s=(a,s):=by rw[bA,ai rfl]
  rw[e];refine bp (M:=19) (rs:=[.tmp 8]) (Z.call _) Z.aG Z.aB func94 rfl rfl Gu.2 rfl ?_;dsimp only[Gu,bm,Nat.reduceAdd];refine GC ?_;all_goals refine qq ?_
  exact⟨rfl,S,Y,I,fy _ _ _ _⟩
 .have e:bA c a b s=ah ⟨22,0,[c,a,b]⟩ s:=by rw[bA,af h]
  rw[e]at O⊢;refine bp (M:=19) (rs:=[.tmp 8]) (Z.call _) Z.aG Z.aB func94 rfl rfl Gu.2 rfl ?_;dsimp only[Gu,bm,Nat.reduceAdd];refine K4 fun K hK=>?_;refine qc ?_;refine aF ?_ (lI U (I.alloc _) ⟨22,0,[c,a,b]⟩ rfl dZ (bT _) O rfl rfl);intro w z j;have C:=j.db ((fy X S vv H).alloc _);obtain⟨rfl,V⟩:=j;dsimp only[aC];refine jG ?_;all_goals refine qq ?_
  exact C
def U1(U:zd8 tb){lv vv:AV}(J:zd2 X H S s lv vv)(k:Nat)(i:Int){a:Ar}(ha:X.p.aa[k]?=some a)(C:Fin (eO a.len i s)):
 aR prog (au pls tb) 93 [.ptr X.b 0,.int .i64 (k:Int),.int .i64 i] H (zhd X S vv H (eO a.len i s)):=by
 have Z:zd0 (au pls tb) 93:=U.plain cM;have bZ:=J.m;unfold bO at bZ;have z:Fin (ah ⟨19,0,[i,(ah ⟨1,a.len,[]⟩ s).1]⟩ (ah ⟨1,a.len,[]⟩ s).2).2:=C.le (rj _ _ _).le;have I:Fin (ah ⟨1,a.len,[]⟩ s).2:=z.le (cC _ _).le;refine bp (M:=35) (rs:=[]) (Z.call _) Z.aG Z.aB func93 rfl rfl U0.2 rfl ?_;dsimp only[U0,bm,Nat.reduceAdd];refine cY fun K hK=>?_;refine qc ?_;refine aF ?_ (tw U J 1 a.len I);rintro w H2 ⟨rfl,S2,lv2,R2,F2⟩;dsimp only[aC];refine cY fun K hK=>?_;refine qc ?_;refine aF ?_ (lI U (R2.alloc _) ⟨19,0,[i,(ah ⟨1,a.len,[]⟩ s).1]⟩ rfl dZ (bT _) z rfl rfl);rintro w H3 ⟨rfl,S3,lv3,j,F3⟩;have V:=F2.trans (((fy X S2 vv H2).alloc _).trans F3);have m3:=j.m;unfold bO at m3;dsimp only[aC];refine cY fun K hK=>?_;refine qc ?_;refine aF ?_ (lI U (j.alloc _) ⟨27,2,[(ah ⟨19,0,[i,(ah ⟨1,a.len,[]⟩ s).1]⟩ (ah ⟨1,a.len,[]⟩ s).2).2.ab,(ah ⟨19,0,[i,(ah ⟨1,a.len,[]⟩ s).1]⟩ (ah ⟨1,a.len,[]⟩ s).2).1]⟩ rfl dZ (bT _) (C.le ⟨rW _,ay _⟩) rfl rfl);rintro w H4 ⟨rfl,S4,Y,m,F4⟩;have O:=V.trans (((fy X S3 vv H3).alloc _).trans F4);have m4:=m.m;unfold bO at m4;dsimp only[aC];refine K5 ?_;all_goals first
  |exact cn
  |skip
 all_goals refine qq ?_
 obtain⟨a1,b1⟩:=m.setS (ah ⟨27,2,[(ah ⟨19,0,[i,(ah ⟨1,a.len,[]⟩ s).1]⟩ (ah ⟨1,a.len,[]⟩ s).2).2.ab,(ah ⟨19,0,[i,(ah ⟨1,a.len,[]⟩ s).1]⟩ (ah ⟨1,a.len,[]⟩ s).2).1]⟩ (ah ⟨19,0,[i,(ah ⟨1,a.len,[]⟩ s).1]⟩ (ah ⟨1,a.len,[]⟩ s).2).2).1;exact⟨S4,Y,a1,O.trans b1⟩
end
section
def tyQaD.tyF:=ad @dQ (ad @cr (ad @cK (ad @jn (ad @fP (ad @eL (ad @et (ad @dR (ad @dD (ad @tX (ad @uz (@vL)))))))))))
open tyQaD
noncomputable def rA:{c:SC // aE 166 (f55.body.getD .skip)=c}:=by
 refine⟨?_,?_⟩;rotate_left
 .simp only[f55,bN,aE,bH,bw,bM,bJ,Nat.blt,Nat.ble];rfl
structure CxQ (X:Qx) (c:Cx):Prop where
 ar:X.p.aa=c.aa
 ns:X.ns=c.aF
 fs:X.p.funcs=c.funcs
 l1:c.aa.length<2^40
 l2:c.aF.length<2^40
 l3:c.funcs.length<2^40
def CxQ.ix(U:zd8 tb)(z:CxQ X c){vv:AV}(I:zd2 X H S s M vv)(nm:bG):
 aR prog (au pls tb) 91 [.ptr X.b 0,.aj nm] H fun v H'=>v=.int .i64 ((bV c.aF nm:Nat):Int)/\H'=H:=by
 rw[<-z.ns];exact zhm U I nm (by rw[z.ns];exact z.l2)
def U2(U:zd8 tb)(z:CxQ X c){vv:AV}(I:zd2 X H S s M vv)(nm:bG):
 aR prog (au pls tb) 92 [.ptr X.b 0,.aj nm] H fun v H'=>v=.int .i64 ((bV (c.aa.map (·.name)) nm:Nat):Int)/\H'=H:=by
 rw[<-z.ar];exact zhn U I nm (by rw[z.ar];exact z.l1)
set_option maxRecDepth 100000 in
theorem tx{tb:qC}(U:zd8 tb){X:Qx}{c:Cx}(hX:CxQ X c):∀(n:Nat) (x:Ex) (s:Bd) (r:Int×Bd),ec c n x s=some r->Fin r.2->∀{H:Hp}{S:Nat->Prop}{lv vv:AV},zd2 X H S s lv vv ->
 aR prog (au pls tb) 55 [.ptr X.b 0,.agg x.cells] H (su X S vv H r)
 |0,x,s,r,h,_,_,_,_,_,_=>by simp[ec]at h
 |n+1,x,s,r,h,hF,H,S,lv,vv,hR=>by
  have IH:=tx U hX n;have Y:zd0 (au pls tb) 55:=U.plain cM;have R1:=hR.alloc (.cells x.cells 0 true);have F1:=(fy X S vv H).alloc (.cells x.cells 0 true);have bZ:=R1.m;unfold bO at bZ;have gx:(H.alloc (.cells x.cells 0 true)).get H.next=some (.cells x.cells 0 true):=fc
  unfold ec at h;by_cases h1:x.am=1
  .rw[ai h1,aQ]at h;subst h;refine bp (M:=166) (rs:=[.tmp 4]) (Y.call _) Y.aG Y.aB func55 rfl rfl rA.2 rfl ?_;dsimp only[rA,bm,Nat.reduceAdd];repeat' (first
    |(apply aj ?_;clear hK K)|apply bQ ?_|(apply bu ?_ ?_<;>(intro hb hbp;try(cases hb;done)))|(apply am fun K hK=>?_)|fail)
   refine qc ?_;refine aF ?_ (tw U R1 1 x.n hF);intro w H2 h2;have h4:=h2.db F1;obtain⟨rfl,h3⟩:=h2;dsimp only[aC];refine gW ?_;all_goals refine qq ?_
   exact h4
  rw[af h1]at h;by_cases h2:x.am=2
  .rw[ai h2]at h;obtain⟨v,hv,rfl⟩:=sC.1 h;have kix:=CxQ.ix U hX R1 x.name;obtain⟨q,hix,hld⟩:=R1.atV hv;refine bp (M:=166) (rs:=[.tmp 4]) (Y.call _) Y.aG Y.aB func55 rfl rfl rA.2 rfl ?_;dsimp only[rA,bm,Nat.reduceAdd];repeat' (first
    |(apply aj ?_;clear hK K)|apply bQ ?_|(apply iz ?_;first|refine bK (kix) ?_)|(apply bu ?_ ?_<;>(intro hb hbp;try(cases hb;done)))|(apply am fun K hK=>?_)|(apply ci 5 [(3,7),(3,11),(6,7),(9,11)] fun K hK=>?_)|(apply bD ?_;try intro _)|(apply ch ?_ ?_<;>clear hK K)|fail)
   .exact cn
   all_goals refine qq ?_
   exact⟨rfl,S,lv,R1,F1⟩
  rw[af h2]at h;by_cases h3:x.am=3
  .rw[ai h3]at h;simp only[iD]at h;obtain⟨k,hk,I,he,a,ha,rfl⟩:=h;have ha':X.p.aa[bV (c.aa.map (·.name)) x.name]?=some a:=by rw[hX.ar];exact ha
   have hFc:Fin (eO a.len I.1 I.2):=hF.le (cC _ _).le;refine bp (M:=166) (rs:=[.tmp 4]) (Y.call _) Y.aG Y.aB func55 rfl rfl rA.2 rfl ?_;dsimp only[rA,bm,Nat.reduceAdd];repeat' (first
    |(apply aj ?_;clear hK K)|apply bQ ?_|(apply bu ?_ ?_<;>(intro hb hbp;try(cases hb;done)))|(apply am fun K hK=>?_)|fail)
   refine qc ?_;refine aF ?_ (IH k s I he (hFc.le (r0 _ _ _).le) R1);rintro v H2 ⟨rfl,S2,lv2,R2,O⟩;have g2:=fS hR O;have kax:=U2 U hX R2 x.name;dsimp only[aC];repeat' (first
    |(apply aj ?_;clear hK K)|apply aV ?_|(apply eu ?_;first|refine bK (kax) ?_)|(apply am fun K hK=>?_)|fail)
   refine qc ?_;refine aF ?_ (U1 U R2 (bV (c.aa.map (·.name)) x.name) I.1 ha' hFc);rintro w H3 ⟨S3,lv3,R3,F3⟩;have m3:=R3.m;unfold bO at m3;dsimp only[aC];refine cY fun K hK=>?_;refine qc ?_;refine aF ?_ (lI U (R3.alloc _) ⟨23,bV (c.aa.map (·.name)) x.name,[(eO a.len I.1 I.2).ab,I.1]⟩ rfl dZ (bT _) hF rfl rfl);intro w H4 h4;have h5:=h4.db (F1.trans (O.trans (F3.trans ((fy X S3 vv H3).alloc _))));obtain⟨rfl,h6⟩:=h4;dsimp only[aC];refine gW ?_;all_goals refine qq ?_
   exact h5
  rw[af h3]at h;by_cases h5:x.am=5
  .rw[ai h5]at h;simp only[iD]at h;obtain⟨k0,hk0,br,e0,k1,hk1,I,e1,k2,hk2,z,e2,rfl⟩:=h;have hFt:Fin (bA br.1 I.2.ab (bA br.1 I.1 z.1 z.2).2.ab (bA br.1 I.1 z.1 z.2).2).2:=hF.le ⟨rW _,ay _⟩;have hFv:Fin (bA br.1 I.1 z.1 z.2).2:=hFt.le (eZ _ _ _ _).le;have hF2:Fin z.2:=hFv.le (eZ _ _ _ _).le;have j:Fin I.2:=(hF2.le (dr c n _ _ _ e2).le).le ⟨rW _,ay _⟩;have hF0:Fin br.2:=j.le (dr c n _ _ _ e1).le;refine bp (M:=166) (rs:=[.tmp 4]) (Y.call _) Y.aG Y.aB func55 rfl rfl rA.2 rfl ?_;dsimp only[rA,bm,Nat.reduceAdd];repeat' (first
    |(apply aj ?_;clear hK K)|apply bQ ?_|(apply bu ?_ ?_<;>(intro hb hbp;try(cases hb;done)))|(apply am fun K hK=>?_)|fail)
   refine qc ?_;refine aF ?_ (IH k0 s br e0 hF0 R1);rintro v H2 ⟨rfl,S2,lv2,R2,O⟩;have g2:=fS hR O;have m2:=R2.m;unfold bO at m2;dsimp only[aC];refine xI fun K hK=>?_;refine qc ?_;refine aF ?_ (IH k1 _ I e1 j R2);rintro v H3 ⟨rfl,S3,lv3,R3,F3⟩;have g3:=fS hR (O.trans F3);have m3:=R3.m;obtain⟨R3s,F3s⟩:=R3.setS br.2.ab;have g3s:=fS hR (O.trans (F3.trans F3s));unfold bO at m3;dsimp only[bO]at R3s F3s g3s;dsimp only[aC];refine Cg fun K hK=>?_;refine qc ?_;refine aF ?_ (IH k2 _ z e2 hF2 R3s);rintro v H4 ⟨rfl,S4,lv4,R4,F4⟩;dsimp only[aC];refine cY fun K hK=>?_;refine qc ?_;refine aF ?_ (zp U R4 br.1 I.1 z.1 hFv);rintro v H5 ⟨rfl,S5,lv5,R5,F5⟩;have m5:=R5.m;unfold bO at m5;dsimp only[aC];refine cY fun K hK=>?_;refine qc ?_;refine aF ?_ (zp U R5 br.1 I.2.ab _ hFt);rintro v H6 ⟨rfl,S6,J,R6,F6⟩;have m6:=R6.m;unfold bO at m6;dsimp only[aC];refine gW ?_;all_goals refine qq ?_
   obtain⟨R7,F7⟩:=R6.setS (bA br.1 I.2.ab (bA br.1 I.1 z.1 z.2).2.ab (bA br.1 I.1 z.1 z.2).2).1;exact⟨rfl,S6,J,R7,F1.trans (O.trans (F3.trans (F3s.trans (F4.trans (F5.trans (F6.trans F7))))))⟩
  rw[af h5]at h;simp only[gG]at h;obtain⟨k0,hk0,br,e0,h⟩:=h;by_cases hz:x.ao.length=1
  .rw[ai hz,aQ]at h;subst h;have hF0:Fin br.2:=hF.le (cC _ _).le;have hz':((x.ao.length:Nat):Int)=1:=ac;refine bp (M:=166) (rs:=[.tmp 4]) (Y.call _) Y.aG Y.aB func55 rfl rfl rA.2 rfl ?_;dsimp only[rA,bm,Nat.reduceAdd];repeat' (first
    |(apply aj ?_;clear hK K)|apply bQ ?_|(apply bu ?_ ?_<;>(intro hb hbp;try(cases hb;done)))|(apply am fun K hK=>?_)|fail)
   refine qc ?_;refine aF ?_ (IH k0 s br e0 hF0 R1);rintro v H2 ⟨rfl,S2,lv2,R2,O⟩;have g2:=fS hR O;dsimp only[aC];repeat' (first
    |(apply aj ?_;clear hK K)|apply bQ ?_|(apply bu ?_ ?_<;>(intro hb hbp;try(cases hb;done)))|(apply am fun K hK=>?_)|fail)
   refine qc ?_;refine aF ?_ (lI U (R2.alloc _) ⟨x.op,0,[br.1]⟩ rfl dZ (bT _) hF rfl rfl);intro w H4 h4;have h5:=h4.db (F1.trans (O.trans ((fy X S2 vv H2).alloc _)));obtain⟨rfl,h6⟩:=h4;dsimp only[aC];refine gW ?_;all_goals refine qq ?_
   exact h5
  rw[af hz]at h;simp only[iD]at h;obtain⟨k1,hk1,I,e1,rfl⟩:=h;have hz':¬((x.ao.length:Nat):Int)=1:=ac;have V:Fin (if x.op=7\/x.op=8 then mF I.1 I.2 else I.2):=hF.le (cC _ _).le;have j:Fin I.2:=by
   split at V
   .exact V.le (Bk _ _).le
   .exact V
  have hF0:Fin br.2:=j.le (dr c n _ _ _ e1).le;generalize hq:(if x.op=7\/x.op=8 then mF I.1 I.2 else I.2)=q at *;refine bp (M:=166) (rs:=[.tmp 4]) (Y.call _) Y.aG Y.aB func55 rfl rfl rA.2 rfl ?_;dsimp only[rA,bm,Nat.reduceAdd];repeat' (first
   |(apply aj ?_;clear hK K)|apply bQ ?_|(apply bu ?_ ?_<;>(intro hb hbp;try(cases hb;done)))|(apply am fun K hK=>?_)|fail)
  refine qc ?_;refine aF ?_ (IH k0 s br e0 hF0 R1);rintro v H2 ⟨rfl,S2,lv2,R2,O⟩;have g2:=fS hR O;dsimp only[aC];repeat' (first
   |(apply aj ?_;clear hK K)|apply bQ ?_|(apply bu ?_ ?_<;>(intro hb hbp;try(cases hb;done)))|(apply am fun K hK=>?_)|fail)
  refine qc ?_;refine aF ?_ (IH k1 _ I e1 j R2);rintro v H3 ⟨rfl,S3,lv3,R3,F3⟩;have g3:=fS hR (O.trans F3);have F123:=F1.trans (O.trans F3);dsimp only[aC];by_cases hd:x.op=7\/x.op=8
  .rw[ai hd]at hq;subst hq;have hFq:Fin (ah ⟨16,0,[I.1,(ah ⟨1,0,[]⟩ I.2).1]⟩ (ah ⟨1,0,[]⟩ I.2).2).2:=V.le (rj _ _ _).le;have hFz:Fin (ah ⟨1,0,[]⟩ I.2).2:=hFq.le (cC _ _).le;have hdiv:mF I.1 I.2=kC 1 (ah ⟨16,0,[I.1,(ah ⟨1,0,[]⟩ I.2).1]⟩ (ah ⟨1,0,[]⟩ I.2).2).1 (ah ⟨16,0,[I.1,(ah ⟨1,0,[]⟩ I.2).1]⟩ (ah ⟨1,0,[]⟩ I.2).2).2:=rfl;have hor:x.op=7\/(¬x.op=7/\x.op=8):=ac;rcases hor with h7|⟨h7,h8⟩
   .refine xI fun K hK=>?_;refine qc ?_;refine aF ?_ (tw U R3 1 0 hFz);rintro v H4 ⟨rfl,S4,lv4,R4,F4⟩;dsimp only[aC];refine cY fun K hK=>?_;refine qc ?_;refine aF ?_ (lI U (R4.alloc _) ⟨16,0,[I.1,(ah ⟨1,0,[]⟩ I.2).1]⟩ rfl dZ (bT _) hFq rfl rfl);rintro v H5 ⟨rfl,S5,lv5,R5,F5⟩;have F35:=F123.trans (F4.trans (((fy X S4 vv H4).alloc _).trans F5));have F25:=O.trans (F3.trans (F4.trans (((fy X S4 vv H4).alloc _).trans F5)));clear F4 F5;obtain⟨w,C⟩:∃w,ah ⟨16,0,[I.1,(ah ⟨1,0,[]⟩ I.2).1]⟩ (ah ⟨1,0,[]⟩ I.2).2=w:=⟨_,rfl⟩;rw[C]at R5 hFq;have hdw:mF I.1 I.2=kC 1 w.1 w.2:=by rw[<-C];rfl
    rw[hdw]at V hF;simp only[C];have m5:=R5.m;unfold bO at m5;dsimp only[aC];refine cY fun K hK=>?_;refine qc ?_;refine aF ?_ (lI U (R5.alloc _) ⟨27,1,[w.2.ab,w.1]⟩ rfl dZ (bT _) (V.le ⟨rW _,ay _⟩) rfl rfl);rintro v H6 ⟨rfl,S6,J,R6,F6⟩;have F26:=F25.trans (((fy X S5 vv H5).alloc _).trans F6);have F36:=F35.trans (((fy X S5 vv H5).alloc _).trans F6);have m6:=R6.m;obtain⟨R7,F7⟩:=R6.setS (ah ⟨27,1,[w.2.ab,w.1]⟩ w.2).1;have g7:=fS hR (F26.trans F7);have R7':zd2 X (H6.set X.b (.cells (bO X { (ah ⟨27,1,[w.2.ab,w.1]⟩ w.2).2 with ab:=(ah ⟨27,1,[w.2.ab,w.1]⟩ w.2).1} J vv) 0 true)) S6 (kC 1 w.1 w.2) J vv:=R7;have Z:=lI U (R7'.alloc (.cells [.int .i64 br.1,.int .i64 I.1] 0 true)) ⟨x.op,0,[br.1,I.1]⟩ rfl dZ (bT _) hF h7 rfl;unfold bO at m6;dsimp only[bO]at g7 Z F7;simp only[bq]at Z;dsimp only[aC];refine cY fun K hK=>?_;refine qc ?_;refine aF ?_ Z;intro v H8 m;have h9q:=m.db (F36.trans (F7.trans ((fy X S6 vv _).alloc _)));obtain⟨rfl,h6q⟩:=m;dsimp only[aC];refine gW ?_;all_goals refine qq ?_
    simp_all
   .refine xI fun K hK=>?_;refine qc ?_;refine aF ?_ (tw U R3 1 0 hFz);rintro v H4 ⟨rfl,S4,lv4,R4,F4⟩;dsimp only[aC];refine cY fun K hK=>?_;refine qc ?_;refine aF ?_ (lI U (R4.alloc _) ⟨16,0,[I.1,(ah ⟨1,0,[]⟩ I.2).1]⟩ rfl dZ (bT _) hFq rfl rfl);rintro v H5 ⟨rfl,S5,lv5,R5,F5⟩;have F35:=F123.trans (F4.trans (((fy X S4 vv H4).alloc _).trans F5));have F25:=O.trans (F3.trans (F4.trans (((fy X S4 vv H4).alloc _).trans F5)));clear F4 F5;obtain⟨w,C⟩:∃w,ah ⟨16,0,[I.1,(ah ⟨1,0,[]⟩ I.2).1]⟩ (ah ⟨1,0,[]⟩ I.2).2=w:=⟨_,rfl⟩;rw[C]at R5 hFq;have hdw:mF I.1 I.2=kC 1 w.1 w.2:=by rw[<-C];rfl
    rw[hdw]at V hF;simp only[C];have m5:=R5.m;unfold bO at m5;dsimp only[aC];refine cY fun K hK=>?_;refine qc ?_;refine aF ?_ (lI U (R5.alloc _) ⟨27,1,[w.2.ab,w.1]⟩ rfl dZ (bT _) (V.le ⟨rW _,ay _⟩) rfl rfl);rintro v H6 ⟨rfl,S6,J,R6,F6⟩;have F26:=F25.trans (((fy X S5 vv H5).alloc _).trans F6);have F36:=F35.trans (((fy X S5 vv H5).alloc _).trans F6);have m6:=R6.m;obtain⟨R7,F7⟩:=R6.setS (ah ⟨27,1,[w.2.ab,w.1]⟩ w.2).1;have g7:=fS hR (F26.trans F7);have R7':zd2 X (H6.set X.b (.cells (bO X { (ah ⟨27,1,[w.2.ab,w.1]⟩ w.2).2 with ab:=(ah ⟨27,1,[w.2.ab,w.1]⟩ w.2).1} J vv) 0 true)) S6 (kC 1 w.1 w.2) J vv:=R7;have Z:=lI U (R7'.alloc (.cells [.int .i64 br.1,.int .i64 I.1] 0 true)) ⟨x.op,0,[br.1,I.1]⟩ rfl dZ (bT _) hF h8 rfl;unfold bO at m6;dsimp only[bO]at g7 Z F7;simp only[bq]at Z;dsimp only[aC];refine cY fun K hK=>?_;refine qc ?_;refine aF ?_ Z;intro v H8 m;have h9q:=m.db (F36.trans (F7.trans ((fy X S6 vv _).alloc _)));obtain⟨rfl,h6q⟩:=m;dsimp only[aC];refine gW ?_;all_goals refine qq ?_
    simp_all
  .rw[af hd]at hq;subst hq;have h7:¬x.op=7:=fun e=>hd (.inl e);have h8:¬x.op=8:=fun e=>hd (.inr e);refine xI fun K hK=>?_;refine qc ?_;refine aF ?_ (lI U (R3.alloc _) ⟨x.op,0,[br.1,I.1]⟩ rfl dZ (bT _) hF rfl rfl);intro w H4 h4;have h5:=h4.db (F123.trans ((fy X S3 vv H3).alloc _));obtain⟨rfl,h6⟩:=h4;dsimp only[aC];refine gW ?_;all_goals refine qq ?_
   exact h5
end
end Go.Proofs.YtpbcimfiofmoeaaGreat
